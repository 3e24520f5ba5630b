/- FhistPairs: the part that this text bears of the proof that the statement answers true for every input. No condition. -/
import Derived.Test.YtacgeafjilipdaaProg
import Derived.Below
import Derived.Deep.Draws
import Derived.Deep.AppendLies
import Derived.Maps.AppendAt
import Derived.OwnWalk
import Derived.Laws.BytesArg
import Derived.Laws.MakeOwn
import Derived.Laws.OwnMore
import Derived.Deep.OwnRows
import Derived.Tactics
import Derived.Lib.ConvBytes
import Derived.Laws.Slices
import Derived.WalkKit
import Derived.KernelRfl
import Derived.RowKit3
import Derived.Deep.LoopGhost
import Derived.Deep.QuietTactic
import Derived.BigQuiet
import Derived.WideLaws
import Derived.Deep.DeepCutAuto
import Derived.Deep.CutBlock
import Derived.Deep.RegionHeld3
import Derived.Laws.Rows
import Derived.Lib.AppendStr
import Derived.ArgAppend
import Derived.Laws.IdiomCopy
import Derived.OrdersHeld
import Derived.Laws.BitsLemmas
import Derived.RowKit
import Derived.Deep.Slices
import Derived.ChangeArms
import Derived.Shelf.Abstract
import Derived.WalkSpells
import Derived.RangeFuncNested
import Derived.RangeFuncBound
import Derived.RangeFuncCalls
import Derived.RangeFuncLeaves
import Derived.RangeFuncBox
import Derived.OwnWalkIn
import Derived.TacticsInMore
import Derived.LoopNIn
import Derived.LoopIn
import Derived.RegionIn
import Derived.Sort.QuietTacIn
import Derived.Deep.RegionWith
import Derived.ChangeKeysEq
import Derived.Great.Frames
import Derived.Laws.Externs
import Derived.ProofKit
import Derived.JoinedOf
import Derived.OpenShut
import Derived.ShutString
import Derived.ChangeOld
import Derived.SizedLaws
import Derived.Test.YtacgeafjilipdaaQFhistPairsWWords
import Derived.Test.YtacgeafjilipdaaQFhistPairsWLast
import Derived.Test.YtacgeafjilipdaaQFhistPairsWTab
import Derived.Test.YtacgeafjilipdaaQFhistPairsWFour
import Derived.Test.YtacgeafjilipdaaQFhistPairsWQPut
import Derived.Test.YtacgeafjilipdaaQFhistPairsWApart
import Derived.Test.YtacgeafjilipdaaQFhistPairsWArr
import Derived.Test.YtacgeafjilipdaaQFhistPairsWZeros
import Derived.Test.YtacgeafjilipdaaQFhistPairsWFoot
import Derived.Test.YtacgeafjilipdaaQFhistPairsWKept
import Derived.Test.YtacgeafjilipdaaQFhistPairsWShare
import Derived.Test.YtacgeafjilipdaaQFhistPairsWN
import Derived.Test.YtacgeafjilipdaaQFhistPairsWFootNe
import Derived.Test.YtacgeafjilipdaaQFhistPairsWAt
import Derived.Test.YtacgeafjilipdaaQFhistPairsWEqStruct
import Derived.Test.YtacgeafjilipdaaQFhistPairsWRepsOne
import Derived.Test.YtacgeafjilipdaaQFhistPairsWInv
import Derived.Test.YtacgeafjilipdaaQFhistPairsWInvWords
import Derived.Test.YtacgeafjilipdaaQFhistPairsWGuard
import Derived.Test.YtacgeafjilipdaaQFhistPairsWNEv
import Derived.Test.YtacgeafjilipdaaQFhistPairsWMore
import Derived.Test.YtacgeafjilipdaaRows
import Derived.Test.YtacgeafjilipdaaQFhistPairs0
namespace Go.Proofs.Ytacgeafjilipdaa.P
open Go.RowKit Go.Shelf Go.Proofs.YtacgeafjilipdaaW.PrintWords Go.Proofs.YtacgeafjilipdaaW.PrintLast Go.Proofs.YtacgeafjilipdaaW.PrintMore
set_option linter.unusedVariables false
set_option linter.unusedSimpArgs false
def Blk (w : World) (g : Nat) (cs : Array Value) (t : TypeId) : Prop := w.heap[g]? = some (.cells cs t (0, 0))
theorem Blk.below {w w' : World} {g : Nat} {cs : Array Value} {t : TypeId} (h : Blk w g cs t) (hb : Below w.heap.size w w') : Blk w' g cs t := blk_below h hb
theorem Blk.cell {w : World} {g : Nat} {cs : Array Value} {t : TypeId} (h : Blk w g cs t) (i : Nat) : w.cell? ⟨g, i, none⟩ = cs[i]? := blk_cell h i
theorem Blk.new (w : World) (cs : Array Value) (t : TypeId) : Blk (w.alloc (.cells cs t)) w.heap.size cs t := blk_new w _
theorem Blk.alloc {w : World} {g : Nat} {cs : Array Value} {t : TypeId} (h : Blk w g cs t) (o : Obj) : Blk (w.alloc o) g cs t := blk_alloc h o
theorem Blk.at1 {w : World} (o : Obj) (cs : Array Value) (t : TypeId) : Blk ((w.alloc o).alloc (.cells cs t)) (w.heap.size + 1) cs t := by have := Blk.new (w.alloc o) cs t; simpa using this
abbrev kRsp := k147
def HR (w : World) (v : Value) (h : Hi) : Prop :=
  ∃ v5 v6 v7 v8, v = .agg #[.int .i64 h.f0, .int .u64 h.f1, .int .u64 h.f2, .int .u64 h.f3, .int .u64 h.f4, v5, v6, v7, v8] ∧ SI kRsp w v5 (h.f5.map toR) ∧ SI kRsp w v6 (h.f6.map toR) ∧ SI (Kd.int .i64) w v7 h.f7 ∧ SI (Kd.int .i64) w v8 h.f8
theorem HR.below {w w' : World} {v : Value} {h : Hi} (x : HR w v h) (hb : Below w.heap.size w w') : HR w' v h := by
  obtain ⟨v5, v6, v7, v8, e, h5, h6, h7, h8⟩ := x
  exact ⟨v5, v6, v7, v8, e, h5.below hb, h6.below hb, h7.below hb, h8.below hb⟩
theorem HR.open_ {w : World} {v : Value} {h : Hi} (x : HR w v h) : ∃ A5 c5 A6 c6 A7 c7 A8 c8, v = .agg #[.int .i64 h.f0, .int .u64 h.f1, .int .u64 h.f2, .int .u64 h.f3, .int .u64 h.f4, .slice A5 h.f5.length c5, .slice A6 h.f6.length c6, .slice A7 h.f7.length c7, .slice A8 h.f8.length c8] ∧
    SI kRsp w (.slice A5 h.f5.length c5) (h.f5.map toR) ∧ SI kRsp w (.slice A6 h.f6.length c6) (h.f6.map toR) ∧ SI (Kd.int .i64) w (.slice A7 h.f7.length c7) h.f7 ∧ SI (Kd.int .i64) w (.slice A8 h.f8.length c8) h.f8 := by
  obtain ⟨v5, v6, v7, v8, rfl, h5, h6, h7, h8⟩ := x
  obtain ⟨A5, c5, rfl, h51, h52⟩ := h5
  obtain ⟨A6, c6, rfl, h61, h62⟩ := h6
  obtain ⟨A7, c7, rfl, h71, h72⟩ := h7
  obtain ⟨A8, c8, rfl, h81, h82⟩ := h8
  rw [List.length_map]
  rw [List.length_map]
  refine ⟨A5, c5, A6, c6, A7, c7, A8, c8, rfl, ⟨A5, c5, by rw [List.length_map], h51, h52⟩, ⟨A6, c6, by rw [List.length_map], h61, h62⟩, .of h72 h71, .of h82 h81⟩
end Go.Proofs.Ytacgeafjilipdaa.P
namespace Go.Proofs.Ytacgeafjilipdaa.P
open Go.RowKit Go.Shelf Go.Proofs.YtacgeafjilipdaaW.PrintWords Go.Proofs.YtacgeafjilipdaaW.PrintLast Go.Proofs.YtacgeafjilipdaaW.PrintMore
set_option linter.unusedVariables false
set_option linter.unusedSimpArgs false
theorem SI.V {w : World} {e : Nat} {A : Option Addr} {c : Nat} {l : List Int} (hc : l.length ≤ c) (hr : (Kd.int .i64).C w A l.length l) : Kd.V (Kd.int .i64) e w w.heap.size (fun k_ => (fun k => k < w.heap.size) k_) (.slice A l.length c) l := ⟨_, _, rfl, hc, Kd.C_F (Kd.heap_int .i64) hr⟩
end Go.Proofs.Ytacgeafjilipdaa.P
namespace Go.Proofs.Ytacgeafjilipdaa.P
open Go.RowKit Go.Proofs.YtacgeafjilipdaaW.PrintWords Go.Proofs.YtacgeafjilipdaaW.PrintLast Go.Proofs.YtacgeafjilipdaaW.PrintMore
attribute [local go_sem] max2_int min2_int max_two min_two max_three min_three max_four min_four
set_option linter.unusedVariables false
set_option linter.unusedSimpArgs false
attribute [local go_sem high] eqA123
def pairs_Pair_uint64_183.l0 : Nat → List (S123) → List (S123) → Int → Int → Option (Bool)
 | 0, _, _, _, _ => none
 | k + 1, x0, x1, x12, x13 => if x13 < x12 then (if 0 ≤ x13 then (if x13 < (x0.length : Int) then (if x13 < (x1.length : Int) then (if (!(((rd_T123 x0 x13).f0) == ((rd_T123 x1 x13).f0)) || (!(((rd_T123 x0 x13).f1) == ((rd_T123 x1 x13).f1)))) = true then (some false) else (pairs_Pair_uint64_183.l0 k x0 x1 x12 (wrap64 (x13 + 1)))) else (none)) else (none)) else (none)) else (some true)
def pairs_Pair_uint64_183.f (k : Nat) (l0 : List (S123)) (l1 : List (S123)) : Option (Bool) := if (l0.length : Int) = (l1.length : Int) then (pairs_Pair_uint64_183.l0 k l0 l1 (l0.length : Int) 0) else (some false)
set_option maxHeartbeats 8000000 in
set_option maxRecDepth 100000 in
theorem pairs_Pair_uint64_183.calls (k : Nat) (A0 : Option Addr) (c0 : Nat) (l0 : List (S123)) (A1 : Option Addr) (c1 : Nat) (l1 : List (S123)) (r : Bool) (w : World) (hr0 : Kd.C k123 w A0 l0.length l0) (hc0 : l0.length ≤ c0) (hr1 : Kd.C k123 w A1 l1.length l1) (hc1 : l1.length ≤ c1) (h : pairs_Pair_uint64_183.f k l0 l1 = some r) :
  Calls Try.prog 183 #[.slice A0 l0.length c0, .slice A1 l1.length c1] w fun e w' => e = .returned (.bool r) ∧ Drawn0 w w' := by
 have hu123 := Try.underlying123
 have HR0 := Aside0.mk hr0
 have HC0 := Aside0.mk hc0
 clear hr0 hc0
 have HR1 := Aside0.mk hr1
 have HC1 := Aside0.mk hc1
 clear hr1 hc1
 have H : (if (l0.length : Int) = (l1.length : Int) then (pairs_Pair_uint64_183.l0 k l0 l1 (l0.length : Int) 0) else (some false)) = some r := h
 clear h
 by_cases c3 : (l0.length : Int) = (l1.length : Int)
 ·rw [if_pos c3] at H
  have c3b0 : ((l0.length : Int) == (l1.length : Int)) = true := beq_iff_eq.mpr c3
  have c3b1 : ((l0.length : Int) != (l1.length : Int)) = false := bne_eq_false_iff_eq.mpr c3
  have c3b2 : (l0.length == l1.length) = true := by first | simpa using c3 | (simp at c3 ⊢; omega)
  clear c3
  have H' := Aside0.mk H
  clear H
  go_enter Try.func183, Try.ntmps183
  go_wp2
  repeat (go_quiet (fail); try go_wp2)
  go_loopg [13] k (fun kq v13 w' => ∃ (x13_1 : Int), v13 = .int .i64 x13_1 ∧ Aside0 (pairs_Pair_uint64_183.l0 kq l0 l1 (l0.length : Int) x13_1 = some r) ∧ Aside0 (kq ≤ k) ∧ Drawn0 w w')
  case atStart => exact ⟨(0), (by first | rfl | (simp; done) | (simp [*]; done)), H', ⟨Nat.le_refl _⟩, by repeat (first | exact Drawn0.refl _ | apply Drawn0.step)⟩
  case round =>
   clear H'
   try clear c1
   try clear p2
   try clear c3
   try clear c3b0
   try clear c3b1
   try clear c3b2
   obtain ⟨x13_1, rfl, HA, HK1, ⟨m1, rfl⟩⟩ := hrel
   cases gk with
   | zero => exact absurd HA.out (by simp [pairs_Pair_uint64_183.l0])
   | succ k1 =>
    have H := HA.out
    clear HA
    simp only [pairs_Pair_uint64_183.l0] at H
    by_cases c4 : x13_1 < (l0.length : Int)
    ·rw [if_pos c4] at H
     have c4b0 : decide (x13_1 < (l0.length : Int)) = true := decide_eq_true c4
     clear c4
     by_cases c5 : 0 ≤ x13_1
     ·rw [if_pos c5] at H
      have c5b0 : decide (0 ≤ x13_1) = true := decide_eq_true c5
      clear c5
      by_cases c6 : x13_1 < (l0.length : Int)
      ·rw [if_pos c6] at H
       have c6b0 : decide (x13_1 < (l0.length : Int)) = true := decide_eq_true c6
       clear c6
       by_cases c7 : x13_1 < (l1.length : Int)
       ·rw [if_pos c7] at H
        have c7b0 : decide (x13_1 < (l1.length : Int)) = true := decide_eq_true c7
        clear c7
        by_cases c8 : (!(((rd_T123 l0 x13_1).f0) == ((rd_T123 l1 x13_1).f0)) || (!(((rd_T123 l0 x13_1).f1) == ((rd_T123 l1 x13_1).f1)))) = true
        ·rw [if_pos c8] at H
         have c8b0 : (!(((rd_T123 l0 x13_1).f0) == ((rd_T123 l1 x13_1).f0)) || (!(((rd_T123 l0 x13_1).f1) == ((rd_T123 l1 x13_1).f1)))) = true := c8
         clear c8
         obtain rfl := Option.some.inj H
         have p101 : 0 ≤ (x13_1 : Int) := of_decide_eq_true (by first | (with_reducible assumption) | assumption)
         have q101 : x13_1 < (l0.length : Int) := of_decide_eq_true (by first | (with_reducible assumption) | assumption)
         obtain ⟨ad101, e101, hx101_0, hx101_1⟩ := at_T123 HR0.out x13_1 p101 q101
         cases e101
         replace p101 := eq_true p101
         replace q101 := eq_true q101
         have p102 : 0 ≤ (x13_1 : Int) := of_decide_eq_true (by first | (with_reducible assumption) | assumption)
         have q102 : x13_1 < (l1.length : Int) := of_decide_eq_true (by first | (with_reducible assumption) | assumption)
         obtain ⟨ad102, e102, hx102_0, hx102_1⟩ := at_T123 HR1.out x13_1 p102 q102
         cases e102
         replace p102 := eq_true p102
         replace q102 := eq_true q102
         go_wp2
         repeat (go_quiet (fail); try go_wp2)
         go_ret
         exact ⟨by first | rfl | (simp; done) | (simp [*]; done), by repeat (first | exact Drawn0.refl _ | apply Drawn0.step)⟩
        ·rw [if_neg c8] at H
         have c8b0 : (!(((rd_T123 l0 x13_1).f0) == ((rd_T123 l1 x13_1).f0)) || (!(((rd_T123 l0 x13_1).f1) == ((rd_T123 l1 x13_1).f1)))) = false := by simpa using c8
         clear c8
         have H' := Aside0.mk H
         clear H
         have p101 : 0 ≤ (x13_1 : Int) := of_decide_eq_true (by first | (with_reducible assumption) | assumption)
         have q101 : x13_1 < (l0.length : Int) := of_decide_eq_true (by first | (with_reducible assumption) | assumption)
         obtain ⟨ad101, e101, hx101_0, hx101_1⟩ := at_T123 HR0.out x13_1 p101 q101
         cases e101
         replace p101 := eq_true p101
         replace q101 := eq_true q101
         have p102 : 0 ≤ (x13_1 : Int) := of_decide_eq_true (by first | (with_reducible assumption) | assumption)
         have q102 : x13_1 < (l1.length : Int) := of_decide_eq_true (by first | (with_reducible assumption) | assumption)
         obtain ⟨ad102, e102, hx102_0, hx102_1⟩ := at_T123 HR1.out x13_1 p102 q102
         cases e102
         replace p102 := eq_true p102
         replace q102 := eq_true q102
         go_wp2
         repeat (go_quiet (fail); try go_wp2)
         go_roundg k1
         case measure => have := HK1.out; omega
         case rel => exact ⟨(wrap64 (x13_1 + 1)), (by first | rfl | (simp; done) | (simp [*]; done)), H', ⟨by have := HK1.out; omega⟩, by repeat (first | exact Drawn0.refl _ | apply Drawn0.step)⟩
       ·rw [if_neg c7] at H
        exact absurd H (by simp)
      ·rw [if_neg c6] at H
       exact absurd H (by simp)
     ·rw [if_neg c5] at H
      exact absurd H (by simp)
    ·rw [if_neg c4] at H
     have c4b0 : decide (x13_1 < (l0.length : Int)) = false := decide_eq_false c4
     clear c4
     obtain rfl := Option.some.inj H
     go_wp2
     repeat (go_quiet (fail); try go_wp2)
     go_ret
     exact ⟨by first | rfl | (simp; done) | (simp [*]; done), by repeat (first | exact Drawn0.refl _ | apply Drawn0.step)⟩
 ·rw [if_neg c3] at H
  have c3b0 : ((l0.length : Int) == (l1.length : Int)) = false := beq_eq_false_iff_ne.mpr c3
  have c3b1 : ((l0.length : Int) != (l1.length : Int)) = true := bne_iff_ne.mpr c3
  have c3b2 : (l0.length == l1.length) = false := by first | simpa using c3 | (simp at c3 ⊢; omega)
  obtain rfl := Option.some.inj H
  go_enter Try.func183, Try.ntmps183
  go_wp2
  repeat (go_quiet (fail); try go_wp2)
  go_ret
  exact ⟨by first | rfl | (simp; done) | (simp [*]; done), by repeat (first | exact Drawn0.refl _ | apply Drawn0.step)⟩
end Go.Proofs.Ytacgeafjilipdaa.P
namespace Go.Proofs.Ytacgeafjilipdaa.P
open Go.RowKit Go.Proofs.YtacgeafjilipdaaW.PrintWords Go.Proofs.YtacgeafjilipdaaW.PrintLast Go.Proofs.YtacgeafjilipdaaW.PrintMore
attribute [local go_sem] max2_int min2_int max_two min_two max_three min_three max_four min_four
set_option linter.unusedVariables false
set_option linter.unusedSimpArgs false
def pairs_Zip_uint64.l0 : Nat → List Int → List (S123) → List Int → Int → Int → Option ((List (S123)) × Int)
 | 0, _, _, _, _, _ => none
 | k + 1, x1, x8, x26, x27, x28 => if x28 < x27 then (if 0 ≤ x28 then (if x28 < (x26.length : Int) then (if x28 < (x1.length : Int) then (if x8.length < 8796093022208 then (pairs_Zip_uint64.l0 k x1 (x8 ++ [(⟨rd x26 x28, rd x1 x28⟩ : S123)]) x26 x27 (wrap64 (x28 + 1))) else (none)) else (none)) else (none)) else (none)) else (some (x8, 0))
def pairs_Zip_uint64.f (k : Nat) (l0 : List (S144)) (l1 : List Int) : Option ((List (S123)) × Int) := (span_Places.f k l0).bind fun bt101 => (if bt101.2 = 0 then (if (bt101.1.length : Int) = (l1.length : Int) then (pairs_Zip_uint64.l0 k l1 ([] : List (S123)) bt101.1 (bt101.1.length : Int) 0) else (some (([] : List (S123)), 10))) else (some (([] : List (S123)), bt101.2)))
set_option maxHeartbeats 8000000 in
set_option maxRecDepth 100000 in
theorem pairs_Zip_uint64.calls (k : Nat) (A0 : Option Addr) (c0 : Nat) (l0 : List (S144)) (A1 : Option Addr) (c1 : Nat) (l1 : List Int) (r1 : List (S123)) (r2 : Int) (w : World) (hr0 : Kd.C k144 w A0 l0.length l0) (hc0 : l0.length ≤ c0) (hr1 : Kd.C (Kd.int .u64) w A1 l1.length l1) (hc1 : l1.length ≤ c1) (h : pairs_Zip_uint64.f k l0 l1 = some (r1, r2)) :
  Calls Try.prog 195 #[.slice A0 l0.length c0, .slice A1 l1.length c1] w fun e w' => ∃ v0_ : Value, e = .returned (.tuple #[v0_, .int .i64 r2]) ∧ Kd.R k123 123 w' w.heap.size (fun _ => True) v0_ r1 ∧ Below w.heap.size w w' := by
 have hu123 := Try.underlying123
 have HR0 := Aside0.mk hr0
 have HC0 := Aside0.mk hc0
 clear hr0 hc0
 have HR1 := Aside0.mk hr1
 have HC1 := Aside0.mk hc1
 clear hr1 hc1
 have HB := Aside0.mk (Below.refl w.heap.size w)
 have H : ((span_Places.f k l0).bind fun bt101 => (if bt101.2 = 0 then (if (bt101.1.length : Int) = (l1.length : Int) then (pairs_Zip_uint64.l0 k l1 ([] : List (S123)) bt101.1 (bt101.1.length : Int) 0) else (some (([] : List (S123)), 10))) else (some (([] : List (S123)), bt101.2)))) = some (r1, r2) := h
 clear h
 replace H := Option.bind_eq_some_iff.mp H
 obtain ⟨⟨t101, t102⟩, A30, H⟩ := H
 replace H : (if t102 = 0 then (if (t101.length : Int) = (l1.length : Int) then (pairs_Zip_uint64.l0 k l1 ([] : List (S123)) t101 (t101.length : Int) 0) else (some (([] : List (S123)), 10))) else (some (([] : List (S123)), t102))) = some (r1, r2) := H
 have A3 := Aside0.mk A30
 clear A30
 by_cases c4 : t102 = 0
 ·rw [if_pos c4] at H
  have c4b0 : (t102 == 0) = true := beq_iff_eq.mpr c4
  have c4b1 : (t102 != 0) = false := bne_eq_false_iff_eq.mpr c4
  clear c4
  by_cases c5 : (t101.length : Int) = (l1.length : Int)
  ·rw [if_pos c5] at H
   have c5b0 : ((t101.length : Int) == (l1.length : Int)) = true := beq_iff_eq.mpr c5
   have c5b1 : ((t101.length : Int) != (l1.length : Int)) = false := bne_eq_false_iff_eq.mpr c5
   have c5b2 : (t101.length == l1.length) = true := by first | simpa using c5 | (simp at c5 ⊢; omega)
   clear c5
   have H' := Aside0.mk H
   clear H
   go_enter Try.func195, Try.ntmps195
   go_wp2_with (first | ((with_reducible refine gate_callee (f := 129) rfl ?_); refine goesL_ (some 13) rfl rfl Try.func129 (by kernel_rfl) rfl #[.slice A0 l0.length c0] rfl (by (try simp only [List.map_toArray, List.map_cons, List.map_nil]); first | done | rfl | (simp only [List.length_drop, List.length_take]; rfl)) ?_; (with_reducible refine (span_Places.calls k _ _ l0 t101 t102 _ ?side1 ?side2 A3.out).mono ?_); (case side1 => repeat (first | exact HR0.out | (with_reducible refine Kd.C_alloc ?_ _) | (with_reducible refine Kd.C_drewN ?_ _) | (with_reducible refine Kd.C_drew ?_))); (case side2 => exact HC0.out); rintro e w6 ⟨v103, rfl, ho0, hb⟩; refine ⟨_, rfl, ?_⟩; have n0_ := Aside0.mk (Kd.R_lower ho0 (below_size (by repeat (first | (with_reducible first | exact HB.out | apply below_alloc | apply pw_below_drewN | apply below_drew1) | exact HB.out)))); have n1_ := Aside0.mk (below_step (by repeat (first | (with_reducible first | exact HB.out | apply below_alloc | apply pw_below_drewN | apply below_drew1) | exact HB.out)) hb); clear HB; have HO104 := n0_; have HB := n1_; clear n0_ n1_; (try clear hb); (try clear hb2); (try clear hk); (try clear hi); (try clear ho0); clear A3; obtain ⟨Ao7, co7, eo7⟩ := Kd.R_slice HO104.out; subst eo7))
   go_loopg [8, 28] k (fun kq v8 v28 w' => ∃ (x8_1 : List (S123)) (x28_1 : Int), v28 = .int .i64 x28_1 ∧ Aside0 (pairs_Zip_uint64.l0 kq l1 x8_1 t101 (t101.length : Int) x28_1 = some (r1, r2)) ∧ Aside0 (kq ≤ k) ∧ Aside0 (Kd.R k123 123 w' w.heap.size (fun _ => True) v8 x8_1) ∧ Aside0 (Kd.R (Kd.int .i64) 3 w' w.heap.size (fun _ => True) (.slice Ao7 t101.length co7) t101) ∧ Aside0 (Below w.heap.size w w'))
   case atStart => exact ⟨(([] : List (S123))), (0), (by first | rfl | (simp; done) | (simp [*]; done)), H', ⟨Nat.le_refl _⟩, ⟨by first | exact Kd.R_nil _ _ _ _ _ | exact Kd.N_nil _ _ _ _ _ | exact Kd.V_nil _ _ _ _ _ | exact Kd.Q_nil _ _ _ _ _ | exact Kd.S_nil _ _ _ _ _⟩, ⟨by (with_reducible repeat (first | apply Kd.R_alloc | apply Kd.R_drewN | apply Kd.R_drew)); exact HO104.out⟩, ⟨by repeat (first | (with_reducible first | exact HB.out | apply below_alloc | apply pw_below_drewN | apply below_drew1) | exact HB.out)⟩⟩
   case round =>
    clear H'
    try clear c1
    try clear p2
    try clear c4
    try clear c4b0
    try clear c4b1
    try clear c5
    try clear c5b0
    try clear c5b1
    try clear c5b2
    obtain ⟨x8_1, x28_1, rfl, HA, HK1, HO_8, HO_26, HB⟩ := hrel
    cases gk with
    | zero => exact absurd HA.out (by simp [pairs_Zip_uint64.l0])
    | succ k1 =>
     have H := HA.out
     clear HA
     simp only [pairs_Zip_uint64.l0] at H
     by_cases c8 : x28_1 < (t101.length : Int)
     ·rw [if_pos c8] at H
      have c8b0 : decide (x28_1 < (t101.length : Int)) = true := decide_eq_true c8
      clear c8
      by_cases c9 : 0 ≤ x28_1
      ·rw [if_pos c9] at H
       have c9b0 : decide (0 ≤ x28_1) = true := decide_eq_true c9
       clear c9
       by_cases c10 : x28_1 < (t101.length : Int)
       ·rw [if_pos c10] at H
        have c10b0 : decide (x28_1 < (t101.length : Int)) = true := decide_eq_true c10
        clear c10
        by_cases c11 : x28_1 < (l1.length : Int)
        ·rw [if_pos c11] at H
         have c11b0 : decide (x28_1 < (l1.length : Int)) = true := decide_eq_true c11
         clear c11
         by_cases c12 : x8_1.length < 8796093022208
         ·rw [if_pos c12] at H
          have LMc12 := Aside0.mk c12
          clear c12
          obtain ⟨y107, hy107⟩ : ∃ y_ : List (S123), y_ = (x8_1 ++ [(⟨rd t101 x28_1, rd l1 x28_1⟩ : S123)]) := ⟨_, rfl⟩
          replace H : (pairs_Zip_uint64.l0 k1 l1 y107 t101 (t101.length : Int) (wrap64 (x28_1 + 1))) = some (r1, r2) := by first | (rw [hy107]; with_reducible exact H) | (have H2_ := (Option.bind_some _ _).symm.trans H; rw [hy107]; with_reducible exact H2_) | (have H2_ := (Option.bind_some _ _).symm.trans H; with_reducible exact H2_) | with_reducible exact H | (rw [hy107]; exact H) | exact H
          have Ny107 := Aside0.mk hy107
          clear hy107
          have H' := Aside0.mk H
          clear H
          have p105 : 0 ≤ (x28_1 : Int) := of_decide_eq_true (by first | (with_reducible assumption) | assumption)
          have q105 : x28_1 < (t101.length : Int) := of_decide_eq_true (by first | (with_reducible assumption) | assumption)
          obtain ⟨ad105, e105, hx105_0⟩ := Kd.at_int (Kd.R_reads' HO_26.out).2.2 x28_1 p105 q105
          cases e105
          replace p105 := eq_true p105
          replace q105 := eq_true q105
          have p106 : 0 ≤ (x28_1 : Int) := of_decide_eq_true (by first | (with_reducible assumption) | assumption)
          have q106 : x28_1 < (l1.length : Int) := of_decide_eq_true (by first | (with_reducible assumption) | assumption)
          obtain ⟨ad106, e106, hx106_0⟩ := Kd.at_int HR1.out x28_1 p106 q106
          cases e106
          replace hx106_0 := (HB.out.cell (World.block_lt_of_cell? w _ hx106_0)).trans hx106_0
          replace p106 := eq_true p106
          replace q106 := eq_true q106
          go_wp2_with (first | ((with_reducible refine gate_builtin (b := .append) (xs := #[.tmp 33, .tmp 40]) rfl ?_); at_builtin; refine Kd.R_append k123 (w0 := w) w.heap.size rfl (.tmp 33) (.tmp 40) 119 123 (.agg #[(.int .i64 0), (.int .u64 0)]) 16 rfl Try.underlying119 info123 rfl (by decide) (by omega) u8 x8_1 (⟨rd t101 x28_1, rd l1 x28_1⟩ : S123) [.int .i64 (rd t101 x28_1), .int .u64 (rd l1 x28_1)] (fun _ => True) (fun _ => False) rfl rfl ?aP (fun _ hk => hk.elim) ?aF ?aO ?aB ?aS ?aL ?_; (case aP => exact k123_mkM _ _ _ (⟨rd t101 x28_1, rd l1 x28_1⟩ : S123)); (case aB => exact (by repeat (first | (with_reducible first | exact HB.out | apply below_alloc | apply pw_below_drewN | apply below_drew1) | exact HB.out))); (case aF => exact (fun _ _ => trivial)); (case aO => exact (by (with_reducible repeat (first | apply Kd.R_alloc | apply Kd.R_drewN | apply Kd.R_drew)); exact HO_8.out)); (case aS => exact (below_size (by repeat (first | (with_reducible first | exact HB.out | apply below_alloc | apply pw_below_drewN | apply below_drew1) | exact HB.out)))); (case aL => have := LMc12.out; omega); intro v108 w13 ho hb hg hat; rw [← Ny107.out] at ho; have n0_ := Aside0.mk (Kd.R_over' (by (with_reducible repeat (first | apply Kd.R_alloc | apply Kd.R_drewN | apply Kd.R_drew)); exact HO_26.out) (Kd.R_typed (by (with_reducible repeat (first | apply Kd.R_alloc | apply Kd.R_drewN | apply Kd.R_drew)); exact HO_8.out)) (by decide) hg); have n1_ := Aside0.mk (hb); have n2_ := Aside0.mk (ho); clear HO_26; clear HB; clear HO_8; have HO_26 := n0_; have HB := n1_; have HO109 := n2_; clear n0_ n1_ n2_; clear ho hb hg hat))
          go_roundg k1
          case measure => have := HK1.out; omega
          case rel => exact ⟨(y107), (wrap64 (x28_1 + 1)), (by first | rfl | (simp; done) | (simp [*]; done)), H', ⟨by have := HK1.out; omega⟩, ⟨by (with_reducible repeat (first | apply Kd.R_alloc | apply Kd.R_drewN | apply Kd.R_drew)); exact HO109.out⟩, ⟨by (with_reducible repeat (first | apply Kd.R_alloc | apply Kd.R_drewN | apply Kd.R_drew)); exact HO_26.out⟩, ⟨by repeat (first | (with_reducible first | exact HB.out | apply below_alloc | apply pw_below_drewN | apply below_drew1) | exact HB.out)⟩⟩
         ·rw [if_neg c12] at H
          exact absurd H (by simp)
        ·rw [if_neg c11] at H
         exact absurd H (by simp)
       ·rw [if_neg c10] at H
        exact absurd H (by simp)
      ·rw [if_neg c9] at H
       exact absurd H (by simp)
     ·rw [if_neg c8] at H
      have c8b0 : decide (x28_1 < (t101.length : Int)) = false := decide_eq_false c8
      clear c8
      simp only [Option.some.injEq, Prod.mk.injEq] at H
      obtain ⟨rfl, rfl⟩ := H
      go_wp2
      go_ret2
      exact ⟨_, by first | rfl | (simp [errW_none, errW_some] <;> rfl) | (simp [*, errW_none, errW_some] <;> rfl), by (with_reducible repeat (first | apply Kd.R_alloc | apply Kd.R_drewN | apply Kd.R_drew)); exact HO_8.out, by repeat (first | (with_reducible first | exact HB.out | apply below_alloc | apply pw_below_drewN | apply below_drew1) | exact HB.out)⟩
  ·rw [if_neg c5] at H
   have c5b0 : ((t101.length : Int) == (l1.length : Int)) = false := beq_eq_false_iff_ne.mpr c5
   have c5b1 : ((t101.length : Int) != (l1.length : Int)) = true := bne_iff_ne.mpr c5
   have c5b2 : (t101.length == l1.length) = false := by first | simpa using c5 | (simp at c5 ⊢; omega)
   simp only [Option.some.injEq, Prod.mk.injEq] at H
   obtain ⟨rfl, rfl⟩ := H
   go_enter Try.func195, Try.ntmps195
   go_wp2_with (first | ((with_reducible refine gate_callee (f := 129) rfl ?_); refine goesL_ (some 13) rfl rfl Try.func129 (by kernel_rfl) rfl #[.slice A0 l0.length c0] rfl (by (try simp only [List.map_toArray, List.map_cons, List.map_nil]); first | done | rfl | (simp only [List.length_drop, List.length_take]; rfl)) ?_; (with_reducible refine (span_Places.calls k _ _ l0 t101 t102 _ ?side1 ?side2 A3.out).mono ?_); (case side1 => repeat (first | exact HR0.out | (with_reducible refine Kd.C_alloc ?_ _) | (with_reducible refine Kd.C_drewN ?_ _) | (with_reducible refine Kd.C_drew ?_))); (case side2 => exact HC0.out); rintro e w14 ⟨v103, rfl, ho0, hb⟩; refine ⟨_, rfl, ?_⟩; have n0_ := Aside0.mk (Kd.R_lower ho0 (below_size (by repeat (first | (with_reducible first | exact HB.out | apply below_alloc | apply pw_below_drewN | apply below_drew1) | exact HB.out)))); have n1_ := Aside0.mk (below_step (by repeat (first | (with_reducible first | exact HB.out | apply below_alloc | apply pw_below_drewN | apply below_drew1) | exact HB.out)) hb); clear HB; have HO104 := n0_; have HB := n1_; clear n0_ n1_; (try clear hb); (try clear hb2); (try clear hk); (try clear hi); (try clear ho0); clear A3; obtain ⟨Ao15, co15, eo15⟩ := Kd.R_slice HO104.out; subst eo15))
   go_ret2
   exact ⟨_, by first | rfl | (simp [errW_none, errW_some] <;> rfl) | (simp [*, errW_none, errW_some] <;> rfl), by first | exact Kd.R_nil _ _ _ _ _ | exact Kd.N_nil _ _ _ _ _ | exact Kd.V_nil _ _ _ _ _ | exact Kd.Q_nil _ _ _ _ _ | exact Kd.S_nil _ _ _ _ _, by repeat (first | (with_reducible first | exact HB.out | apply below_alloc | apply pw_below_drewN | apply below_drew1) | exact HB.out)⟩
 ·rw [if_neg c4] at H
  have c4b0 : (t102 == 0) = false := beq_eq_false_iff_ne.mpr c4
  have c4b1 : (t102 != 0) = true := bne_iff_ne.mpr c4
  simp only [Option.some.injEq, Prod.mk.injEq] at H
  obtain ⟨rfl, rfl⟩ := H
  go_enter Try.func195, Try.ntmps195
  go_wp2_with (first | ((with_reducible refine gate_callee (f := 129) rfl ?_); refine goesL_ (some 13) rfl rfl Try.func129 (by kernel_rfl) rfl #[.slice A0 l0.length c0] rfl (by (try simp only [List.map_toArray, List.map_cons, List.map_nil]); first | done | rfl | (simp only [List.length_drop, List.length_take]; rfl)) ?_; (with_reducible refine (span_Places.calls k _ _ l0 t101 t102 _ ?side1 ?side2 A3.out).mono ?_); (case side1 => repeat (first | exact HR0.out | (with_reducible refine Kd.C_alloc ?_ _) | (with_reducible refine Kd.C_drewN ?_ _) | (with_reducible refine Kd.C_drew ?_))); (case side2 => exact HC0.out); rintro e w16 ⟨v103, rfl, ho0, hb⟩; refine ⟨_, rfl, ?_⟩; have n0_ := Aside0.mk (Kd.R_lower ho0 (below_size (by repeat (first | (with_reducible first | exact HB.out | apply below_alloc | apply pw_below_drewN | apply below_drew1) | exact HB.out)))); have n1_ := Aside0.mk (below_step (by repeat (first | (with_reducible first | exact HB.out | apply below_alloc | apply pw_below_drewN | apply below_drew1) | exact HB.out)) hb); clear HB; have HO104 := n0_; have HB := n1_; clear n0_ n1_; (try clear hb); (try clear hb2); (try clear hk); (try clear hi); (try clear ho0); clear A3))
  go_ret2
  exact ⟨_, by first | rfl | (simp [errW_none, errW_some] <;> rfl) | (simp [*, errW_none, errW_some] <;> rfl), by first | exact Kd.R_nil _ _ _ _ _ | exact Kd.N_nil _ _ _ _ _ | exact Kd.V_nil _ _ _ _ _ | exact Kd.Q_nil _ _ _ _ _ | exact Kd.S_nil _ _ _ _ _, by repeat (first | (with_reducible first | exact HB.out | apply below_alloc | apply pw_below_drewN | apply below_drew1) | exact HB.out)⟩
def pairs_Equal_uint64.f (k : Nat) (l0 : List (S123)) (l1 : List (S123)) : Option (Bool) := (pairs_Pair_uint64_183.f k l0 l1).bind fun t101 => (some t101)
set_option maxHeartbeats 8000000 in
set_option maxRecDepth 100000 in
theorem pairs_Equal_uint64.calls (k : Nat) (A0 : Option Addr) (c0 : Nat) (l0 : List (S123)) (A1 : Option Addr) (c1 : Nat) (l1 : List (S123)) (r : Bool) (w : World) (hr0 : Kd.C k123 w A0 l0.length l0) (hc0 : l0.length ≤ c0) (hr1 : Kd.C k123 w A1 l1.length l1) (hc1 : l1.length ≤ c1) (h : pairs_Equal_uint64.f k l0 l1 = some r) :
  Calls Try.prog 161 #[.slice A0 l0.length c0, .slice A1 l1.length c1] w fun e w' => e = .returned (.bool r) ∧ Drawn0 w w' := by
 have HR0 := Aside0.mk hr0
 have HC0 := Aside0.mk hc0
 clear hr0 hc0
 have HR1 := Aside0.mk hr1
 have HC1 := Aside0.mk hc1
 clear hr1 hc1
 have H : ((pairs_Pair_uint64_183.f k l0 l1).bind fun t101 => (some t101)) = some r := h
 clear h
 replace H := Option.bind_eq_some_iff.mp H
 obtain ⟨t101, A30, H⟩ := H
 replace H : (some t101) = some r := H
 have A3 := Aside0.mk A30
 clear A30
 obtain rfl := Option.some.inj H
 go_enter Try.func161, Try.ntmps161
 go_wp2_with (first | ((with_reducible refine gate_callee (f := 183) rfl ?_); refine goesL_ (some 7) rfl rfl Try.func183 (by kernel_rfl) rfl #[.slice A0 l0.length c0, .slice A1 l1.length c1] rfl (by (try simp only [List.map_toArray, List.map_cons, List.map_nil]); first | done | rfl | (simp only [List.length_drop, List.length_take]; rfl)) ?_; (with_reducible refine (pairs_Pair_uint64_183.calls k _ _ l0 _ _ l1 t101 _ ?side1 ?side2 ?side3 ?side4 A3.out).mono ?_); (case side1 => repeat (first | exact HR0.out | (with_reducible refine Kd.C_alloc ?_ _) | (with_reducible refine Kd.C_drewN ?_ _) | (with_reducible refine Kd.C_drew ?_))); (case side2 => exact HC0.out); (case side3 => repeat (first | exact HR1.out | (with_reducible refine Kd.C_alloc ?_ _) | (with_reducible refine Kd.C_drewN ?_ _) | (with_reducible refine Kd.C_drew ?_))); (case side4 => exact HC1.out); rintro e w' ⟨rfl, ⟨nd, rfl⟩⟩; refine ⟨_, rfl, ?_⟩; clear A3))
 go_ret
 exact ⟨by first | rfl | (simp; done) | (simp [*]; done), by repeat (first | exact Drawn0.refl _ | apply Drawn0.step)⟩
def pairs_Unzip_uint64.l0 : Nat → List Int → List Int → List (S123) → Int → Int → Option ((List (S144)) × List Int × Int)
 | 0, _, _, _, _, _ => none
 | k + 1, x5, x6, x11, x12, x13 => if x13 < x12 then (if 0 ≤ x13 then (if x13 < (x11.length : Int) then ((some (([(rd_T123 x11 x13).f0] : List Int) : List Int)).bind fun y103 => (if x5.length + y103.length < 17592186044416 then ((some (([(rd_T123 x11 x13).f1] : List Int) : List Int)).bind fun y109 => (if x6.length + y109.length < 17592186044416 then (pairs_Unzip_uint64.l0 k (x5 ++ y103) (x6 ++ y109) x11 x12 (wrap64 (x13 + 1))) else (none))) else (none))) else (none)) else (none)) else ((span_From.f k x5).bind fun bt115 => (if bt115.2 = 0 then (some (bt115.1, x6, 0)) else (some (([] : List (S144)), ([] : List Int), bt115.2))))
def pairs_Unzip_uint64.f (k : Nat) (l0 : List (S123)) : Option ((List (S144)) × List Int × Int) := pairs_Unzip_uint64.l0 k ([] : List Int) ([] : List Int) l0 (l0.length : Int) 0
def pairs_Unzip_uint64.T6 : Bool × List (List Nat × List Nat) := (true, [([], []), ([], []), ([1], [1]), ([2], [2]), ([0, 3], [0, 3]), ([], []), ([], []), ([6], [6]), ([7], [7]), ([5, 8, 4], [5, 8]), ([4, 9, 0, 1, 2, 3, 4], [0, 4]), ([9, 10, 0, 1, 2, 3, 4, 5, 6, 7, 8, 9, 10], [5, 9])])
def pairs_Unzip_uint64.B6 : List Nat := [0, 0, 2, 6, 15, 0, 0, 64, 192, 511, 1023, 2047]
theorem pairs_Unzip_uint64.tab6 : rtab .any (opsOf Try.f169 6) = pairs_Unzip_uint64.T6 := by kernel_rfl
theorem pairs_Unzip_uint64.bits6 : waitsOk pairs_Unzip_uint64.T6.2 pairs_Unzip_uint64.B6 = true := by kernel_rfl
set_option maxHeartbeats 8000000 in
set_option maxRecDepth 100000 in
theorem pairs_Unzip_uint64.calls (k : Nat) (A0 : Option Addr) (c0 : Nat) (l0 : List (S123)) (r1 : List (S144)) (r2 : List Int) (r3 : Int) (w : World) (hr0 : Kd.C k123 w A0 l0.length l0) (hc0 : l0.length ≤ c0) (h : pairs_Unzip_uint64.f k l0 = some (r1, r2, r3)) :
  Calls Try.prog 169 #[.slice A0 l0.length c0] w fun e w' => ∃ v0_ v1_ : Value, e = .returned (.tuple #[v0_, v1_, .int .i64 r3]) ∧ Kd.R k144 144 w' w.heap.size (fun _ => True) v0_ r1 ∧ Kd.R (Kd.int .u64) 62 w' w.heap.size (fun _ => True) v1_ r2 ∧ Below w.heap.size w w' := by
 have hu123 := Try.underlying123
 have HR0 := Aside0.mk hr0
 have HC0 := Aside0.mk hc0
 clear hr0 hc0
 have HB := Aside0.mk (Below.refl w.heap.size w)
 have H : (pairs_Unzip_uint64.l0 k ([] : List Int) ([] : List Int) l0 (l0.length : Int) 0) = some (r1, r2, r3) := h
 clear h
 have H' := Aside0.mk H
 clear H
 go_enter Try.func169, Try.ntmps169
 go_wp2
 go_loopg [5, 6, 13] k (fun kq v5 v6 v13 w' => ∃ (x5_1 : List Int) (x6_1 : List Int) (x13_1 : Int), v13 = .int .i64 x13_1 ∧ Aside0 (pairs_Unzip_uint64.l0 kq x5_1 x6_1 l0 (l0.length : Int) x13_1 = some (r1, r2, r3)) ∧ Aside0 (kq ≤ k) ∧ Aside0 (Kd.R (Kd.int .i64) 3 w' w.heap.size (fun _ => True) v5 x5_1) ∧ Aside0 (Kd.R (Kd.int .u64) 62 w' w.heap.size (fun _ => True) v6 x6_1) ∧ Aside0 (Below w.heap.size w w'))
 case atStart => exact ⟨(([] : List Int)), (([] : List Int)), (0), (by first | rfl | (simp; done) | (simp [*]; done)), H', ⟨Nat.le_refl _⟩, ⟨by first | exact Kd.R_nil _ _ _ _ _ | exact Kd.N_nil _ _ _ _ _ | exact Kd.V_nil _ _ _ _ _ | exact Kd.Q_nil _ _ _ _ _ | exact Kd.S_nil _ _ _ _ _⟩, ⟨by first | exact Kd.R_nil _ _ _ _ _ | exact Kd.N_nil _ _ _ _ _ | exact Kd.V_nil _ _ _ _ _ | exact Kd.Q_nil _ _ _ _ _ | exact Kd.S_nil _ _ _ _ _⟩, ⟨by repeat (first | (with_reducible first | exact HB.out | apply below_alloc | apply pw_below_drewN | apply below_drew1) | exact HB.out)⟩⟩
 case round =>
  clear H'
  try clear c1
  obtain ⟨x5_1, x6_1, x13_1, rfl, HA, HK1, HO_5, HO_6, HB⟩ := hrel
  cases gk with
  | zero => exact absurd HA.out (by simp [pairs_Unzip_uint64.l0])
  | succ k1 =>
   have H := HA.out
   clear HA
   simp only [pairs_Unzip_uint64.l0] at H
   by_cases c2 : x13_1 < (l0.length : Int)
   ·rw [if_pos c2] at H
    have c2b0 : decide (x13_1 < (l0.length : Int)) = true := decide_eq_true c2
    clear c2
    by_cases c3 : 0 ≤ x13_1
    ·rw [if_pos c3] at H
     have c3b0 : decide (0 ≤ x13_1) = true := decide_eq_true c3
     clear c3
     by_cases c4 : x13_1 < (l0.length : Int)
     ·rw [if_pos c4] at H
      have c4b0 : decide (x13_1 < (l0.length : Int)) = true := decide_eq_true c4
      clear c4
      obtain ⟨y103, hy103⟩ : ∃ y_ : List Int, y_ = (([(rd_T123 l0 x13_1).f0] : List Int)) := ⟨_, rfl⟩
      replace H : (if x5_1.length + y103.length < 17592186044416 then ((some (([(rd_T123 l0 x13_1).f1] : List Int) : List Int)).bind fun y109 => (if x6_1.length + y109.length < 17592186044416 then (pairs_Unzip_uint64.l0 k1 (x5_1 ++ y103) (x6_1 ++ y109) l0 (l0.length : Int) (wrap64 (x13_1 + 1))) else (none))) else (none)) = some (r1, r2, r3) := by first | (rw [hy103]; with_reducible exact H) | (have H2_ := (Option.bind_some _ _).symm.trans H; rw [hy103]; with_reducible exact H2_) | (have H2_ := (Option.bind_some _ _).symm.trans H; with_reducible exact H2_) | with_reducible exact H | (rw [hy103]; exact H) | exact H
      have Ny103 := Aside0.mk hy103
      clear hy103
      by_cases c5 : x5_1.length + y103.length < 17592186044416
      ·rw [if_pos c5] at H
       have LMc5 := Aside0.mk c5
       clear c5
       obtain ⟨y106, hy106⟩ : ∃ y_ : List Int, y_ = (x5_1 ++ y103) := ⟨_, rfl⟩
       replace H : ((some (([(rd_T123 l0 x13_1).f1] : List Int) : List Int)).bind fun y109 => (if x6_1.length + y109.length < 17592186044416 then (pairs_Unzip_uint64.l0 k1 y106 (x6_1 ++ y109) l0 (l0.length : Int) (wrap64 (x13_1 + 1))) else (none))) = some (r1, r2, r3) := by first | (rw [hy106]; with_reducible exact H) | (have H2_ := (Option.bind_some _ _).symm.trans H; rw [hy106]; with_reducible exact H2_) | (have H2_ := (Option.bind_some _ _).symm.trans H; with_reducible exact H2_) | with_reducible exact H | (rw [hy106]; exact H) | exact H
       have Ny106 := Aside0.mk hy106
       clear hy106
       obtain ⟨y109, hy109⟩ : ∃ y_ : List Int, y_ = (([(rd_T123 l0 x13_1).f1] : List Int)) := ⟨_, rfl⟩
       replace H : (if x6_1.length + y109.length < 17592186044416 then (pairs_Unzip_uint64.l0 k1 y106 (x6_1 ++ y109) l0 (l0.length : Int) (wrap64 (x13_1 + 1))) else (none)) = some (r1, r2, r3) := by first | (rw [hy109]; with_reducible exact H) | (have H2_ := (Option.bind_some _ _).symm.trans H; rw [hy109]; with_reducible exact H2_) | (have H2_ := (Option.bind_some _ _).symm.trans H; with_reducible exact H2_) | with_reducible exact H | (rw [hy109]; exact H) | exact H
       have Ny109 := Aside0.mk hy109
       clear hy109
       by_cases c6 : x6_1.length + y109.length < 17592186044416
       ·rw [if_pos c6] at H
        have LMc6 := Aside0.mk c6
        clear c6
        obtain ⟨y112, hy112⟩ : ∃ y_ : List Int, y_ = (x6_1 ++ y109) := ⟨_, rfl⟩
        replace H : (pairs_Unzip_uint64.l0 k1 y106 y112 l0 (l0.length : Int) (wrap64 (x13_1 + 1))) = some (r1, r2, r3) := by first | (rw [hy112]; with_reducible exact H) | (have H2_ := (Option.bind_some _ _).symm.trans H; rw [hy112]; with_reducible exact H2_) | (have H2_ := (Option.bind_some _ _).symm.trans H; with_reducible exact H2_) | with_reducible exact H | (rw [hy112]; exact H) | exact H
        have Ny112 := Aside0.mk hy112
        clear hy112
        have H' := Aside0.mk H
        clear H
        have p101 : 0 ≤ (x13_1 : Int) := of_decide_eq_true (by first | (with_reducible assumption) | assumption)
        have q101 : x13_1 < (l0.length : Int) := of_decide_eq_true (by first | (with_reducible assumption) | assumption)
        obtain ⟨ad101, e101, hx101_0, hx101_1⟩ := at_T123 HR0.out x13_1 p101 q101
        cases e101
        replace hx101_0 := (HB.out.cell (World.block_lt_of_cell? w _ hx101_0)).trans hx101_0
        replace hx101_1 := (HB.out.cell (World.block_lt_of_cell? w _ hx101_1)).trans hx101_1
        replace p101 := eq_true p101
        replace q101 := eq_true q101
        try go_wp2_with (first | ((with_reducible refine gate_dst (N := 8) rfl ?_); refine box_event ?hg (N := 8) ?hd (cs := #[.int .i64 0, .int .u64 0]) (t := 123) ?hr ?_; (case hd => rfl); (case hg => rfl); (case hr => first | (go_simp; done) | (go_simp; rfl)); intro gb102 hg w7 hbox hb; have n0_ := Aside0.mk (Kd.R_below (by (with_reducible repeat (first | apply Kd.R_alloc | apply Kd.R_drewN | apply Kd.R_drew)); exact HO_5.out) hb); have n1_ := Aside0.mk (Kd.R_below (by (with_reducible repeat (first | apply Kd.R_alloc | apply Kd.R_drewN | apply Kd.R_drew)); exact HO_6.out) hb); have n2_ := Aside0.mk (below_step (by repeat (first | (with_reducible first | exact HB.out | apply below_alloc | apply pw_below_drewN | apply below_drew1) | exact HB.out)) hb); have n3_ := Aside0.mk (hbox); have n4_ := Aside0.mk ((by rw [hg]; exact (below_size (by repeat (first | (with_reducible first | exact HB.out | apply below_alloc | apply pw_below_drewN | apply below_drew1) | exact HB.out))) : w.heap.size ≤ gb102)); have n5_ := Aside0.mk ((by rw [hg]; exact (below_size (by repeat (first | (with_reducible first | exact HB.out | apply below_alloc | apply pw_below_drewN | apply below_drew1) | exact HB.out))) : w.heap.size ≤ gb102)); clear HO_5; clear HO_6; clear HB; have HO_5 := n0_; have HO_6 := n1_; have HB := n2_; have BK102 := n3_; have GW102 := n4_; have GE102 := n5_; clear n0_ n1_ n2_ n3_ n4_ n5_; clear hb hbox hg; have hcz8_0 : w7.cell? ⟨gb102, 0, none⟩ = some (.int .i64 0) := (blk_cell BK102.out 0).trans rfl; have hcz8_1 : w7.cell? ⟨gb102, 1, none⟩ = some (.int .u64 0) := (blk_cell BK102.out 1).trans rfl; have hfz8_0 := blk_frozen BK102.out 0; have hfz8_1 := blk_frozen BK102.out 1; obtain ⟨Ao9, co9, eo9⟩ := Kd.R_slice HO_5.out; subst eo9; obtain ⟨Ao10, co10, eo10⟩ := Kd.R_slice HO_6.out; subst eo10))
        have n0_ : Aside0 (Kd.R (Kd.int .i64) 3 ((w7.setCell ⟨gb102, 0, none⟩ (.int .i64 ((rd_T123 l0 x13_1).f0))).setCell ⟨gb102, 1, none⟩ (.int .u64 ((rd_T123 l0 x13_1).f1))) w.heap.size (fun _ => True) (.slice Ao9 x5_1.length co9) x5_1) := ⟨by (with_reducible repeat (first | apply Kd.R_alloc | apply Kd.R_drewN | apply Kd.R_drew)); exact Kd.R_mono (Kd.R_far (p := ⟨gb102, 1, none⟩) (Kd.R_far (p := ⟨gb102, 0, none⟩) (Kd.R_types HO_5.out BK102.out (by decide)) (fun _ hk => hk.2) (.int .i64 ((rd_T123 l0 x13_1).f0))) (fun _ hk => hk.2) (.int .u64 ((rd_T123 l0 x13_1).f1))) (fun _ hk => trivial)⟩
        have n1_ : Aside0 (Kd.R (Kd.int .u64) 62 ((w7.setCell ⟨gb102, 0, none⟩ (.int .i64 ((rd_T123 l0 x13_1).f0))).setCell ⟨gb102, 1, none⟩ (.int .u64 ((rd_T123 l0 x13_1).f1))) w.heap.size (fun _ => True) (.slice Ao10 x6_1.length co10) x6_1) := ⟨by (with_reducible repeat (first | apply Kd.R_alloc | apply Kd.R_drewN | apply Kd.R_drew)); exact Kd.R_mono (Kd.R_far (p := ⟨gb102, 1, none⟩) (Kd.R_far (p := ⟨gb102, 0, none⟩) (Kd.R_types HO_6.out BK102.out (by decide)) (fun _ hk => hk.2) (.int .i64 ((rd_T123 l0 x13_1).f0))) (fun _ hk => hk.2) (.int .u64 ((rd_T123 l0 x13_1).f1))) (fun _ hk => trivial)⟩
        have n2_ : Aside0 (((w7.setCell ⟨gb102, 0, none⟩ (.int .i64 ((rd_T123 l0 x13_1).f0))).setCell ⟨gb102, 1, none⟩ (.int .u64 ((rd_T123 l0 x13_1).f1))).heap[gb102]? = some (.cells #[.int .i64 ((rd_T123 l0 x13_1).f0), .int .u64 ((rd_T123 l0 x13_1).f1)] 123 (0, 0))) := ⟨by (with_reducible repeat (first | refine blk_drewN ?_ _ | refine blk_drew ?_ | refine blk_alloc ?_ _)); refine blk_put (cs := #[.int .i64 ((rd_T123 l0 x13_1).f0), .int .u64 0]) ?_ 1 _ rfl; (with_reducible repeat (first | refine blk_drewN ?_ _ | refine blk_drew ?_ | refine blk_alloc ?_ _)); refine blk_put (cs := #[.int .i64 0, .int .u64 0]) ?_ 0 _ rfl; (with_reducible repeat (first | refine blk_drewN ?_ _ | refine blk_drew ?_ | refine blk_alloc ?_ _)); exact BK102.out⟩
        have n3_ : Aside0 (Below w.heap.size w ((w7.setCell ⟨gb102, 0, none⟩ (.int .i64 ((rd_T123 l0 x13_1).f0))).setCell ⟨gb102, 1, none⟩ (.int .u64 ((rd_T123 l0 x13_1).f1)))) := ⟨by repeat (first | (with_reducible first | exact HB.out | apply below_alloc | apply pw_below_drewN | apply below_drew1 | refine below_set ?_ GE102.out) | exact HB.out)⟩
        (try clear HO_5)
        (try clear HO_6)
        (try clear BK102)
        (try clear HB)
        generalize ((w7.setCell ⟨gb102, 0, none⟩ (.int .i64 ((rd_T123 l0 x13_1).f0))).setCell ⟨gb102, 1, none⟩ (.int .u64 ((rd_T123 l0 x13_1).f1))) = w11 at n0_ n1_ n2_ n3_ ⊢
        have HO_5 := n0_
        have HO_6 := n1_
        have BK102 := n2_
        have HB := n3_
        clear n0_ n1_ n2_ n3_
        have n0_ := Aside0.mk (Kd.R_drew HO_5.out)
        have n1_ := Aside0.mk (Kd.R_drew HO_6.out)
        have n2_ := Aside0.mk (blk_drew BK102.out)
        have n3_ := Aside0.mk (below_drew1 HB.out)
        clear HO_5
        clear HO_6
        clear BK102
        clear HB
        have HO_5 := n0_
        have HO_6 := n1_
        have BK102 := n2_
        have HB := n3_
        clear n0_ n1_ n2_ n3_
        refine start_ (n := 12) (S := fun w' => w'.cell? ⟨gb102, 0, none⟩ = some (.int .i64 ((rd_T123 l0 x13_1).f0)) ∧ w'.cell? ⟨gb102, 1, none⟩ = some (.int .u64 ((rd_T123 l0 x13_1).f1))) (ds := []) #[false, false, false, false, false, false, false, false, false, false, false, false] (by kernel_rfl) rfl rfl ⟨(blk_cell BK102.out 0).trans rfl, (blk_cell BK102.out 1).trans rfl⟩ (fun hHeld => ?_); refine with_tabW pairs_Unzip_uint64.tab6 pairs_Unzip_uint64.bits6 (fun HT_ HW_ => ?_)
        generalize w11.drew = w12 at HO_5 HO_6 BK102 HB hHeld ⊢
        refine pure_ (i := 0) (N := some 17) (v := ?_) (a' := ?_) #[true, false, false, false, false, false, false, false, false, false, false, false] rfl rfl (any_of HT_.out (by kernel_rfl)) (fun _ _ _ h => h) (Or.inl ⟨by rfl, ?_⟩) ?_ ?_
        rotate_left
        ·intro w'
         go_simp
         with_reducible rfl
        rotate_left
        ·simp only [Act.put, List.setIfInBounds_toArray, List.set_cons_zero, List.set_cons_succ, i64_w, i32_w]
         rfl
        refine pure_ (i := 1) (N := some 18) (v := ?_) (a' := ?_) #[true, true, false, false, false, false, false, false, false, false, false, false] rfl rfl (any_of HT_.out (by kernel_rfl)) (fun _ _ _ h => h) (Or.inl ⟨by rfl, ?_⟩) ?_ ?_
        rotate_left
        ·intro w'
         go_simp
         with_reducible rfl
        rotate_left
        ·simp only [Act.put, List.setIfInBounds_toArray, List.set_cons_zero, List.set_cons_succ, i64_w, i32_w]
         rfl
        refine pure_ (i := 5) (N := some 22) (v := ?_) (a' := ?_) #[true, true, false, false, false, true, false, false, false, false, false, false] rfl rfl (any_of HT_.out (by kernel_rfl)) (fun _ _ _ h => h) (Or.inl ⟨by rfl, ?_⟩) ?_ ?_
        rotate_left
        ·intro w'
         go_simp
         with_reducible rfl
        rotate_left
        ·simp only [Act.put, List.setIfInBounds_toArray, List.set_cons_zero, List.set_cons_succ, i64_w, i32_w]
         rfl
        refine pure_ (i := 6) (N := some 23) (v := ?_) (a' := ?_) #[true, true, false, false, false, true, true, false, false, false, false, false] rfl rfl (any_of HT_.out (by kernel_rfl)) (fun _ _ _ h => h) (Or.inl ⟨by rfl, ?_⟩) ?_ ?_
        rotate_left
        ·intro w'
         go_simp
         with_reducible rfl
        rotate_left
        ·simp only [Act.put, List.setIfInBounds_toArray, List.set_cons_zero, List.set_cons_succ, i64_w, i32_w]
         rfl
        refine take_ (i := 2) (N := some 19) (v := ?_) (a' := ?_) #[true, true, true, false, false, true, true, false, false, false, false, false] rfl rfl (take_ofW HT_.out HW_.out (by kernel_rfl)) (fun _ _ _ h => h) (Or.inl ⟨by rfl, ?_⟩) hHeld ?_ ?_
        rotate_left
        ·rintro w' ⟨s0, s1⟩
         go_simp
         with_reducible rfl
        rotate_left
        ·simp only [Act.put, List.setIfInBounds_toArray, List.set_cons_zero, List.set_cons_succ, i64_w, i32_w]
         rfl
        refine take_ (i := 7) (N := some 24) (v := ?_) (a' := ?_) #[true, true, true, false, false, true, true, true, false, false, false, false] rfl rfl (take_ofW HT_.out HW_.out (by kernel_rfl)) (fun _ _ _ h => h) (Or.inl ⟨by rfl, ?_⟩) hHeld ?_ ?_
        rotate_left
        ·rintro w' ⟨s0, s1⟩
         go_simp
         with_reducible rfl
        rotate_left
        ·simp only [Act.put, List.setIfInBounds_toArray, List.set_cons_zero, List.set_cons_succ, i64_w, i32_w]
         rfl
        refine join_ (σ := Value × Value × Value) 3 #[true, true, true, true, true, true, true, true, true, false, false, false] (fun s_ => [(20, s_.1), (21, s_.2.1), (25, s_.2.2)]) (fun s_ w' => (w'.cell? ⟨gb102, 0, none⟩ = some (.int .i64 ((rd_T123 l0 x13_1).f0)) ∧ w'.cell? ⟨gb102, 1, none⟩ = some (.int .u64 ((rd_T123 l0 x13_1).f1))) ∧ (Kd.R (Kd.int .i64) 3 w' w.heap.size (fun k_ => some k_ ≠ (s_.2.1 : Value).ownBlock) s_.1 y103) ∧ (Kd.R (Kd.int .i64) 3 w' w.heap.size (fun k_ => some k_ ≠ (s_.1 : Value).ownBlock) s_.2.1 y106) ∧ (Kd.R (Kd.int .u64) 62 w' w.heap.size (fun k_ => some k_ ≠ (.slice Ao10 x6_1.length co10 : Value).ownBlock) s_.2.2 y109) ∧ (Kd.R (Kd.int .u64) 62 w' w.heap.size (fun k_ => some k_ ≠ (s_.2.2 : Value).ownBlock) (.slice Ao10 x6_1.length co10) x6_1) ∧ (w'.heap[gb102]? = some (.cells #[.int .i64 ((rd_T123 l0 x13_1).f0), .int .u64 ((rd_T123 l0 x13_1).f1)] 123 (0, 0))) ∧ (Below w.heap.size w w')) ?_ ?_
        rotate_left
        ·intro hCont
         refine two_ (i := 3) (j := 8) (Ni := some 20) (Nj := some 25) #[true, true, true, true, false, true, true, true, false, false, false, false] #[true, true, true, false, false, true, true, true, true, false, false, false] rfl rfl rfl rfl (two_of HT_.out (by kernel_rfl)) (by decide) (by decide) (fun K hK => ?_) (fun K hK => ?_)
         ·skip
          refine Kd.R_lit_step (Kd.int .i64) _ 3 ?hg (N := 20) ?hd (xs := ([(rd_T123 l0 x13_1).f0] : List Int)) (inner := [.int .i64 ((rd_T123 l0 x13_1).f0)]) (ok := fun _ => True) (okp := fun _ => True) ?hr ?hp (fun _ hk => hk) trivial (Below.refl _ _) (Nat.le_refl _) (by simp) ?_; (case hd => rfl); (case hg => rfl); (case hr => first | (go_simp; done) | (go_simp; rfl)); (case hp => exact (Reps.one (show Kd.M (Kd.int .i64) _ _ _ ((rd_T123 l0 x13_1).f0) [.int .i64 ((rd_T123 l0 x13_1).f0)] from rfl) (Reps.none _ _)))
          intro v104 w13 ho14 hb hg_ hnew_
          clear hg_ hnew_
          (first | rw [← Ny103.out] at ho14 | (simp only [Int.reduceToNat] at ho14; rw [← Ny103.out] at ho14))
          have n0_ := Aside0.mk (Kd.R_elder' (by (with_reducible repeat (first | apply Kd.R_alloc | apply Kd.R_drewN | apply Kd.R_drew)); exact HO_5.out) (Kd.R_base ho14) hb)
          have n1_ := Aside0.mk (Kd.R_below (by (with_reducible repeat (first | apply Kd.R_alloc | apply Kd.R_drewN | apply Kd.R_drew)); exact HO_6.out) hb)
          have n2_ := Aside0.mk (Kd.R_lower (Kd.R_new' ho14 (Kd.R_lt (by (with_reducible repeat (first | apply Kd.R_alloc | apply Kd.R_drewN | apply Kd.R_drew)); exact HO_5.out))) (below_size (by repeat (first | (with_reducible first | exact HB.out | apply below_alloc | apply pw_below_drewN | apply below_drew1 | refine below_set ?_ GE102.out) | exact HB.out))))
          have n3_ := Aside0.mk (blk_below (g := gb102) (o := .cells #[.int .i64 ((rd_T123 l0 x13_1).f0), .int .u64 ((rd_T123 l0 x13_1).f1)] 123 (0, 0)) (by (with_reducible repeat (first | refine blk_drewN ?_ _ | refine blk_drew ?_ | refine blk_alloc ?_ _)); exact BK102.out) hb)
          have n4_ := Aside0.mk (below_step (by repeat (first | (with_reducible first | exact HB.out | apply below_alloc | apply pw_below_drewN | apply below_drew1 | refine below_set ?_ GE102.out) | exact HB.out)) hb)
          clear HO_5
          clear HO_6
          clear BK102
          clear HB
          have HO_5 := n0_
          have HO_6 := n1_
          have HO105 := n2_
          have BK102 := n3_
          have HB := n4_
          clear n0_ n1_ n2_ n3_ n4_
          clear hb ho14
          obtain ⟨Ao16, co16, eo16⟩ := Kd.R_slice HO105.out
          (first | subst eo16 | (injection eo16 with f1_ f2_ f3_; have f4_ := f1_.symm; have f5_ := f3_.symm; clear f1_ f2_ f3_; subst f4_; subst f5_))
          refine hK.out _ _ ⟨(blk_cell BK102.out 0).trans rfl, (blk_cell BK102.out 1).trans rfl⟩ (fun hHeld => ?_)
          clear hK K
          refine norm_ (a' := ?_) ?_ ?_
          rotate_left
          ·show Act.put _ (some 20) _ = _
           simp only [Act.put, List.setIfInBounds_toArray, List.set_cons_zero, List.set_cons_succ, i64_w, i32_w]
           rfl
          refine two_ (i := 4) (j := 8) (Ni := some 21) (Nj := some 25) #[true, true, true, true, true, true, true, true, false, false, false, false] #[true, true, true, true, false, true, true, true, true, false, false, false] rfl rfl rfl rfl (two_of HT_.out (by kernel_rfl)) (by decide) (by decide) (fun K hK => ?_) (fun K hK => ?_)
          ·skip
           refine Kd.R_append_rows_step (Kd.int .i64) (w0 := w) w.heap.size (by rfl) (.tmp 17) (.tmp 20) 24 3 (.int .i64 0) 8 rfl Try.underlying24 info3 rfl (by decide) (by omega) (.slice Ao9 x5_1.length co9) x5_1 y103 _ _ _ (fun k_ => some k_ ≠ (.slice Ao16 y103.length co16 : Value).ownBlock) (fun _ => False) rfl rfl ?aO ?aR (fun _ _ h => h) (fun _ h => h.elim) ?aF ?aB ?aS ?aL ?_
           (case aR => repeat (first | exact (Kd.R_reads' HO105.out).2.2 | (with_reducible refine Kd.C_alloc ?_ _) | (with_reducible refine Kd.C_drewN ?_ _) | (with_reducible refine Kd.C_drew ?_)))
           (case aB => exact (by repeat (first | (with_reducible first | exact HB.out | apply below_alloc | apply pw_below_drewN | apply below_drew1 | refine below_set ?_ GE102.out) | exact HB.out)))
           (case aF => exact (fun k_ hk => Kd.fresh' (Kd.R_lt (by (with_reducible repeat (first | apply Kd.R_alloc | apply Kd.R_drewN | apply Kd.R_drew)); exact HO105.out)) k_ hk))
           (case aO => exact (by (with_reducible repeat (first | apply Kd.R_alloc | apply Kd.R_drewN | apply Kd.R_drew)); exact Kd.R_mono HO_5.out (fun _ hk => hk.2)))
           (case aS => exact (below_size (by repeat (first | (with_reducible first | exact HB.out | apply below_alloc | apply pw_below_drewN | apply below_drew1 | refine below_set ?_ GE102.out) | exact HB.out))))
           (case aL => have := LMc5.out; omega)
           intro v107 w15 ho hb hg hat
           rw [← Ny106.out] at ho
           have n0_ := Aside0.mk (Kd.R_over' (by (with_reducible repeat (first | apply Kd.R_alloc | apply Kd.R_drewN | apply Kd.R_drew)); exact HO_6.out) (Kd.R_typed (by (with_reducible repeat (first | apply Kd.R_alloc | apply Kd.R_drewN | apply Kd.R_drew)); exact HO_5.out)) (by decide) hg)
           have n1_ := Aside0.mk (blk_grown (g := gb102) (o := .cells #[.int .i64 ((rd_T123 l0 x13_1).f0), .int .u64 ((rd_T123 l0 x13_1).f1)] 123 (0, 0)) (by (with_reducible repeat (first | refine blk_drewN ?_ _ | refine blk_drew ?_ | refine blk_alloc ?_ _)); exact BK102.out) hg (Kd.R_ne HO_5.out BK102.out (by decide)))
           have n2_ := Aside0.mk (Kd.R_after (ok := (fun _ => True)) (by (with_reducible repeat (first | apply Kd.R_alloc | apply Kd.R_drewN | apply Kd.R_drew)); exact HO105.out) hg hat)
           have n3_ := Aside0.mk (hb)
           have n4_ := Aside0.mk (ho)
           clear HO_6
           clear BK102
           clear HO105
           clear HB
           clear HO_5
           have HO_6 := n0_
           have BK102 := n1_
           have HO105 := n2_
           have HB := n3_
           have HO108 := n4_
           clear n0_ n1_ n2_ n3_ n4_
           clear ho hb hg hat
           refine hK.out _ _ ⟨(blk_cell BK102.out 0).trans rfl, (blk_cell BK102.out 1).trans rfl⟩ (fun hHeld => ?_)
           clear hK K
           refine norm_ (a' := ?_) ?_ ?_
           rotate_left
           ·show Act.put _ (some 21) _ = _
            simp only [Act.put, List.setIfInBounds_toArray, List.set_cons_zero, List.set_cons_succ, i64_w, i32_w]
            rfl
           refine one_ (i := 8) (N := some 25) #[true, true, true, true, true, true, true, true, true, false, false, false] rfl rfl (one_of HT_.out (by kernel_rfl)) (by decide) (fun K hK => ?_)
           refine Kd.R_lit_step (Kd.int .u64) _ 62 ?hg (N := 25) ?hd (xs := ([(rd_T123 l0 x13_1).f1] : List Int)) (inner := [.int .u64 ((rd_T123 l0 x13_1).f1)]) (ok := fun _ => True) (okp := fun _ => True) ?hr ?hp (fun _ hk => hk) trivial (Below.refl _ _) (Nat.le_refl _) (by simp) ?_; (case hd => rfl); (case hg => rfl); (case hr => first | (go_simp; done) | (go_simp; rfl)); (case hp => exact (Reps.one (show Kd.M (Kd.int .u64) _ _ _ ((rd_T123 l0 x13_1).f1) [.int .u64 ((rd_T123 l0 x13_1).f1)] from rfl) (Reps.none _ _)))
           intro v110 w17 ho18 hb hg_ hnew_
           clear hg_ hnew_
           (first | rw [← Ny109.out] at ho18 | (simp only [Int.reduceToNat] at ho18; rw [← Ny109.out] at ho18))
           have n0_ := Aside0.mk (Kd.R_elder' (by (with_reducible repeat (first | apply Kd.R_alloc | apply Kd.R_drewN | apply Kd.R_drew)); exact HO_6.out) (Kd.R_base ho18) hb)
           have n1_ := Aside0.mk (Kd.R_below (by (with_reducible repeat (first | apply Kd.R_alloc | apply Kd.R_drewN | apply Kd.R_drew)); exact HO105.out) hb)
           have n2_ := Aside0.mk (Kd.R_below (by (with_reducible repeat (first | apply Kd.R_alloc | apply Kd.R_drewN | apply Kd.R_drew)); exact HO108.out) hb)
           have n3_ := Aside0.mk (Kd.R_lower (Kd.R_new' ho18 (Kd.R_lt (by (with_reducible repeat (first | apply Kd.R_alloc | apply Kd.R_drewN | apply Kd.R_drew)); exact HO_6.out))) (below_size (by repeat (first | (with_reducible first | exact HB.out | apply below_alloc | apply pw_below_drewN | apply below_drew1 | refine below_set ?_ GE102.out) | exact HB.out))))
           have n4_ := Aside0.mk (blk_below (g := gb102) (o := .cells #[.int .i64 ((rd_T123 l0 x13_1).f0), .int .u64 ((rd_T123 l0 x13_1).f1)] 123 (0, 0)) (by (with_reducible repeat (first | refine blk_drewN ?_ _ | refine blk_drew ?_ | refine blk_alloc ?_ _)); exact BK102.out) hb)
           have n5_ := Aside0.mk (below_step (by repeat (first | (with_reducible first | exact HB.out | apply below_alloc | apply pw_below_drewN | apply below_drew1 | refine below_set ?_ GE102.out) | exact HB.out)) hb)
           clear HO_6
           clear HO105
           clear HO108
           clear BK102
           clear HB
           have HO_6 := n0_
           have HO105 := n1_
           have HO108 := n2_
           have HO111 := n3_
           have BK102 := n4_
           have HB := n5_
           clear n0_ n1_ n2_ n3_ n4_ n5_
           clear hb ho18
           refine hK.out _ _ ⟨(blk_cell BK102.out 0).trans rfl, (blk_cell BK102.out 1).trans rfl⟩ (fun hHeld => ?_)
           clear hK K
           refine norm_ (a' := ?_) ?_ ?_
           rotate_left
           ·show Act.put _ (some 25) _ = _
            simp only [Act.put, List.setIfInBounds_toArray, List.set_cons_zero, List.set_cons_succ, i64_w, i32_w]
            rfl
           exact norm_ (by simp only [putAll, Act.put, List.setIfInBounds_toArray, List.set_cons_zero, List.set_cons_succ]) (hCont (.slice Ao16 y103.length co16, v107, v110) _ ⟨hHeld, (by (with_reducible repeat (first | apply Kd.R_alloc | apply Kd.R_drewN | apply Kd.R_drew)); exact Kd.R_mono HO105.out (fun _ hk => hk.2)), (by (with_reducible repeat (first | apply Kd.R_alloc | apply Kd.R_drewN | apply Kd.R_drew)); exact HO108.out), (by (with_reducible repeat (first | apply Kd.R_alloc | apply Kd.R_drewN | apply Kd.R_drew)); exact Kd.R_mono HO111.out (fun _ hk => hk.2)), (by (with_reducible repeat (first | apply Kd.R_alloc | apply Kd.R_drewN | apply Kd.R_drew)); exact Kd.R_mono HO_6.out (fun _ hk => hk.2)), (by (with_reducible repeat (first | refine blk_drewN ?_ _ | refine blk_drew ?_ | refine blk_alloc ?_ _)); exact BK102.out), (by repeat (first | (with_reducible first | exact HB.out | apply below_alloc | apply pw_below_drewN | apply below_drew1 | refine below_set ?_ GE102.out) | exact HB.out))⟩)
          ·skip
           refine Kd.R_lit_step (Kd.int .u64) _ 62 ?hg (N := 25) ?hd (xs := ([(rd_T123 l0 x13_1).f1] : List Int)) (inner := [.int .u64 ((rd_T123 l0 x13_1).f1)]) (ok := fun _ => True) (okp := fun _ => True) ?hr ?hp (fun _ hk => hk) trivial (Below.refl _ _) (Nat.le_refl _) (by simp) ?_; (case hd => rfl); (case hg => rfl); (case hr => first | (go_simp; done) | (go_simp; rfl)); (case hp => exact (Reps.one (show Kd.M (Kd.int .u64) _ _ _ ((rd_T123 l0 x13_1).f1) [.int .u64 ((rd_T123 l0 x13_1).f1)] from rfl) (Reps.none _ _)))
           intro v110 w15 ho16 hb hg_ hnew_
           clear hg_ hnew_
           (first | rw [← Ny109.out] at ho16 | (simp only [Int.reduceToNat] at ho16; rw [← Ny109.out] at ho16))
           have n0_ := Aside0.mk (Kd.R_below (by (with_reducible repeat (first | apply Kd.R_alloc | apply Kd.R_drewN | apply Kd.R_drew)); exact HO_5.out) hb)
           have n1_ := Aside0.mk (Kd.R_elder' (by (with_reducible repeat (first | apply Kd.R_alloc | apply Kd.R_drewN | apply Kd.R_drew)); exact HO_6.out) (Kd.R_base ho16) hb)
           have n2_ := Aside0.mk (Kd.R_below (by (with_reducible repeat (first | apply Kd.R_alloc | apply Kd.R_drewN | apply Kd.R_drew)); exact HO105.out) hb)
           have n3_ := Aside0.mk (Kd.R_lower (Kd.R_new' ho16 (Kd.R_lt (by (with_reducible repeat (first | apply Kd.R_alloc | apply Kd.R_drewN | apply Kd.R_drew)); exact HO_6.out))) (below_size (by repeat (first | (with_reducible first | exact HB.out | apply below_alloc | apply pw_below_drewN | apply below_drew1 | refine below_set ?_ GE102.out) | exact HB.out))))
           have n4_ := Aside0.mk (blk_below (g := gb102) (o := .cells #[.int .i64 ((rd_T123 l0 x13_1).f0), .int .u64 ((rd_T123 l0 x13_1).f1)] 123 (0, 0)) (by (with_reducible repeat (first | refine blk_drewN ?_ _ | refine blk_drew ?_ | refine blk_alloc ?_ _)); exact BK102.out) hb)
           have n5_ := Aside0.mk (below_step (by repeat (first | (with_reducible first | exact HB.out | apply below_alloc | apply pw_below_drewN | apply below_drew1 | refine below_set ?_ GE102.out) | exact HB.out)) hb)
           clear HO_5
           clear HO_6
           clear HO105
           clear BK102
           clear HB
           have HO_5 := n0_
           have HO_6 := n1_
           have HO105 := n2_
           have HO111 := n3_
           have BK102 := n4_
           have HB := n5_
           clear n0_ n1_ n2_ n3_ n4_ n5_
           clear hb ho16
           obtain ⟨Ao18, co18, eo18⟩ := Kd.R_slice HO105.out
           (first | subst eo18 | (injection eo18 with f1_ f2_ f3_; have f4_ := f1_.symm; have f5_ := f3_.symm; clear f1_ f2_ f3_; subst f4_; subst f5_))
           refine hK.out _ _ ⟨(blk_cell BK102.out 0).trans rfl, (blk_cell BK102.out 1).trans rfl⟩ (fun hHeld => ?_)
           clear hK K
           refine norm_ (a' := ?_) ?_ ?_
           rotate_left
           ·show Act.put _ (some 25) _ = _
            simp only [Act.put, List.setIfInBounds_toArray, List.set_cons_zero, List.set_cons_succ, i64_w, i32_w]
            rfl
           refine one_ (i := 4) (N := some 21) #[true, true, true, true, true, true, true, true, true, false, false, false] rfl rfl (one_of HT_.out (by kernel_rfl)) (by decide) (fun K hK => ?_)
           refine Kd.R_append_rows_step (Kd.int .i64) (w0 := w) w.heap.size (by rfl) (.tmp 17) (.tmp 20) 24 3 (.int .i64 0) 8 rfl Try.underlying24 info3 rfl (by decide) (by omega) (.slice Ao9 x5_1.length co9) x5_1 y103 _ _ _ (fun k_ => some k_ ≠ (.slice Ao18 y103.length co18 : Value).ownBlock) (fun _ => False) rfl rfl ?aO ?aR (fun _ _ h => h) (fun _ h => h.elim) ?aF ?aB ?aS ?aL ?_
           (case aR => repeat (first | exact (Kd.R_reads' HO105.out).2.2 | (with_reducible refine Kd.C_alloc ?_ _) | (with_reducible refine Kd.C_drewN ?_ _) | (with_reducible refine Kd.C_drew ?_)))
           (case aB => exact (by repeat (first | (with_reducible first | exact HB.out | apply below_alloc | apply pw_below_drewN | apply below_drew1 | refine below_set ?_ GE102.out) | exact HB.out)))
           (case aF => exact (fun k_ hk => Kd.fresh' (Kd.R_lt (by (with_reducible repeat (first | apply Kd.R_alloc | apply Kd.R_drewN | apply Kd.R_drew)); exact HO105.out)) k_ hk))
           (case aO => exact (by (with_reducible repeat (first | apply Kd.R_alloc | apply Kd.R_drewN | apply Kd.R_drew)); exact Kd.R_mono HO_5.out (fun _ hk => hk.2)))
           (case aS => exact (below_size (by repeat (first | (with_reducible first | exact HB.out | apply below_alloc | apply pw_below_drewN | apply below_drew1 | refine below_set ?_ GE102.out) | exact HB.out))))
           (case aL => have := LMc5.out; omega)
           intro v107 w17 ho hb hg hat
           rw [← Ny106.out] at ho
           have n0_ := Aside0.mk (Kd.R_over' (by (with_reducible repeat (first | apply Kd.R_alloc | apply Kd.R_drewN | apply Kd.R_drew)); exact HO_6.out) (Kd.R_typed (by (with_reducible repeat (first | apply Kd.R_alloc | apply Kd.R_drewN | apply Kd.R_drew)); exact HO_5.out)) (by decide) hg)
           have n1_ := Aside0.mk (blk_grown (g := gb102) (o := .cells #[.int .i64 ((rd_T123 l0 x13_1).f0), .int .u64 ((rd_T123 l0 x13_1).f1)] 123 (0, 0)) (by (with_reducible repeat (first | refine blk_drewN ?_ _ | refine blk_drew ?_ | refine blk_alloc ?_ _)); exact BK102.out) hg (Kd.R_ne HO_5.out BK102.out (by decide)))
           have n2_ := Aside0.mk (Kd.R_after (ok := (fun _ => True)) (by (with_reducible repeat (first | apply Kd.R_alloc | apply Kd.R_drewN | apply Kd.R_drew)); exact HO105.out) hg hat)
           have n3_ := Aside0.mk (Kd.R_over' (by (with_reducible repeat (first | apply Kd.R_alloc | apply Kd.R_drewN | apply Kd.R_drew)); exact HO111.out) (Kd.R_typed (by (with_reducible repeat (first | apply Kd.R_alloc | apply Kd.R_drewN | apply Kd.R_drew)); exact HO_5.out)) (by decide) hg)
           have n4_ := Aside0.mk (hb)
           have n5_ := Aside0.mk (ho)
           clear HO_6
           clear BK102
           clear HO105
           clear HO111
           clear HB
           clear HO_5
           have HO_6 := n0_
           have BK102 := n1_
           have HO105 := n2_
           have HO111 := n3_
           have HB := n4_
           have HO108 := n5_
           clear n0_ n1_ n2_ n3_ n4_ n5_
           clear ho hb hg hat
           refine hK.out _ _ ⟨(blk_cell BK102.out 0).trans rfl, (blk_cell BK102.out 1).trans rfl⟩ (fun hHeld => ?_)
           clear hK K
           refine norm_ (a' := ?_) ?_ ?_
           rotate_left
           ·show Act.put _ (some 21) _ = _
            simp only [Act.put, List.setIfInBounds_toArray, List.set_cons_zero, List.set_cons_succ, i64_w, i32_w]
            rfl
           exact norm_ (by simp only [putAll, Act.put, List.setIfInBounds_toArray, List.set_cons_zero, List.set_cons_succ]) (hCont (.slice Ao18 y103.length co18, v107, v110) _ ⟨hHeld, (by (with_reducible repeat (first | apply Kd.R_alloc | apply Kd.R_drewN | apply Kd.R_drew)); exact Kd.R_mono HO105.out (fun _ hk => hk.2)), (by (with_reducible repeat (first | apply Kd.R_alloc | apply Kd.R_drewN | apply Kd.R_drew)); exact HO108.out), (by (with_reducible repeat (first | apply Kd.R_alloc | apply Kd.R_drewN | apply Kd.R_drew)); exact Kd.R_mono HO111.out (fun _ hk => hk.2)), (by (with_reducible repeat (first | apply Kd.R_alloc | apply Kd.R_drewN | apply Kd.R_drew)); exact Kd.R_mono HO_6.out (fun _ hk => hk.2)), (by (with_reducible repeat (first | refine blk_drewN ?_ _ | refine blk_drew ?_ | refine blk_alloc ?_ _)); exact BK102.out), (by repeat (first | (with_reducible first | exact HB.out | apply below_alloc | apply pw_below_drewN | apply below_drew1 | refine below_set ?_ GE102.out) | exact HB.out))⟩)
         ·skip
          refine Kd.R_lit_step (Kd.int .u64) _ 62 ?hg (N := 25) ?hd (xs := ([(rd_T123 l0 x13_1).f1] : List Int)) (inner := [.int .u64 ((rd_T123 l0 x13_1).f1)]) (ok := fun _ => True) (okp := fun _ => True) ?hr ?hp (fun _ hk => hk) trivial (Below.refl _ _) (Nat.le_refl _) (by simp) ?_; (case hd => rfl); (case hg => rfl); (case hr => first | (go_simp; done) | (go_simp; rfl)); (case hp => exact (Reps.one (show Kd.M (Kd.int .u64) _ _ _ ((rd_T123 l0 x13_1).f1) [.int .u64 ((rd_T123 l0 x13_1).f1)] from rfl) (Reps.none _ _)))
          intro v110 w13 ho14 hb hg_ hnew_
          clear hg_ hnew_
          (first | rw [← Ny109.out] at ho14 | (simp only [Int.reduceToNat] at ho14; rw [← Ny109.out] at ho14))
          have n0_ := Aside0.mk (Kd.R_below (by (with_reducible repeat (first | apply Kd.R_alloc | apply Kd.R_drewN | apply Kd.R_drew)); exact HO_5.out) hb)
          have n1_ := Aside0.mk (Kd.R_elder' (by (with_reducible repeat (first | apply Kd.R_alloc | apply Kd.R_drewN | apply Kd.R_drew)); exact HO_6.out) (Kd.R_base ho14) hb)
          have n2_ := Aside0.mk (Kd.R_lower (Kd.R_new' ho14 (Kd.R_lt (by (with_reducible repeat (first | apply Kd.R_alloc | apply Kd.R_drewN | apply Kd.R_drew)); exact HO_6.out))) (below_size (by repeat (first | (with_reducible first | exact HB.out | apply below_alloc | apply pw_below_drewN | apply below_drew1 | refine below_set ?_ GE102.out) | exact HB.out))))
          have n3_ := Aside0.mk (blk_below (g := gb102) (o := .cells #[.int .i64 ((rd_T123 l0 x13_1).f0), .int .u64 ((rd_T123 l0 x13_1).f1)] 123 (0, 0)) (by (with_reducible repeat (first | refine blk_drewN ?_ _ | refine blk_drew ?_ | refine blk_alloc ?_ _)); exact BK102.out) hb)
          have n4_ := Aside0.mk (below_step (by repeat (first | (with_reducible first | exact HB.out | apply below_alloc | apply pw_below_drewN | apply below_drew1 | refine below_set ?_ GE102.out) | exact HB.out)) hb)
          clear HO_5
          clear HO_6
          clear BK102
          clear HB
          have HO_5 := n0_
          have HO_6 := n1_
          have HO111 := n2_
          have BK102 := n3_
          have HB := n4_
          clear n0_ n1_ n2_ n3_ n4_
          clear hb ho14
          refine hK.out _ _ ⟨(blk_cell BK102.out 0).trans rfl, (blk_cell BK102.out 1).trans rfl⟩ (fun hHeld => ?_)
          clear hK K
          refine norm_ (a' := ?_) ?_ ?_
          rotate_left
          ·show Act.put _ (some 25) _ = _
           simp only [Act.put, List.setIfInBounds_toArray, List.set_cons_zero, List.set_cons_succ, i64_w, i32_w]
           rfl
          refine one_ (i := 3) (N := some 20) #[true, true, true, true, false, true, true, true, true, false, false, false] rfl rfl (one_of HT_.out (by kernel_rfl)) (by decide) (fun K hK => ?_)
          refine Kd.R_lit_step (Kd.int .i64) _ 3 ?hg (N := 20) ?hd (xs := ([(rd_T123 l0 x13_1).f0] : List Int)) (inner := [.int .i64 ((rd_T123 l0 x13_1).f0)]) (ok := fun _ => True) (okp := fun _ => True) ?hr ?hp (fun _ hk => hk) trivial (Below.refl _ _) (Nat.le_refl _) (by simp) ?_; (case hd => rfl); (case hg => rfl); (case hr => first | (go_simp; done) | (go_simp; rfl)); (case hp => exact (Reps.one (show Kd.M (Kd.int .i64) _ _ _ ((rd_T123 l0 x13_1).f0) [.int .i64 ((rd_T123 l0 x13_1).f0)] from rfl) (Reps.none _ _)))
          intro v104 w15 ho16 hb hg_ hnew_
          clear hg_ hnew_
          (first | rw [← Ny103.out] at ho16 | (simp only [Int.reduceToNat] at ho16; rw [← Ny103.out] at ho16))
          have n0_ := Aside0.mk (Kd.R_elder' (by (with_reducible repeat (first | apply Kd.R_alloc | apply Kd.R_drewN | apply Kd.R_drew)); exact HO_5.out) (Kd.R_base ho16) hb)
          have n1_ := Aside0.mk (Kd.R_below (by (with_reducible repeat (first | apply Kd.R_alloc | apply Kd.R_drewN | apply Kd.R_drew)); exact HO_6.out) hb)
          have n2_ := Aside0.mk (Kd.R_below (by (with_reducible repeat (first | apply Kd.R_alloc | apply Kd.R_drewN | apply Kd.R_drew)); exact HO111.out) hb)
          have n3_ := Aside0.mk (Kd.R_lower (Kd.R_new' ho16 (Kd.R_lt (by (with_reducible repeat (first | apply Kd.R_alloc | apply Kd.R_drewN | apply Kd.R_drew)); exact HO_5.out))) (below_size (by repeat (first | (with_reducible first | exact HB.out | apply below_alloc | apply pw_below_drewN | apply below_drew1 | refine below_set ?_ GE102.out) | exact HB.out))))
          have n4_ := Aside0.mk (blk_below (g := gb102) (o := .cells #[.int .i64 ((rd_T123 l0 x13_1).f0), .int .u64 ((rd_T123 l0 x13_1).f1)] 123 (0, 0)) (by (with_reducible repeat (first | refine blk_drewN ?_ _ | refine blk_drew ?_ | refine blk_alloc ?_ _)); exact BK102.out) hb)
          have n5_ := Aside0.mk (below_step (by repeat (first | (with_reducible first | exact HB.out | apply below_alloc | apply pw_below_drewN | apply below_drew1 | refine below_set ?_ GE102.out) | exact HB.out)) hb)
          clear HO_5
          clear HO_6
          clear HO111
          clear BK102
          clear HB
          have HO_5 := n0_
          have HO_6 := n1_
          have HO111 := n2_
          have HO105 := n3_
          have BK102 := n4_
          have HB := n5_
          clear n0_ n1_ n2_ n3_ n4_ n5_
          clear hb ho16
          obtain ⟨Ao18, co18, eo18⟩ := Kd.R_slice HO105.out
          (first | subst eo18 | (injection eo18 with f1_ f2_ f3_; have f4_ := f1_.symm; have f5_ := f3_.symm; clear f1_ f2_ f3_; subst f4_; subst f5_))
          refine hK.out _ _ ⟨(blk_cell BK102.out 0).trans rfl, (blk_cell BK102.out 1).trans rfl⟩ (fun hHeld => ?_)
          clear hK K
          refine norm_ (a' := ?_) ?_ ?_
          rotate_left
          ·show Act.put _ (some 20) _ = _
           simp only [Act.put, List.setIfInBounds_toArray, List.set_cons_zero, List.set_cons_succ, i64_w, i32_w]
           rfl
          refine one_ (i := 4) (N := some 21) #[true, true, true, true, true, true, true, true, true, false, false, false] rfl rfl (one_of HT_.out (by kernel_rfl)) (by decide) (fun K hK => ?_)
          refine Kd.R_append_rows_step (Kd.int .i64) (w0 := w) w.heap.size (by rfl) (.tmp 17) (.tmp 20) 24 3 (.int .i64 0) 8 rfl Try.underlying24 info3 rfl (by decide) (by omega) (.slice Ao9 x5_1.length co9) x5_1 y103 _ _ _ (fun k_ => some k_ ≠ (.slice Ao18 y103.length co18 : Value).ownBlock) (fun _ => False) rfl rfl ?aO ?aR (fun _ _ h => h) (fun _ h => h.elim) ?aF ?aB ?aS ?aL ?_
          (case aR => repeat (first | exact (Kd.R_reads' HO105.out).2.2 | (with_reducible refine Kd.C_alloc ?_ _) | (with_reducible refine Kd.C_drewN ?_ _) | (with_reducible refine Kd.C_drew ?_)))
          (case aB => exact (by repeat (first | (with_reducible first | exact HB.out | apply below_alloc | apply pw_below_drewN | apply below_drew1 | refine below_set ?_ GE102.out) | exact HB.out)))
          (case aF => exact (fun k_ hk => Kd.fresh' (Kd.R_lt (by (with_reducible repeat (first | apply Kd.R_alloc | apply Kd.R_drewN | apply Kd.R_drew)); exact HO105.out)) k_ hk))
          (case aO => exact (by (with_reducible repeat (first | apply Kd.R_alloc | apply Kd.R_drewN | apply Kd.R_drew)); exact Kd.R_mono HO_5.out (fun _ hk => hk.2)))
          (case aS => exact (below_size (by repeat (first | (with_reducible first | exact HB.out | apply below_alloc | apply pw_below_drewN | apply below_drew1 | refine below_set ?_ GE102.out) | exact HB.out))))
          (case aL => have := LMc5.out; omega)
          intro v107 w17 ho hb hg hat
          rw [← Ny106.out] at ho
          have n0_ := Aside0.mk (Kd.R_over' (by (with_reducible repeat (first | apply Kd.R_alloc | apply Kd.R_drewN | apply Kd.R_drew)); exact HO_6.out) (Kd.R_typed (by (with_reducible repeat (first | apply Kd.R_alloc | apply Kd.R_drewN | apply Kd.R_drew)); exact HO_5.out)) (by decide) hg)
          have n1_ := Aside0.mk (blk_grown (g := gb102) (o := .cells #[.int .i64 ((rd_T123 l0 x13_1).f0), .int .u64 ((rd_T123 l0 x13_1).f1)] 123 (0, 0)) (by (with_reducible repeat (first | refine blk_drewN ?_ _ | refine blk_drew ?_ | refine blk_alloc ?_ _)); exact BK102.out) hg (Kd.R_ne HO_5.out BK102.out (by decide)))
          have n2_ := Aside0.mk (Kd.R_over' (by (with_reducible repeat (first | apply Kd.R_alloc | apply Kd.R_drewN | apply Kd.R_drew)); exact HO111.out) (Kd.R_typed (by (with_reducible repeat (first | apply Kd.R_alloc | apply Kd.R_drewN | apply Kd.R_drew)); exact HO_5.out)) (by decide) hg)
          have n3_ := Aside0.mk (Kd.R_after (ok := (fun _ => True)) (by (with_reducible repeat (first | apply Kd.R_alloc | apply Kd.R_drewN | apply Kd.R_drew)); exact HO105.out) hg hat)
          have n4_ := Aside0.mk (hb)
          have n5_ := Aside0.mk (ho)
          clear HO_6
          clear BK102
          clear HO111
          clear HO105
          clear HB
          clear HO_5
          have HO_6 := n0_
          have BK102 := n1_
          have HO111 := n2_
          have HO105 := n3_
          have HB := n4_
          have HO108 := n5_
          clear n0_ n1_ n2_ n3_ n4_ n5_
          clear ho hb hg hat
          refine hK.out _ _ ⟨(blk_cell BK102.out 0).trans rfl, (blk_cell BK102.out 1).trans rfl⟩ (fun hHeld => ?_)
          clear hK K
          refine norm_ (a' := ?_) ?_ ?_
          rotate_left
          ·show Act.put _ (some 21) _ = _
           simp only [Act.put, List.setIfInBounds_toArray, List.set_cons_zero, List.set_cons_succ, i64_w, i32_w]
           rfl
          exact norm_ (by simp only [putAll, Act.put, List.setIfInBounds_toArray, List.set_cons_zero, List.set_cons_succ]) (hCont (.slice Ao18 y103.length co18, v107, v110) _ ⟨hHeld, (by (with_reducible repeat (first | apply Kd.R_alloc | apply Kd.R_drewN | apply Kd.R_drew)); exact Kd.R_mono HO105.out (fun _ hk => hk.2)), (by (with_reducible repeat (first | apply Kd.R_alloc | apply Kd.R_drewN | apply Kd.R_drew)); exact HO108.out), (by (with_reducible repeat (first | apply Kd.R_alloc | apply Kd.R_drewN | apply Kd.R_drew)); exact Kd.R_mono HO111.out (fun _ hk => hk.2)), (by (with_reducible repeat (first | apply Kd.R_alloc | apply Kd.R_drewN | apply Kd.R_drew)); exact Kd.R_mono HO_6.out (fun _ hk => hk.2)), (by (with_reducible repeat (first | refine blk_drewN ?_ _ | refine blk_drew ?_ | refine blk_alloc ?_ _)); exact BK102.out), (by repeat (first | (with_reducible first | exact HB.out | apply below_alloc | apply pw_below_drewN | apply below_drew1 | refine below_set ?_ GE102.out) | exact HB.out))⟩)
        rintro ⟨v104, v107, v110⟩ w19 ⟨hS_, h0_, h1_, h2_, h3_, h4_, h5_⟩
        have n0_ : Aside0 (Kd.R (Kd.int .i64) 3 w19 w.heap.size (fun k_ => some k_ ≠ (v107 : Value).ownBlock) v104 y103) := ⟨h0_⟩
        have n1_ : Aside0 (Kd.R (Kd.int .i64) 3 w19 w.heap.size (fun k_ => some k_ ≠ (v104 : Value).ownBlock) v107 y106) := ⟨h1_⟩
        have n2_ : Aside0 (Kd.R (Kd.int .u64) 62 w19 w.heap.size (fun k_ => some k_ ≠ (.slice Ao10 x6_1.length co10 : Value).ownBlock) v110 y109) := ⟨h2_⟩
        have n3_ : Aside0 (Kd.R (Kd.int .u64) 62 w19 w.heap.size (fun k_ => some k_ ≠ (v110 : Value).ownBlock) (.slice Ao10 x6_1.length co10) x6_1) := ⟨h3_⟩
        have n4_ : Aside0 (w19.heap[gb102]? = some (.cells #[.int .i64 ((rd_T123 l0 x13_1).f0), .int .u64 ((rd_T123 l0 x13_1).f1)] 123 (0, 0))) := ⟨h4_⟩
        have n5_ : Aside0 (Below w.heap.size w w19) := ⟨h5_⟩
        clear HO_5
        clear HO_6
        clear BK102
        clear HB
        clear h0_ h1_ h2_ h3_ h4_ h5_
        have HO105 := n0_
        have HO108 := n1_
        have HO111 := n2_
        have HO_6 := n3_
        have BK102 := n4_
        have HB := n5_
        clear n0_ n1_ n2_ n3_ n4_ n5_
        have hHeld : w19.cell? ⟨gb102, 0, none⟩ = some (.int .i64 ((rd_T123 l0 x13_1).f0)) ∧ w19.cell? ⟨gb102, 1, none⟩ = some (.int .u64 ((rd_T123 l0 x13_1).f1)) := hS_
        obtain ⟨Ao21, co21, eo21⟩ := Kd.R_slice HO111.out
        (first | subst eo21 | (injection eo21 with f1_ f2_ f3_; have f4_ := f1_.symm; have f5_ := f3_.symm; clear f1_ f2_ f3_; subst f4_; subst f5_))
        refine norm_ (a' := ?_) ?_ ?_
        rotate_left
        ·simp only [putAll, Act.put, List.setIfInBounds_toArray, List.set_cons_zero, List.set_cons_succ]
         rfl
        refine one_ (i := 9) (N := some 26) #[true, true, true, true, true, true, true, true, true, true, false, false] rfl rfl (one_of HT_.out (by kernel_rfl)) (by decide) (fun K hK => ?_)
        refine Kd.R_append_rows_step (Kd.int .u64) (w0 := w) w.heap.size (by rfl) (.tmp 22) (.tmp 25) 77 62 (.int .u64 0) 8 rfl Try.underlying77 info62 rfl (by decide) (by omega) (.slice Ao10 x6_1.length co10) x6_1 y109 _ _ _ (fun k_ => some k_ ≠ (.slice Ao21 y109.length co21 : Value).ownBlock) (fun _ => False) rfl rfl ?aO ?aR (fun _ _ h => h) (fun _ h => h.elim) ?aF ?aB ?aS ?aL ?_
        (case aR => repeat (first | exact (Kd.R_reads' HO111.out).2.2 | (with_reducible refine Kd.C_alloc ?_ _) | (with_reducible refine Kd.C_drewN ?_ _) | (with_reducible refine Kd.C_drew ?_)))
        (case aB => exact (by repeat (first | (with_reducible first | exact HB.out | apply below_alloc | apply pw_below_drewN | apply below_drew1 | refine below_set ?_ GE102.out) | exact HB.out)))
        (case aF => exact (fun k_ hk => Kd.fresh' (Kd.R_lt (by (with_reducible repeat (first | apply Kd.R_alloc | apply Kd.R_drewN | apply Kd.R_drew)); exact HO111.out)) k_ hk))
        (case aO => exact (by (with_reducible repeat (first | apply Kd.R_alloc | apply Kd.R_drewN | apply Kd.R_drew)); exact HO_6.out))
        (case aS => exact (below_size (by repeat (first | (with_reducible first | exact HB.out | apply below_alloc | apply pw_below_drewN | apply below_drew1 | refine below_set ?_ GE102.out) | exact HB.out))))
        (case aL => have := LMc6.out; omega)
        intro v113 w20 ho hb hg hat
        rw [← Ny112.out] at ho
        have n0_ := Aside0.mk (blk_grown (g := gb102) (o := .cells #[.int .i64 ((rd_T123 l0 x13_1).f0), .int .u64 ((rd_T123 l0 x13_1).f1)] 123 (0, 0)) (by (with_reducible repeat (first | refine blk_drewN ?_ _ | refine blk_drew ?_ | refine blk_alloc ?_ _)); exact BK102.out) hg (Kd.R_ne HO_6.out BK102.out (by decide)))
        have n1_ := Aside0.mk (Kd.R_over' (by (with_reducible repeat (first | apply Kd.R_alloc | apply Kd.R_drewN | apply Kd.R_drew)); exact HO105.out) (Kd.R_typed (by (with_reducible repeat (first | apply Kd.R_alloc | apply Kd.R_drewN | apply Kd.R_drew)); exact HO_6.out)) (by decide) hg)
        have n2_ := Aside0.mk (Kd.R_over' (by (with_reducible repeat (first | apply Kd.R_alloc | apply Kd.R_drewN | apply Kd.R_drew)); exact HO108.out) (Kd.R_typed (by (with_reducible repeat (first | apply Kd.R_alloc | apply Kd.R_drewN | apply Kd.R_drew)); exact HO_6.out)) (by decide) hg)
        have n3_ := Aside0.mk (Kd.R_after (ok := (fun _ => True)) (by (with_reducible repeat (first | apply Kd.R_alloc | apply Kd.R_drewN | apply Kd.R_drew)); exact Kd.R_mono HO111.out (fun _ hk => ⟨trivial, hk⟩)) hg hat)
        have n4_ := Aside0.mk (hb)
        have n5_ := Aside0.mk (ho)
        clear BK102
        clear HO105
        clear HO108
        clear HO111
        clear HB
        clear HO_6
        have BK102 := n0_
        have HO105 := n1_
        have HO108 := n2_
        have HO111 := n3_
        have HB := n4_
        have HO114 := n5_
        clear n0_ n1_ n2_ n3_ n4_ n5_
        clear ho hb hg hat
        refine hK.out _ _ ⟨(blk_cell BK102.out 0).trans rfl, (blk_cell BK102.out 1).trans rfl⟩ (fun hHeld => ?_)
        clear hK K
        refine norm_ (a' := ?_) ?_ ?_
        rotate_left
        ·show Act.put _ (some 26) _ = _
         simp only [Act.put, List.setIfInBounds_toArray, List.set_cons_zero, List.set_cons_succ, i64_w, i32_w]
         rfl
        refine pure_ (i := 10) (N := some 5) (v := ?_) (a' := ?_) #[true, true, true, true, true, true, true, true, true, true, true, false] rfl rfl (any_of HT_.out (by kernel_rfl)) (fun _ _ _ h => h) (Or.inl ⟨by rfl, ?_⟩) ?_ ?_
        rotate_left
        ·intro w'
         go_simp
         with_reducible rfl
        rotate_left
        ·simp only [Act.put, List.setIfInBounds_toArray, List.set_cons_zero, List.set_cons_succ, i64_w, i32_w]
         rfl
        refine pure_ (i := 11) (N := some 6) (v := ?_) (a' := ?_) #[true, true, true, true, true, true, true, true, true, true, true, true] rfl rfl (any_of HT_.out (by kernel_rfl)) (fun _ _ _ h => h) (Or.inl ⟨by rfl, ?_⟩) ?_ ?_
        rotate_left
        ·intro w'
         go_simp
         with_reducible rfl
        rotate_left
        ·simp only [Act.put, List.setIfInBounds_toArray, List.set_cons_zero, List.set_cons_succ, i64_w, i32_w]
         rfl
        refine done_ (done_of HT_.out (by kernel_rfl)) ?_
        try go_wp2
        go_roundg k1
        case measure => have := HK1.out; omega
        case rel => exact ⟨(y106), (y112), (wrap64 (x13_1 + 1)), (by first | rfl | (simp; done) | (simp [*]; done)), H', ⟨by have := HK1.out; omega⟩, ⟨by (with_reducible repeat (first | apply Kd.R_alloc | apply Kd.R_drewN | apply Kd.R_drew)); exact Kd.R_mono HO108.out (fun _ hk => trivial)⟩, ⟨by (with_reducible repeat (first | apply Kd.R_alloc | apply Kd.R_drewN | apply Kd.R_drew)); exact Kd.R_mono HO114.out (fun _ hk => trivial)⟩, ⟨by repeat (first | (with_reducible first | exact HB.out | apply below_alloc | apply pw_below_drewN | apply below_drew1 | refine below_set ?_ GE102.out) | exact HB.out)⟩⟩
       ·rw [if_neg c6] at H
        exact absurd H (by simp)
      ·rw [if_neg c5] at H
       exact absurd H (by simp)
     ·rw [if_neg c4] at H
      exact absurd H (by simp)
    ·rw [if_neg c3] at H
     exact absurd H (by simp)
   ·rw [if_neg c2] at H
    have c2b0 : decide (x13_1 < (l0.length : Int)) = false := decide_eq_false c2
    clear c2
    replace H := Option.bind_eq_some_iff.mp H
    obtain ⟨⟨t115, t116⟩, A220, H⟩ := H
    replace H : (if t116 = 0 then (some (t115, x6_1, 0)) else (some (([] : List (S144)), ([] : List Int), t116))) = some (r1, r2, r3) := H
    have A22 := Aside0.mk A220
    clear A220
    by_cases c23 : t116 = 0
    ·rw [if_pos c23] at H
     have c23b0 : (t116 == 0) = true := beq_iff_eq.mpr c23
     have c23b1 : (t116 != 0) = false := bne_eq_false_iff_eq.mpr c23
     clear c23
     simp only [Option.some.injEq, Prod.mk.injEq] at H
     obtain ⟨rfl, rfl, rfl⟩ := H
     obtain ⟨Ao24, co24, eo24⟩ := Kd.R_slice HO_5.out
     subst eo24
     go_wp2_with (first | ((with_reducible refine gate_callee (f := 122) rfl ?_); refine goesL_ (some 30) rfl rfl Try.func122 (by kernel_rfl) rfl #[.slice Ao24 x5_1.length co24] rfl (by (try simp only [List.map_toArray, List.map_cons, List.map_nil]); first | done | rfl | (simp only [List.length_drop, List.length_take]; rfl)) ?_; (with_reducible refine (span_From.calls k1 _ _ x5_1 t115 t116 _ ?side1 ?side2 A22.out).mono ?_); (case side1 => repeat (first | exact (Kd.R_reads' HO_5.out).2.2 | (with_reducible refine Kd.C_alloc ?_ _) | (with_reducible refine Kd.C_drewN ?_ _) | (with_reducible refine Kd.C_drew ?_))); (case side2 => exact (Kd.R_reads' HO_5.out).2.1); rintro e w25 ⟨v117, rfl, ho0, hb⟩; refine ⟨_, rfl, ?_⟩; have n0_ := Aside0.mk (Kd.R_below (by (with_reducible repeat (first | apply Kd.R_alloc | apply Kd.R_drewN | apply Kd.R_drew)); exact HO_5.out) hb); have n1_ := Aside0.mk (Kd.R_below (by (with_reducible repeat (first | apply Kd.R_alloc | apply Kd.R_drewN | apply Kd.R_drew)); exact HO_6.out) hb); have n2_ := Aside0.mk (Kd.R_lower ho0 (below_size (by repeat (first | (with_reducible first | exact HB.out | apply below_alloc | apply pw_below_drewN | apply below_drew1) | exact HB.out)))); have n3_ := Aside0.mk (below_step (by repeat (first | (with_reducible first | exact HB.out | apply below_alloc | apply pw_below_drewN | apply below_drew1) | exact HB.out)) hb); clear HO_5; clear HO_6; clear HB; have HO_5 := n0_; have HO_6 := n1_; have HO118 := n2_; have HB := n3_; clear n0_ n1_ n2_ n3_; (try clear hb); (try clear hb2); (try clear hk); (try clear hi); (try clear ho0); clear A22))
     go_ret3
     exact ⟨_, _, by first | rfl | (simp [errW_none, errW_some] <;> rfl) | (simp [*, errW_none, errW_some] <;> rfl), by (with_reducible repeat (first | apply Kd.R_alloc | apply Kd.R_drewN | apply Kd.R_drew)); exact HO118.out, by (with_reducible repeat (first | apply Kd.R_alloc | apply Kd.R_drewN | apply Kd.R_drew)); exact HO_6.out, by repeat (first | (with_reducible first | exact HB.out | apply below_alloc | apply pw_below_drewN | apply below_drew1) | exact HB.out)⟩
    ·rw [if_neg c23] at H
     have c23b0 : (t116 == 0) = false := beq_eq_false_iff_ne.mpr c23
     have c23b1 : (t116 != 0) = true := bne_iff_ne.mpr c23
     simp only [Option.some.injEq, Prod.mk.injEq] at H
     obtain ⟨rfl, rfl, rfl⟩ := H
     obtain ⟨Ao26, co26, eo26⟩ := Kd.R_slice HO_5.out
     subst eo26
     go_wp2_with (first | ((with_reducible refine gate_callee (f := 122) rfl ?_); refine goesL_ (some 30) rfl rfl Try.func122 (by kernel_rfl) rfl #[.slice Ao26 x5_1.length co26] rfl (by (try simp only [List.map_toArray, List.map_cons, List.map_nil]); first | done | rfl | (simp only [List.length_drop, List.length_take]; rfl)) ?_; (with_reducible refine (span_From.calls k1 _ _ x5_1 t115 t116 _ ?side1 ?side2 A22.out).mono ?_); (case side1 => repeat (first | exact (Kd.R_reads' HO_5.out).2.2 | (with_reducible refine Kd.C_alloc ?_ _) | (with_reducible refine Kd.C_drewN ?_ _) | (with_reducible refine Kd.C_drew ?_))); (case side2 => exact (Kd.R_reads' HO_5.out).2.1); rintro e w27 ⟨v117, rfl, ho0, hb⟩; refine ⟨_, rfl, ?_⟩; have n0_ := Aside0.mk (Kd.R_below (by (with_reducible repeat (first | apply Kd.R_alloc | apply Kd.R_drewN | apply Kd.R_drew)); exact HO_5.out) hb); have n1_ := Aside0.mk (Kd.R_below (by (with_reducible repeat (first | apply Kd.R_alloc | apply Kd.R_drewN | apply Kd.R_drew)); exact HO_6.out) hb); have n2_ := Aside0.mk (Kd.R_lower ho0 (below_size (by repeat (first | (with_reducible first | exact HB.out | apply below_alloc | apply pw_below_drewN | apply below_drew1) | exact HB.out)))); have n3_ := Aside0.mk (below_step (by repeat (first | (with_reducible first | exact HB.out | apply below_alloc | apply pw_below_drewN | apply below_drew1) | exact HB.out)) hb); clear HO_5; clear HO_6; clear HB; have HO_5 := n0_; have HO_6 := n1_; have HO118 := n2_; have HB := n3_; clear n0_ n1_ n2_ n3_; (try clear hb); (try clear hb2); (try clear hk); (try clear hi); (try clear ho0); clear A22))
     go_ret3
     exact ⟨_, _, by first | rfl | (simp [errW_none, errW_some] <;> rfl) | (simp [*, errW_none, errW_some] <;> rfl), by first | exact Kd.R_nil _ _ _ _ _ | exact Kd.N_nil _ _ _ _ _ | exact Kd.V_nil _ _ _ _ _ | exact Kd.Q_nil _ _ _ _ _ | exact Kd.S_nil _ _ _ _ _, by first | exact Kd.R_nil _ _ _ _ _ | exact Kd.N_nil _ _ _ _ _ | exact Kd.V_nil _ _ _ _ _ | exact Kd.Q_nil _ _ _ _ _ | exact Kd.S_nil _ _ _ _ _, by repeat (first | (with_reducible first | exact HB.out | apply below_alloc | apply pw_below_drewN | apply below_drew1) | exact HB.out)⟩
end Go.Proofs.Ytacgeafjilipdaa.P
namespace Go.Proofs.Ytacgeafjilipdaa.P
open Go.RowKit Go.Shelf Go.Proofs.YtacgeafjilipdaaW.PrintWords Go.Proofs.YtacgeafjilipdaaW.PrintLast Go.Proofs.YtacgeafjilipdaaW.PrintMore
set_option linter.unusedVariables false
set_option linter.unusedSimpArgs false
abbrev Pu := S123
instance : DecidableEq Pu := fun a b => if h : a.f0 = b.f0 ∧ a.f1 = b.f1 then isTrue (by cases a; cases b; simp only at h; rw [h.1, h.2]) else isFalse (by rintro rfl; exact h ⟨rfl, rfl⟩)
theorem rdPu_at {l : List Pu} {i : Nat} (h : i < l.length) : rd_T123 l (i : Int) = l[i] := by unfold rd_T123; simp [List.getD, h]
def wfPus (l : List Pu) : Prop := ∀ s ∈ l, i64 s.f0 ∧ u64 s.f1
def unzipResU (l : List Pu) : List Sp × List Int × Int := if (fromRes (l.map (·.f0))).2 = 0 then ((fromRes (l.map (·.f0))).1, l.map (·.f1), 0) else ([], [], (fromRes (l.map (·.f0))).2)
theorem unzipU_loop (l : List Pu) (hw : wfPus l) (hm : l.length < 4398046511104) : ∀ (d k i : Nat), l.length - i = d → d + 2 * l.length + 1 < k → i ≤ l.length →
    pairs_Unzip_uint64.l0 k ((l.take i).map (·.f0)) ((l.take i).map (·.f1)) l (l.length : Int) (i : Int) = some (unzipResU l) := by
  intro d
  induction d with
  | zero =>
    intro k i hd hk hi
    obtain ⟨k, rfl⟩ : ∃ m, k = m + 1 := ⟨k - 1, by omega⟩
    simp only [pairs_Unzip_uint64.l0]
    rw [if_neg (by omega), List.take_of_length_le (by omega), from_eq _ (by intro x hx; obtain ⟨s, hs, rfl⟩ := List.mem_map.1 hx; exact (hw s hs).1) (by simpa using hm) k (by simp; omega)]
    simp only [Option.bind_some]
    unfold unzipResU
    split <;> rfl
  | succ d ih =>
    intro k i hd hk hi
    obtain ⟨k, rfl⟩ : ∃ m, k = m + 1 := ⟨k - 1, by omega⟩
    have hlt : i < l.length := by omega
    have hl1 : ((l.take i).map (·.f0)).length = i := by simp; omega
    have hl2 : ((l.take i).map (·.f1)).length = i := by simp; omega
    simp only [pairs_Unzip_uint64.l0, Option.bind_some]
    rw [if_pos (by omega), if_pos (by omega), if_pos (by omega), hl1, hl2, rdPu_at hlt, if_pos (by simp; omega), if_pos (by simp; omega), wrap_succ (by omega), ← ih k (i + 1) (by omega) (by omega) (by omega), take_at hlt]
    simp only [List.map_append, List.map_cons, List.map_nil]
theorem unzipU_eq (l : List Pu) (hw : wfPus l) (hm : l.length < 4398046511104) (k : Nat) (hk : 3 * l.length + 1 < k) : pairs_Unzip_uint64.f k l = some (unzipResU l) := by
  unfold pairs_Unzip_uint64.f
  exact unzipU_loop l hw hm l.length k 0 (by omega) (by omega) (by omega)
def zipResU (l : List Sp) (v : List Int) : List Pu × Int := if spCheck l = 0 then (if (plN 0 l).length = v.length then (List.zipWith (fun p x => (⟨p, x⟩ : Pu)) (plN 0 l) v, 0) else ([], 10)) else ([], spCheck l)
theorem zipU_loop (ps v : List Int) (hl : ps.length = v.length) (hm : ps.length < 8796093022208) : ∀ (d k i : Nat), ps.length - i = d → d < k → i ≤ ps.length →
    pairs_Zip_uint64.l0 k v (List.zipWith (fun p x => (⟨p, x⟩ : Pu)) (ps.take i) (v.take i)) ps (ps.length : Int) (i : Int) = some (List.zipWith (fun p x => (⟨p, x⟩ : Pu)) ps v, 0) := by
  intro d
  induction d with
  | zero =>
    intro k i hd hk hi
    obtain ⟨k, rfl⟩ : ∃ m, k = m + 1 := ⟨k - 1, by omega⟩
    simp only [pairs_Zip_uint64.l0]
    rw [if_neg (by omega), List.take_of_length_le (by omega), List.take_of_length_le (by omega)]
  | succ d ih =>
    intro k i hd hk hi
    obtain ⟨k, rfl⟩ : ∃ m, k = m + 1 := ⟨k - 1, by omega⟩
    have hlt : i < ps.length := by omega
    have hlv : i < v.length := by omega
    have hl1 : (List.zipWith (fun p x => (⟨p, x⟩ : Pu)) (ps.take i) (v.take i)).length = i := by simp; omega
    simp only [pairs_Zip_uint64.l0]
    rw [if_pos (by omega), if_pos (by omega), if_pos (by omega), if_pos (by omega), hl1, rd_at hlt, rd_at hlv, if_pos (by omega), wrap_succ (by omega), ← ih k (i + 1) (by omega) (by omega) (by omega), take_at hlt, take_at hlv, List.zipWith_append (by simp; omega)]
    rfl
theorem zipU_eq (l : List Sp) (v : List Int) (hw : wfSps l) (k : Nat) (hk : 4100 < k) : pairs_Zip_uint64.f k l v = some (zipResU l v) := by
  unfold pairs_Zip_uint64.f zipResU
  rw [places_eq l hw k (by omega)]
  simp only [Option.bind_some, placesRes]
  by_cases h : spCheck l = 0
  · have hl := places_len h
    rw [if_pos h, if_pos h]
    simp only [if_true]
    by_cases h1 : (plN 0 l).length = v.length
    · rw [if_pos (by omega), if_pos h1]
      exact zipU_loop (plN 0 l) v h1 (by omega) (plN 0 l).length k 0 (by omega) (by omega) (by omega)
    · rw [if_neg (by omega), if_neg h1]
  · rw [if_neg h, if_neg h]
    simp only
    rw [if_neg h]
theorem equalPu_loop (a b : List Pu) (hl : a.length = b.length) (hm : a.length < 17592186044416) : ∀ (d k i : Nat), a.length - i = d → d < k → i ≤ a.length →
    pairs_Pair_uint64_183.l0 k a b (a.length : Int) (i : Int) = some (decide (a.drop i = b.drop i)) := by
  intro d
  induction d with
  | zero =>
    intro k i hd hk hi
    obtain ⟨k, rfl⟩ : ∃ m, k = m + 1 := ⟨k - 1, by omega⟩
    simp only [pairs_Pair_uint64_183.l0]
    rw [if_neg (by omega), drop_end (by omega), drop_end (by omega)]; rfl
  | succ d ih =>
    intro k i hd hk hi
    obtain ⟨k, rfl⟩ : ∃ m, k = m + 1 := ⟨k - 1, by omega⟩
    have h1 : i < a.length := by omega
    have h2 : i < b.length := by omega
    simp only [pairs_Pair_uint64_183.l0]
    rw [if_pos (by omega), if_pos (by omega), if_pos (by omega), if_pos (by omega), rdPu_at h1, rdPu_at h2, drop_at h1, drop_at h2]
    generalize a[i] = x
    generalize b[i] = y
    by_cases he : x = y
    · subst he
      rw [if_neg (by simp), wrap_succ (by omega), ih k (i + 1) (by omega) (by omega) (by omega)]
      congr 1; rw [decide_eq_decide, List.cons_eq_cons]; exact ⟨fun h => ⟨rfl, h⟩, fun h => h.2⟩
    · rw [if_pos, decide_eq_false (fun h => he (List.cons_eq_cons.1 h).1)]
      obtain ⟨x0, x1⟩ := x
      obtain ⟨y0, y1⟩ := y
      simp only [Bool.or_eq_true, Bool.not_eq_true', beq_eq_false_iff_ne, ne_eq]
      by_cases h0 : x0 = y0
      · right; intro h1; subst h0; subst h1; exact he rfl
      · exact Or.inl h0
theorem equalPu_eq (a b : List Pu) (hm : a.length < 17592186044416) (k : Nat) (hk : a.length < k) : pairs_Equal_uint64.f k a b = some (decide (a = b)) := by
  unfold pairs_Equal_uint64.f pairs_Pair_uint64_183.f
  by_cases h : a.length = b.length
  · rw [if_pos (by omega)]
    have := equalPu_loop a b h hm a.length k 0 (by omega) hk (by omega)
    simp only [List.drop_zero] at this
    rw [show (0 : Int) = ((0 : Nat) : Int) from rfl, this]; rfl
  · rw [if_neg (by omega)]
    rw [decide_eq_false (fun e => h (by rw [e]))]; rfl
end Go.Proofs.Ytacgeafjilipdaa.P
namespace Go.Proofs.Ytacgeafjilipdaa.P
open Go.RowKit Go.Shelf Go.Proofs.YtacgeafjilipdaaW.PrintWords Go.Proofs.YtacgeafjilipdaaW.PrintLast Go.Proofs.YtacgeafjilipdaaW.PrintMore
set_option linter.unusedVariables false
set_option linter.unusedSimpArgs false
def PredN_uint64 (g : Nat) (cap : Array Value) (p : Int → Bool) (w : World) : Prop :=
  ∀ (W : World) (x : Int), Below w.heap.size w W → Calls Try.prog g (#[.int .u64 x] ++ cap) W fun e w' => e = .returned (.bool (p x)) ∧ Below W.heap.size W w'
set_option maxHeartbeats 2000000 in
theorem indexFunc_num_uint64 (g : Nat) (cap : Array Value) (p : Int → Bool) (A : Option Addr) (c : Nat) (l : List Int) (w : World)
    (hr : Kd.C (Kd.int .u64) w A l.length l) (hc : l.length ≤ c) (hm : l.length ≤ 9223372036854775807) (hp : PredN_uint64 g cap p w) (eg : ∀ args w, (callFunc g args).run Try.prog w = .ok (.enter g args) w) :
    Calls Try.prog 200 #[.slice A l.length c, .func (.func g) #[] cap] w fun e w' => e = .returned (.int .i64 (idxP p l)) ∧ Below w.heap.size w w' := by
  have HR := Aside0.mk hr
  have HP := Aside0.mk hp
  clear hr hp
  go_enter Try.func200, Try.ntmps200
  go_wp2
  go_loopg [5, 8] l.length (fun gg _ s8 wr => ∃ kk : Nat, kk ≤ l.length ∧ l.length - kk ≤ gg ∧ s8 = .int .i64 kk ∧ Aside0 (Below w.heap.size w wr) ∧ Aside0 (∀ j (hj : j < kk) (hj2 : j < l.length), p l[j] = false))
  case atStart => exact ⟨0, Nat.zero_le _, by omega, rfl, ⟨Below.refl _ w⟩, ⟨fun j hj => absurd hj (Nat.not_lt_zero _)⟩⟩
  case round =>
    obtain ⟨kk, hkk, hg, rfl, HB, HA⟩ := hrel
    by_cases hlt : kk < l.length
    · have hlti : (kk : Int) < (l.length : Int) := by omega
      obtain ⟨ad, e1, hx0⟩ := Kd.at_int HR.out kk (by omega) (by omega)
      cases e1
      replace hx0 := (HB.out.cell (World.block_lt_of_cell? w _ hx0)).trans hx0
      have hrd : rd l (kk : Int) = l[kk] := by unfold rd; simp [List.getD, hlt]
      rw [hrd, Int.toNat_natCast] at hx0
      have hcall := HP.out wr l[kk] HB.out
      generalize hy : l[kk] = y at hx0 hcall
      have HY := Aside0.mk hy
      clear hy hrd
      cases hq : p y with
      | true =>
        rw [hq] at hcall
        have HQ := Aside0.mk hq
        clear hq
        have HC := Aside0.mk hcall
        clear hcall
        go_wp2_with (go_at_fn g; refine HC.out.mono ?_; rintro e w' ⟨rfl, hb'⟩)
        go_ret
        refine ⟨?_, HB.out.trans (hb'.mono HB.out.size)⟩
        rw [idxP_hit p l kk hlt (by rw [HY.out]; exact HQ.out) (fun j hj => HA.out j hj (by omega))]; rfl
      | false =>
        rw [hq] at hcall
        have HQ := Aside0.mk hq
        clear hq
        have HC := Aside0.mk hcall
        clear hcall
        go_wp2_with (go_at_fn g; refine HC.out.mono ?_; rintro e w' ⟨rfl, hb'⟩)
        go_roundg (l.length - (kk + 1))
        case measure => omega
        case rel =>
          refine ⟨kk + 1, by omega, by omega, by go_num, ⟨HB.out.trans (hb'.mono HB.out.size)⟩, ⟨fun j hj hj2 => ?_⟩⟩
          by_cases e : j = kk
          · subst e
            rw [HY.out]; exact HQ.out
          · exact HA.out j (by omega) hj2
    · have hlti : ¬ (kk : Int) < (l.length : Int) := by omega
      have hk : kk = l.length := by omega
      go_wp2
      go_ret
      refine ⟨?_, HB.out⟩
      rw [idxP_miss p l (fun j hj => HA.out j (by omega) hj)]; rfl
theorem idxP_any_uint64 (p : Int → Bool) (l : List Int) : decide (idxP p l ≥ 0) = l.any p := by
  rcases find_idx p l with ⟨h1, h2⟩ | ⟨i, h, h1, h2⟩
  · rw [h1, Bool.eq_iff_iff, decide_eq_true_iff]
    constructor
    · intro h; omega
    · intro h
      obtain ⟨x, hx, hp⟩ := List.any_eq_true.1 h
      rw [List.find?_eq_none] at h2
      exact absurd hp (h2 x hx)
  · rw [h1, Bool.eq_iff_iff, decide_eq_true_iff]
    constructor
    · intro _; exact List.any_eq_true.2 ⟨_, List.getElem_mem h, by have := List.find?_some h2; exact this⟩
    · intro _; omega
set_option maxHeartbeats 2000000 in
theorem containsFunc_num_uint64 (g : Nat) (cap : Array Value) (p : Int → Bool) (A : Option Addr) (c : Nat) (l : List Int) (w : World)
    (hr : Kd.C (Kd.int .u64) w A l.length l) (hc : l.length ≤ c) (hm : l.length ≤ 9223372036854775807) (hp : PredN_uint64 g cap p w) (eg : ∀ args w, (callFunc g args).run Try.prog w = .ok (.enter g args) w) :
    Calls Try.prog 194 #[.slice A l.length c, .func (.func g) #[] cap] w fun e w' => e = .returned (.bool (l.any p)) ∧ Below w.heap.size w w' := by
  have H := Aside0.mk (indexFunc_num_uint64 g cap p A c l w hr hc hm hp eg)
  have HE := Aside0.mk (idxP_any_uint64 p l)
  clear hr hp
  generalize idxP p l = ix at H HE
  go_enter Try.func194, Try.ntmps194
  go_wp2_with (go_at_call 200; refine H.out.mono ?_; rintro e w' ⟨rfl, hb'⟩)
  go_ret
  exact ⟨by rw [← HE.out]; rfl, hb'⟩
end Go.Proofs.Ytacgeafjilipdaa.P
namespace Go.Proofs.Ytacgeafjilipdaa.P
open Go.RowKit Go.Shelf Go.Proofs.YtacgeafjilipdaaW.PrintWords Go.Proofs.YtacgeafjilipdaaW.PrintLast Go.Proofs.YtacgeafjilipdaaW.PrintMore
set_option linter.unusedVariables false
set_option linter.unusedSimpArgs false
abbrev kPu := k123
def u64s (l : List Int) : Prop := ∀ x ∈ l, u64 x
instance (l : List Int) : Decidable (u64s l) := by unfold u64s; exact inferInstance
def rightF (v : Int) : Bool := decide (v < 9218868437227405312)
theorem thresh_c (v : Int) (w : World) : Calls Try.prog 74 #[.int .u64 v] w fun e w' => e = .returned (.bool (rightF v)) ∧ Below w.heap.size w w' := (hist_Threshold.calls v _ w rfl).mono fun e w1 h => ⟨h.1, h.2.below⟩
theorem right_c (v : Int) (w : World) : Calls Try.prog 98 #[.int .u64 v] w fun e w' => e = .returned (.bool (rightF v)) ∧ Below w.heap.size w w' := by
  have HT := thresh_c v
  generalize rightF v = b at *
  go_enter Try.func98, Try.ntmps98
  go_wp2_with (go_at_call 74; (with_reducible refine (HT _).mono ?_); rintro e w1 ⟨rfl, hb⟩)
  go_ret
  exact ⟨rfl, hb⟩
theorem wrong_c (v : Int) (w : World) : Calls Try.prog 181 #[.int .u64 v] w fun e w' => e = .returned (.bool (!rightF v)) ∧ Below w.heap.size w w' := by
  have HT := right_c v
  generalize rightF v = b at *
  go_enter Try.func181, Try.ntmps181
  go_wp2_with (go_at_call 98; (with_reducible refine (HT _).mono ?_); rintro e w1 ⟨rfl, hb⟩)
  go_ret
  exact ⟨rfl, hb⟩
def sideF (l : List Sp) (c : List Int) : List Pu × Int :=
  if spCheck l = 0 then (if cntN l = c.length then (if c.any (fun v => !rightF v) = true then ([], 22) else (List.zipWith (fun p x => (⟨p, x⟩ : Pu)) (plN 0 l) c, 0)) else ([], 23)) else ([], spCheck l)
theorem spCheck_c (l : List Sp) (hw : wfSps l) (w : World) (v : Value) (hv : SI kSp w v l) : Calls Try.prog 130 #[v] w fun e w' => e = .returned (.int .i64 (spCheck l)) ∧ Below w.heap.size w w' := by
  obtain ⟨A, c, rfl, hc, hr⟩ := hv
  exact span_Check.calls 2049 A c l _ w hr hc (check_eq l hw 2049 (by omega))
theorem spCount_c (l : List Sp) (hw : wfSps l) (h0 : spCheck l = 0) (w : World) (v : Value) (hv : SI kSp w v l) : Calls Try.prog 187 #[v] w fun e w' => e = .returned (.int .i64 (cntN l)) ∧ Below w.heap.size w w' := by
  obtain ⟨A, c, rfl, hc, hr⟩ := hv
  exact span_Count.calls 2049 A c l _ w hr hc (by rw [count_eq l hw 2049 (by omega), if_pos h0])
theorem anyWrong_c (c : List Int) (hm : c.length < 4398046511104) (w : World) (v : Value) (hv : SI (Kd.int .u64) w v c) : Calls Try.prog 194 #[v, .func (.func 181) #[] #[]] w fun e w' => e = .returned (.bool (c.any (fun v => !rightF v))) ∧ Below w.heap.size w w' := by
  obtain ⟨A, c', rfl, hc, hr⟩ := hv
  exact containsFunc_num_uint64 181 #[] (fun v => !rightF v) A c' c w hr hc (by omega) (fun W x _ => wrong_c x W) (enters_of Try.func181 (by kernel_rfl) rfl)
theorem zipU_c (l : List Sp) (c : List Int) (hw : wfSps l) (w : World) (v u : Value) (hv : SI kSp w v l) (hu : SI (Kd.int .u64) w u c) : Calls Try.prog 195 #[v, u] w fun e w' => ∃ v0, e = .returned (.tuple #[v0, .int .i64 (zipResU l c).2]) ∧ FI kPu w.heap.size w' v0 (zipResU l c).1 ∧ Below w.heap.size w w' := by
  obtain ⟨A, c1, rfl, hc, hr⟩ := hv
  obtain ⟨B, c2, rfl, hd, hs⟩ := hu
  refine (pairs_Zip_uint64.calls 4101 A c1 l B c2 c (zipResU l c).1 (zipResU l c).2 w hr hc hs hd (zipU_eq l c hw 4101 (by omega))).mono ?_
  rintro e w1 ⟨v0, rfl, h0, hb⟩
  exact ⟨v0, rfl, .of_R h0 (Nat.le_refl _), hb⟩
set_option maxHeartbeats 8000000 in
set_option maxRecDepth 100000 in
theorem fside_c (l : List Sp) (c : List Int) (hw : wfSps l) (hm : c.length < 4398046511104) (w : World) (v u : Value) (hv : SI kSp w v l) (hu : SI (Kd.int .u64) w u c) : Calls Try.prog 182 #[v, u] w fun e w' => ∃ v0, e = .returned (.tuple #[v0, .int .i64 (sideF l c).2]) ∧ FI kPu w.heap.size w' v0 (sideF l c).1 ∧ Below w.heap.size w w' := by
  have hv' := hv
  have hu' := hu
  obtain ⟨A, c1, e1, -⟩ := hv'
  obtain ⟨A1, c2, e2, -⟩ := hu'
  subst e1; subst e2
  have B := Aside0.mk (Below.refl w.heap.size w)
  have HV := Aside0.mk hv
  have HU := Aside0.mk hu
  have kc := spCheck_c l hw
  have kn := spCount_c l hw
  have kf := anyWrong_c c hm
  have kz := zipU_c l c hw
  have hpl : spCheck l = 0 → ((plN 0 l).length : Int) = cntN l := fun h => plN_length l 0 (fun s hs => (spRight_pos l _ _ _ (spCheck_zero h).2 s hs).1)
  have hzr : zipResU l c = if spCheck l = 0 then (if (plN 0 l).length = c.length then (List.zipWith (fun p x => (⟨p, x⟩ : Pu)) (plN 0 l) c, 0) else ([], 10)) else ([], spCheck l) := rfl
  clear hv hu hw hm
  unfold sideF
  by_cases he : spCheck l = 0
  rotate_left
  · rw [if_neg he]
    generalize spCheck l = r at *
    have d1 : (r == 0) = false := beq_eq_false_iff_ne.2 he
    have d2 : (r != 0) = true := bne_iff_ne.2 he
    have KC := Aside0.mk kc
    clear kc kn kf kz hpl hzr he
    go_enter Try.func182, Try.ntmps182
    go_wp2_with (first | (go_at_call 130; (with_reducible refine (KC.out _ _ HV.out).mono ?_); rintro e W1 ⟨rfl, hb⟩; replace B := Aside0.mk (below_then B.out B.out.size hb); replace HV := Aside0.mk (HV.out.below hb); replace HU := Aside0.mk (HU.out.below hb); clear  hb))
    go_ret2
    exact ⟨_, rfl, fun w _ => SI.nil _ w, B.out⟩
  rw [if_pos he]
  rw [he] at kc
  have KC := Aside0.mk kc
  have KN := Aside0.mk (kn he)
  have hp := hpl he
  rw [if_pos he] at hzr
  clear kc kn hpl he
  generalize cntN l = n at *
  by_cases hc : n = (c.length : Int)
  rotate_left
  · rw [if_neg hc]
    have d1 : (n == (c.length : Int)) = false := beq_eq_false_iff_ne.2 hc
    have d2 : (n != (c.length : Int)) = true := bne_iff_ne.2 hc
    clear kf kz hzr hp hc
    go_enter Try.func182, Try.ntmps182
    go_wp2_with (first | (go_at_call 130; (with_reducible refine (KC.out _ _ HV.out).mono ?_); rintro e W1 ⟨rfl, hb⟩; replace B := Aside0.mk (below_then B.out B.out.size hb); replace HV := Aside0.mk (HV.out.below hb); replace HU := Aside0.mk (HU.out.below hb); clear  hb) | (go_at_call 187; (with_reducible refine (KN.out _ _ HV.out).mono ?_); rintro e W2 ⟨rfl, hb⟩; replace B := Aside0.mk (below_then B.out B.out.size hb); replace HV := Aside0.mk (HV.out.below hb); replace HU := Aside0.mk (HU.out.below hb); clear  hb))
    go_ret2
    exact ⟨_, rfl, fun w _ => SI.nil _ w, B.out⟩
  rw [if_pos hc]
  have d1 : (n == (c.length : Int)) = true := beq_iff_eq.2 hc
  have d2 : (n != (c.length : Int)) = false := by rw [bne, d1]; rfl
  rw [if_pos (by omega)] at hzr
  rw [hzr] at kz
  clear hzr hp hc
  generalize List.zipWith (fun p x => (⟨p, x⟩ : Pu)) (plN 0 l) c = z at *
  have KZ := Aside0.mk kz
  clear kz
  generalize c.any (fun v => !rightF v) = b at *
  have KF := Aside0.mk kf
  clear kf
  cases b with
  | true =>
    rw [if_pos rfl]
    go_enter Try.func182, Try.ntmps182
    go_wp2_with (first | (go_at_call 130; (with_reducible refine (KC.out _ _ HV.out).mono ?_); rintro e W1 ⟨rfl, hb⟩; replace B := Aside0.mk (below_then B.out B.out.size hb); replace HV := Aside0.mk (HV.out.below hb); replace HU := Aside0.mk (HU.out.below hb); clear  hb) | (go_at_call 187; (with_reducible refine (KN.out _ _ HV.out).mono ?_); rintro e W2 ⟨rfl, hb⟩; replace B := Aside0.mk (below_then B.out B.out.size hb); replace HV := Aside0.mk (HV.out.below hb); replace HU := Aside0.mk (HU.out.below hb); clear  hb) | (go_at_call 194; (with_reducible refine (KF.out _ _ HU.out).mono ?_); rintro e W3 ⟨rfl, hb⟩; replace B := Aside0.mk (below_then B.out B.out.size hb); replace HV := Aside0.mk (HV.out.below hb); replace HU := Aside0.mk (HU.out.below hb); clear  hb))
    go_ret2
    exact ⟨_, rfl, fun w _ => SI.nil _ w, B.out⟩
  | false =>
    rw [if_neg (by simp)]
    go_enter Try.func182, Try.ntmps182
    go_wp2_with (first | (go_at_call 130; (with_reducible refine (KC.out _ _ HV.out).mono ?_); rintro e W1 ⟨rfl, hb⟩; replace B := Aside0.mk (below_then B.out B.out.size hb); replace HV := Aside0.mk (HV.out.below hb); replace HU := Aside0.mk (HU.out.below hb); clear  hb) | (go_at_call 187; (with_reducible refine (KN.out _ _ HV.out).mono ?_); rintro e W2 ⟨rfl, hb⟩; replace B := Aside0.mk (below_then B.out B.out.size hb); replace HV := Aside0.mk (HV.out.below hb); replace HU := Aside0.mk (HU.out.below hb); clear  hb) | (go_at_call 194; (with_reducible refine (KF.out _ _ HU.out).mono ?_); rintro e W3 ⟨rfl, hb⟩; replace B := Aside0.mk (below_then B.out B.out.size hb); replace HV := Aside0.mk (HV.out.below hb); replace HU := Aside0.mk (HU.out.below hb); clear  hb) | (go_at_call 195; (with_reducible refine (KZ.out _ _ _ HV.out HU.out).mono ?_); rintro e W4 ⟨v0, rfl, hz, hb⟩; have B0 := Aside0.mk B.out.size; replace B := Aside0.mk (below_then B.out B.out.size hb); replace HV := Aside0.mk (HV.out.below hb); replace HU := Aside0.mk (HU.out.below hb); have Z := Aside0.mk hz; have hz' := Z.out; obtain ⟨zA, zc, ez⟩ := hz'.slice; subst ez; clear hz hb))
    go_ret2
    exact ⟨_, rfl, Z.out.lower B0.out, B.out⟩
end Go.Proofs.Ytacgeafjilipdaa.P
namespace Go.Proofs.Ytacgeafjilipdaa.P
open Go.RowKit Go.Shelf Go.Proofs.YtacgeafjilipdaaW.PrintWords Go.Proofs.YtacgeafjilipdaaW.PrintLast Go.Proofs.YtacgeafjilipdaaW.PrintMore
set_option linter.unusedVariables false
set_option linter.unusedSimpArgs false
abbrev Fh := S79
def GI (w : World) (v : Value) (h : Fh) : Prop :=
  ∃ v5 v6 v7 v8, v = .agg #[.int .i64 h.f0, .int .u64 h.f1, .int .u64 h.f2, .int .u64 h.f3, .int .u64 h.f4, v5, v6, v7, v8] ∧ SI kSp w v5 h.f5 ∧ SI kSp w v6 h.f6 ∧ SI (Kd.int .u64) w v7 h.f7 ∧ SI (Kd.int .u64) w v8 h.f8
theorem GI.below {w w' : World} {v : Value} {h : Fh} (x : GI w v h) (hb : Below w.heap.size w w') : GI w' v h := by
  obtain ⟨v5, v6, v7, v8, e, h5, h6, h7, h8⟩ := x
  exact ⟨v5, v6, v7, v8, e, h5.below hb, h6.below hb, h7.below hb, h8.below hb⟩
theorem GI.open_ {w : World} {v : Value} {h : Fh} (x : GI w v h) : ∃ A5 c5 A6 c6 A7 c7 A8 c8, v = .agg #[.int .i64 h.f0, .int .u64 h.f1, .int .u64 h.f2, .int .u64 h.f3, .int .u64 h.f4, .slice A5 h.f5.length c5, .slice A6 h.f6.length c6, .slice A7 h.f7.length c7, .slice A8 h.f8.length c8] ∧
    SI kSp w (.slice A5 h.f5.length c5) h.f5 ∧ SI kSp w (.slice A6 h.f6.length c6) h.f6 ∧ SI (Kd.int .u64) w (.slice A7 h.f7.length c7) h.f7 ∧ SI (Kd.int .u64) w (.slice A8 h.f8.length c8) h.f8 := by
  obtain ⟨v5, v6, v7, v8, rfl, h5, h6, h7, h8⟩ := x
  obtain ⟨A5, c5, rfl, h51, h52⟩ := h5
  obtain ⟨A6, c6, rfl, h61, h62⟩ := h6
  obtain ⟨A7, c7, rfl, h71, h72⟩ := h7
  obtain ⟨A8, c8, rfl, h81, h82⟩ := h8
  exact ⟨A5, c5, A6, c6, A7, c7, A8, c8, rfl, .of h52 h51, .of h62 h61, .of h72 h71, .of h82 h81⟩
theorem GI.mk {w : World} {h : Fh} {v5 v6 v7 v8 : Value} (h5 : SI kSp w v5 h.f5) (h6 : SI kSp w v6 h.f6) (h7 : SI (Kd.int .u64) w v7 h.f7) (h8 : SI (Kd.int .u64) w v8 h.f8) :
    GI w (.agg #[.int .i64 h.f0, .int .u64 h.f1, .int .u64 h.f2, .int .u64 h.f3, .int .u64 h.f4, v5, v6, v7, v8]) h := ⟨v5, v6, v7, v8, rfl, h5, h6, h7, h8⟩
def emptyF : Fh := ⟨0, 0, 0, 0, 0, [], [], [], []⟩
def GF (base : Nat) (w : World) (v : Value) (h : Fh) : Prop :=
  ∃ v5 v6 v7 v8, v = .agg #[.int .i64 h.f0, .int .u64 h.f1, .int .u64 h.f2, .int .u64 h.f3, .int .u64 h.f4, v5, v6, v7, v8] ∧ FI kSp base w v5 h.f5 ∧ FI kSp base w v6 h.f6 ∧ FI (Kd.int .u64) base w v7 h.f7 ∧ FI (Kd.int .u64) base w v8 h.f8
theorem GF.now {base : Nat} {w : World} {v : Value} {h : Fh} (x : GF base w v h) : GI w v h := by
  obtain ⟨v5, v6, v7, v8, e, h5, h6, h7, h8⟩ := x
  exact ⟨v5, v6, v7, v8, e, h5.now, h6.now, h7.now, h8.now⟩
theorem GF.step {base : Nat} {w w' : World} {v : Value} {h : Fh} (x : GF base w v h) (k : KA base w w') : GF base w' v h := by
  obtain ⟨v5, v6, v7, v8, e, h5, h6, h7, h8⟩ := x
  exact ⟨v5, v6, v7, v8, e, h5.step k, h6.step k, h7.step k, h8.step k⟩
theorem GF.lower {base b : Nat} {w : World} {v : Value} {h : Fh} (x : GF b w v h) (hb : base ≤ b) : GF base w v h := by
  obtain ⟨v5, v6, v7, v8, e, h5, h6, h7, h8⟩ := x
  exact ⟨v5, v6, v7, v8, e, h5.lower hb, h6.lower hb, h7.lower hb, h8.lower hb⟩
theorem GF.mk {base : Nat} {w : World} {h : Fh} {v5 v6 v7 v8 : Value} (h5 : FI kSp base w v5 h.f5) (h6 : FI kSp base w v6 h.f6) (h7 : FI (Kd.int .u64) base w v7 h.f7) (h8 : FI (Kd.int .u64) base w v8 h.f8) :
    GF base w (.agg #[.int .i64 h.f0, .int .u64 h.f1, .int .u64 h.f2, .int .u64 h.f3, .int .u64 h.f4, v5, v6, v7, v8]) h := ⟨v5, v6, v7, v8, rfl, h5, h6, h7, h8⟩
theorem GF.empty (base : Nat) (w : World) : GF base w (.agg #[.int .i64 0, .int .u64 0, .int .u64 0, .int .u64 0, .int .u64 0, .slice none 0 0, .slice none 0 0, .slice none 0 0, .slice none 0 0]) emptyF :=
  GF.mk (h := emptyF) (fun w _ => SI.nil _ w) (fun w _ => SI.nil _ w) (fun w _ => SI.nil _ w) (fun w _ => SI.nil _ w)
theorem GF.open_ {base : Nat} {w : World} {v : Value} {h : Fh} (x : GF base w v h) : ∃ A5 c5 A6 c6 A7 c7 A8 c8, v = .agg #[.int .i64 h.f0, .int .u64 h.f1, .int .u64 h.f2, .int .u64 h.f3, .int .u64 h.f4, .slice A5 h.f5.length c5, .slice A6 h.f6.length c6, .slice A7 h.f7.length c7, .slice A8 h.f8.length c8] := by
  obtain ⟨A5, c5, A6, c6, A7, c7, A8, c8, e, -⟩ := x.now.open_
  exact ⟨A5, c5, A6, c6, A7, c7, A8, c8, e⟩
def wfF (h : Fh) : Prop := i64 h.f0 ∧ u64 h.f1 ∧ u64 h.f2 ∧ u64 h.f3 ∧ u64 h.f4 ∧ wfSps h.f5 ∧ wfSps h.f6 ∧ u64s h.f7 ∧ u64s h.f8 ∧ h.f7.length < 4398046511104 ∧ h.f8.length < 4398046511104
def openF (h : Fh) : List Pu × List Pu × Int :=
  if h.f0 < -4 ∨ h.f0 > 8 then ([], [], 21) else if rightF h.f1 = false then ([], [], 11) else if (!rightF h.f2 || !rightF h.f3) = true then ([], [], 22)
  else if (sideF h.f5 h.f7).2 ≠ 0 then ([], [], (sideF h.f5 h.f7).2) else if (sideF h.f6 h.f8).2 ≠ 0 then ([], [], (sideF h.f6 h.f8).2)
  else ((sideF h.f5 h.f7).1, (sideF h.f6 h.f8).1, 0)
def checkF (h : Fh) : Int := (openF h).2.2
set_option maxHeartbeats 16000000 in
set_option maxRecDepth 100000 in
theorem fopen_f (h : Fh) (hw : wfF h) (w : World) (v : Value) (hv : GI w v h) : Calls Try.prog 159 #[v] w fun e w' =>
    ∃ v0 v1 : Value, e = .returned (.tuple #[v0, v1, .int .i64 (openF h).2.2]) ∧ FI kPu w.heap.size w' v0 (openF h).1 ∧ FI kPu w.heap.size w' v1 (openF h).2.1 ∧ Below w.heap.size w w' := by
  have hud := Try.underlying79
  have th := thresh_c h.f1
  have wz := wrong_c h.f2
  have wc := wrong_c h.f3
  have s5 := fside_c h.f5 h.f7 hw.2.2.2.2.2.1 hw.2.2.2.2.2.2.2.2.2.1
  have s6 := fside_c h.f6 h.f8 hw.2.2.2.2.2.2.1 hw.2.2.2.2.2.2.2.2.2.2
  obtain ⟨A5, c5, A6, c6, A7, c7, A8, c8, e, h5, h6, h7, h8⟩ := hv.open_
  subst e
  have B := Aside0.mk (below_alloc (Below.refl w.heap.size w) (.cells #[.int .i64 h.f0, .int .u64 h.f1, .int .u64 h.f2, .int .u64 h.f3, .int .u64 h.f4, .slice A5 h.f5.length c5, .slice A6 h.f6.length c6, .slice A7 h.f7.length c7, .slice A8 h.f8.length c8] 79))
  have X := Aside0.mk (Blk.new w #[.int .i64 h.f0, .int .u64 h.f1, .int .u64 h.f2, .int .u64 h.f3, .int .u64 h.f4, .slice A5 h.f5.length c5, .slice A6 h.f6.length c6, .slice A7 h.f7.length c7, .slice A8 h.f8.length c8] 79)
  have hx := fun i => X.out.cell i
  have H5 := Aside0.mk (h5.below B.out)
  have H6 := Aside0.mk (h6.below B.out)
  have H7 := Aside0.mk (h7.below B.out)
  have H8 := Aside0.mk (h8.below B.out)
  clear hv h5 h6 h7 h8
  unfold openF
  generalize rightF h.f1 = r1 at *
  generalize rightF h.f2 = r2 at *
  generalize rightF h.f3 = r3 at *
  generalize sideF h.f5 h.f7 = q5 at *
  generalize sideF h.f6 h.f8 = q6 at *
  obtain ⟨p, e5⟩ := q5
  obtain ⟨n, e6⟩ := q6
  simp only at s5 s6 ⊢
  have TH := Aside0.mk th
  have WZ := Aside0.mk wz
  have WC := Aside0.mk wc
  have S5 := Aside0.mk s5
  have S6 := Aside0.mk s6
  clear th wz wc s5 s6 hw
  by_cases k1 : h.f0 < -4
  · rw [if_pos (Or.inl k1)]
    have k1b : decide (h.f0 < -4) = true := decide_eq_true k1
    clear k1
    go_enter Try.func159, Try.ntmps159
    go_wp2
    go_ret3
    exact ⟨_, _, rfl, fun w _ => SI.nil _ w, fun w _ => SI.nil _ w, B.out⟩
  by_cases k2 : h.f0 > 8
  · rw [if_pos (Or.inr k2)]
    have k1b : decide (h.f0 < -4) = false := decide_eq_false k1
    have k2b : decide (8 < h.f0) = true := decide_eq_true k2
    clear k1 k2
    go_enter Try.func159, Try.ntmps159
    go_wp2
    go_ret3
    exact ⟨_, _, rfl, fun w _ => SI.nil _ w, fun w _ => SI.nil _ w, B.out⟩
  rw [if_neg (by omega)]
  have k1b : decide (h.f0 < -4) = false := decide_eq_false k1
  have k2b : decide (8 < h.f0) = false := decide_eq_false k2
  clear k1 k2
  cases r1 with
  | false =>
    rw [if_pos rfl]
    go_enter Try.func159, Try.ntmps159
    go_wp2_with (first | (go_at_call 74; (with_reducible refine (TH.out _).mono ?_); rintro e W1 ⟨rfl, hb⟩; replace B := Aside0.mk (below_then B.out B.out.size hb); replace H5 := Aside0.mk (H5.out.below hb); replace H6 := Aside0.mk (H6.out.below hb); replace H7 := Aside0.mk (H7.out.below hb); replace H8 := Aside0.mk (H8.out.below hb); replace X := Aside0.mk (X.out.below hb); replace hx := fun i => X.out.cell i; clear  hb))
    go_ret3
    exact ⟨_, _, rfl, fun w _ => SI.nil _ w, fun w _ => SI.nil _ w, B.out⟩
  | true =>
    rw [if_neg (by simp)]
    cases r2 with
    | false =>
      rw [if_pos (by simp)]
      go_enter Try.func159, Try.ntmps159
      go_wp2_with (first | (go_at_call 74; (with_reducible refine (TH.out _).mono ?_); rintro e W1 ⟨rfl, hb⟩; replace B := Aside0.mk (below_then B.out B.out.size hb); replace H5 := Aside0.mk (H5.out.below hb); replace H6 := Aside0.mk (H6.out.below hb); replace H7 := Aside0.mk (H7.out.below hb); replace H8 := Aside0.mk (H8.out.below hb); replace X := Aside0.mk (X.out.below hb); replace hx := fun i => X.out.cell i; clear  hb) | (go_at_call 181; (with_reducible refine (WZ.out _).mono ?_); rintro e W2 ⟨rfl, hb⟩; replace B := Aside0.mk (below_then B.out B.out.size hb); replace H5 := Aside0.mk (H5.out.below hb); replace H6 := Aside0.mk (H6.out.below hb); replace H7 := Aside0.mk (H7.out.below hb); replace H8 := Aside0.mk (H8.out.below hb); replace X := Aside0.mk (X.out.below hb); replace hx := fun i => X.out.cell i; clear  hb))
      go_ret3
      exact ⟨_, _, rfl, fun w _ => SI.nil _ w, fun w _ => SI.nil _ w, B.out⟩
    | true =>
      cases r3 with
      | false =>
        rw [if_pos (by simp)]
        go_enter Try.func159, Try.ntmps159
        go_wp2_with (first | (go_at_call 74; (with_reducible refine (TH.out _).mono ?_); rintro e W1 ⟨rfl, hb⟩; replace B := Aside0.mk (below_then B.out B.out.size hb); replace H5 := Aside0.mk (H5.out.below hb); replace H6 := Aside0.mk (H6.out.below hb); replace H7 := Aside0.mk (H7.out.below hb); replace H8 := Aside0.mk (H8.out.below hb); replace X := Aside0.mk (X.out.below hb); replace hx := fun i => X.out.cell i; clear  hb) | (go_at_call 181; (with_reducible refine (WZ.out _).mono ?_); rintro e W2 ⟨rfl, hb⟩; replace B := Aside0.mk (below_then B.out B.out.size hb); replace H5 := Aside0.mk (H5.out.below hb); replace H6 := Aside0.mk (H6.out.below hb); replace H7 := Aside0.mk (H7.out.below hb); replace H8 := Aside0.mk (H8.out.below hb); replace X := Aside0.mk (X.out.below hb); replace hx := fun i => X.out.cell i; clear  hb) | (go_at_call 181; (with_reducible refine (WC.out _).mono ?_); rintro e W3 ⟨rfl, hb⟩; replace B := Aside0.mk (below_then B.out B.out.size hb); replace H5 := Aside0.mk (H5.out.below hb); replace H6 := Aside0.mk (H6.out.below hb); replace H7 := Aside0.mk (H7.out.below hb); replace H8 := Aside0.mk (H8.out.below hb); replace X := Aside0.mk (X.out.below hb); replace hx := fun i => X.out.cell i; clear  hb))
        go_ret3
        exact ⟨_, _, rfl, fun w _ => SI.nil _ w, fun w _ => SI.nil _ w, B.out⟩
      | true =>
        rw [if_neg (by simp)]
        by_cases d5 : e5 = 0
        rotate_left
        · rw [if_pos d5]
          have d5a : (e5 == 0) = false := beq_eq_false_iff_ne.2 d5
          have d5b : (e5 != 0) = true := bne_iff_ne.2 d5
          clear d5
          go_enter Try.func159, Try.ntmps159
          go_wp2_with (first | (go_at_call 74; (with_reducible refine (TH.out _).mono ?_); rintro e W1 ⟨rfl, hb⟩; replace B := Aside0.mk (below_then B.out B.out.size hb); replace H5 := Aside0.mk (H5.out.below hb); replace H6 := Aside0.mk (H6.out.below hb); replace H7 := Aside0.mk (H7.out.below hb); replace H8 := Aside0.mk (H8.out.below hb); replace X := Aside0.mk (X.out.below hb); replace hx := fun i => X.out.cell i; clear  hb) | (go_at_call 181; (with_reducible refine (WZ.out _).mono ?_); rintro e W2 ⟨rfl, hb⟩; replace B := Aside0.mk (below_then B.out B.out.size hb); replace H5 := Aside0.mk (H5.out.below hb); replace H6 := Aside0.mk (H6.out.below hb); replace H7 := Aside0.mk (H7.out.below hb); replace H8 := Aside0.mk (H8.out.below hb); replace X := Aside0.mk (X.out.below hb); replace hx := fun i => X.out.cell i; clear  hb) | (go_at_call 181; (with_reducible refine (WC.out _).mono ?_); rintro e W3 ⟨rfl, hb⟩; replace B := Aside0.mk (below_then B.out B.out.size hb); replace H5 := Aside0.mk (H5.out.below hb); replace H6 := Aside0.mk (H6.out.below hb); replace H7 := Aside0.mk (H7.out.below hb); replace H8 := Aside0.mk (H8.out.below hb); replace X := Aside0.mk (X.out.below hb); replace hx := fun i => X.out.cell i; clear  hb) | (go_at_call 182; (with_reducible refine (S5.out _ _ _ H5.out H7.out).mono ?_); rintro e W4 ⟨v5, rfl, hp, hb⟩; have hp := FI.lower hp B.out.size; replace B := Aside0.mk (below_then B.out B.out.size hb); replace H5 := Aside0.mk (H5.out.below hb); replace H6 := Aside0.mk (H6.out.below hb); replace H7 := Aside0.mk (H7.out.below hb); replace H8 := Aside0.mk (H8.out.below hb); replace X := Aside0.mk (X.out.below hb); replace hx := fun i => X.out.cell i; have P5 := Aside0.mk hp; have Q5 := Aside0.mk (show W4.heap.size = W4.heap.size from rfl); have hp' := P5.out; obtain ⟨pA, pc, ep⟩ := hp'.slice; subst ep; clear hp hb))
          go_ret3
          exact ⟨_, _, rfl, fun w _ => SI.nil _ w, fun w _ => SI.nil _ w, B.out⟩
        subst d5
        rw [if_neg (by simp)]
        by_cases d6 : e6 = 0
        rotate_left
        · rw [if_pos d6]
          have d6a : (e6 == 0) = false := beq_eq_false_iff_ne.2 d6
          have d6b : (e6 != 0) = true := bne_iff_ne.2 d6
          clear d6
          go_enter Try.func159, Try.ntmps159
          go_wp2_with (first | (go_at_call 74; (with_reducible refine (TH.out _).mono ?_); rintro e W1 ⟨rfl, hb⟩; replace B := Aside0.mk (below_then B.out B.out.size hb); replace H5 := Aside0.mk (H5.out.below hb); replace H6 := Aside0.mk (H6.out.below hb); replace H7 := Aside0.mk (H7.out.below hb); replace H8 := Aside0.mk (H8.out.below hb); replace X := Aside0.mk (X.out.below hb); replace hx := fun i => X.out.cell i; clear  hb) | (go_at_call 181; (with_reducible refine (WZ.out _).mono ?_); rintro e W2 ⟨rfl, hb⟩; replace B := Aside0.mk (below_then B.out B.out.size hb); replace H5 := Aside0.mk (H5.out.below hb); replace H6 := Aside0.mk (H6.out.below hb); replace H7 := Aside0.mk (H7.out.below hb); replace H8 := Aside0.mk (H8.out.below hb); replace X := Aside0.mk (X.out.below hb); replace hx := fun i => X.out.cell i; clear  hb) | (go_at_call 181; (with_reducible refine (WC.out _).mono ?_); rintro e W3 ⟨rfl, hb⟩; replace B := Aside0.mk (below_then B.out B.out.size hb); replace H5 := Aside0.mk (H5.out.below hb); replace H6 := Aside0.mk (H6.out.below hb); replace H7 := Aside0.mk (H7.out.below hb); replace H8 := Aside0.mk (H8.out.below hb); replace X := Aside0.mk (X.out.below hb); replace hx := fun i => X.out.cell i; clear  hb) | (go_at_call 182; (with_reducible refine (S5.out _ _ _ H5.out H7.out).mono ?_); rintro e W4 ⟨v5, rfl, hp, hb⟩; have hp := FI.lower hp B.out.size; replace B := Aside0.mk (below_then B.out B.out.size hb); replace H5 := Aside0.mk (H5.out.below hb); replace H6 := Aside0.mk (H6.out.below hb); replace H7 := Aside0.mk (H7.out.below hb); replace H8 := Aside0.mk (H8.out.below hb); replace X := Aside0.mk (X.out.below hb); replace hx := fun i => X.out.cell i; have P5 := Aside0.mk hp; have Q5 := Aside0.mk (show W4.heap.size = W4.heap.size from rfl); have hp' := P5.out; obtain ⟨pA, pc, ep⟩ := hp'.slice; subst ep; clear hp hb) | (go_at_call 182; (with_reducible refine (S6.out _ _ _ H6.out H8.out).mono ?_); rintro e W5 ⟨v6, rfl, hp, hb⟩; have hp := FI.lower hp B.out.size; replace B := Aside0.mk (below_then B.out B.out.size hb); replace H5 := Aside0.mk (H5.out.below hb); replace H6 := Aside0.mk (H6.out.below hb); replace H7 := Aside0.mk (H7.out.below hb); replace H8 := Aside0.mk (H8.out.below hb); replace P5 := Aside0.mk (P5.out.step (KA.below hb)); replace X := Aside0.mk (X.out.below hb); replace hx := fun i => X.out.cell i; have P6 := Aside0.mk hp; have hp' := P6.out; obtain ⟨nA, nc, en⟩ := hp'.slice; subst en; clear hp hb))
          go_ret3
          exact ⟨_, _, rfl, fun w _ => SI.nil _ w, fun w _ => SI.nil _ w, B.out⟩
        subst d6
        rw [if_neg (by simp)]
        go_enter Try.func159, Try.ntmps159
        go_wp2_with (first | (go_at_call 74; (with_reducible refine (TH.out _).mono ?_); rintro e W1 ⟨rfl, hb⟩; replace B := Aside0.mk (below_then B.out B.out.size hb); replace H5 := Aside0.mk (H5.out.below hb); replace H6 := Aside0.mk (H6.out.below hb); replace H7 := Aside0.mk (H7.out.below hb); replace H8 := Aside0.mk (H8.out.below hb); replace X := Aside0.mk (X.out.below hb); replace hx := fun i => X.out.cell i; clear  hb) | (go_at_call 181; (with_reducible refine (WZ.out _).mono ?_); rintro e W2 ⟨rfl, hb⟩; replace B := Aside0.mk (below_then B.out B.out.size hb); replace H5 := Aside0.mk (H5.out.below hb); replace H6 := Aside0.mk (H6.out.below hb); replace H7 := Aside0.mk (H7.out.below hb); replace H8 := Aside0.mk (H8.out.below hb); replace X := Aside0.mk (X.out.below hb); replace hx := fun i => X.out.cell i; clear  hb) | (go_at_call 181; (with_reducible refine (WC.out _).mono ?_); rintro e W3 ⟨rfl, hb⟩; replace B := Aside0.mk (below_then B.out B.out.size hb); replace H5 := Aside0.mk (H5.out.below hb); replace H6 := Aside0.mk (H6.out.below hb); replace H7 := Aside0.mk (H7.out.below hb); replace H8 := Aside0.mk (H8.out.below hb); replace X := Aside0.mk (X.out.below hb); replace hx := fun i => X.out.cell i; clear  hb) | (go_at_call 182; (with_reducible refine (S5.out _ _ _ H5.out H7.out).mono ?_); rintro e W4 ⟨v5, rfl, hp, hb⟩; have hp := FI.lower hp B.out.size; replace B := Aside0.mk (below_then B.out B.out.size hb); replace H5 := Aside0.mk (H5.out.below hb); replace H6 := Aside0.mk (H6.out.below hb); replace H7 := Aside0.mk (H7.out.below hb); replace H8 := Aside0.mk (H8.out.below hb); replace X := Aside0.mk (X.out.below hb); replace hx := fun i => X.out.cell i; have P5 := Aside0.mk hp; have Q5 := Aside0.mk (show W4.heap.size = W4.heap.size from rfl); have hp' := P5.out; obtain ⟨pA, pc, ep⟩ := hp'.slice; subst ep; clear hp hb) | (go_at_call 182; (with_reducible refine (S6.out _ _ _ H6.out H8.out).mono ?_); rintro e W5 ⟨v6, rfl, hp, hb⟩; have hp := FI.lower hp B.out.size; replace B := Aside0.mk (below_then B.out B.out.size hb); replace H5 := Aside0.mk (H5.out.below hb); replace H6 := Aside0.mk (H6.out.below hb); replace H7 := Aside0.mk (H7.out.below hb); replace H8 := Aside0.mk (H8.out.below hb); replace P5 := Aside0.mk (P5.out.step (KA.below hb)); replace X := Aside0.mk (X.out.below hb); replace hx := fun i => X.out.cell i; have P6 := Aside0.mk hp; have hp' := P6.out; obtain ⟨nA, nc, en⟩ := hp'.slice; subst en; clear hp hb))
        go_ret3
        exact ⟨_, _, rfl, P5.out, P6.out, B.out⟩
theorem fopen_c (h : Fh) (hw : wfF h) (w : World) (v : Value) (hv : GI w v h) : Calls Try.prog 159 #[v] w fun e w' =>
    ∃ v0 v1 : Value, e = .returned (.tuple #[v0, v1, .int .i64 (openF h).2.2]) ∧ SI kPu w' v0 (openF h).1 ∧ SI kPu w' v1 (openF h).2.1 ∧ Below w.heap.size w w' :=
  (fopen_f h hw w v hv).mono fun e w1 ⟨v0, v1, e1, h0, h1, hb⟩ => ⟨v0, v1, e1, h0.now, h1.now, hb⟩
set_option maxHeartbeats 4000000 in
set_option maxRecDepth 100000 in
theorem fcheck_c (h : Fh) (hw : wfF h) (w : World) (v : Value) (hv : GI w v h) : Calls Try.prog 96 #[v] w fun e w' =>
    e = .returned (.int .i64 (checkF h)) ∧ Below w.heap.size w w' := by
  have hu := Try.underlying79
  obtain ⟨A5, c5, A6, c6, A7, c7, A8, c8, e, -⟩ := hv.open_
  subst e
  have HV := Aside0.mk hv
  have HW := Aside0.mk hw
  clear hv hw
  go_enter Try.func96, Try.ntmps96
  go_wp2_with (go_at_call 159; (with_reducible refine (fopen_c h HW.out _ _ (HV.out.below (below_alloc (Below.refl _ _) _))).mono ?_); rintro e w1 ⟨v0, v1, rfl, h0, h1, hb⟩; have HB := Aside0.mk (below_then (below_alloc (Below.refl w.heap.size w) _) (by simp) hb); clear h0 h1 hb)
  go_ret
  exact ⟨rfl, HB.out⟩
def pairsF (h : Fh) (side : Int) : List Pu × Int := if side = 0 then ((openF h).1, (openF h).2.2) else if side = 1 then ((openF h).2.1, (openF h).2.2) else ([], 11)
set_option maxHeartbeats 4000000 in
set_option maxRecDepth 100000 in
theorem fpairs_c (h : Fh) (hw : wfF h) (side : Int) (w : World) (v : Value) (hv : GI w v h) : Calls Try.prog 100 #[v, .int .i64 side] w fun e w' =>
    ∃ v0, e = .returned (.tuple #[v0, .int .i64 (pairsF h side).2]) ∧ SI kPu w' v0 (pairsF h side).1 ∧ Below w.heap.size w w' := by
  have hu := Try.underlying79
  obtain ⟨A5, c5, A6, c6, A7, c7, A8, c8, e, -⟩ := hv.open_
  subst e
  have HV := Aside0.mk hv
  have HW := Aside0.mk hw
  clear hv hw
  unfold pairsF
  by_cases c0 : side = 0
  · subst c0
    rw [if_pos rfl]
    go_enter Try.func100, Try.ntmps100
    go_wp2_with (go_at_call 159; (with_reducible refine (fopen_c h HW.out _ _ (HV.out.below (below_alloc (Below.refl _ _) _))).mono ?_); rintro e w1 ⟨v0, v1, rfl, h0, h1, hb⟩; have HO := Aside0.mk h0; have HB := Aside0.mk (below_then (below_alloc (Below.refl w.heap.size w) _) (by simp) hb); clear h0 h1 hb)
    go_ret2
    exact ⟨_, rfl, HO.out, HB.out⟩
  · rw [if_neg c0]
    have c0a : (side == 0) = false := beq_eq_false_iff_ne.2 c0
    have c0b : (side != 0) = true := bne_iff_ne.2 c0
    by_cases c1 : side = 1
    · subst c1
      rw [if_pos rfl]
      clear c0
      go_enter Try.func100, Try.ntmps100
      go_wp2_with (go_at_call 159; (with_reducible refine (fopen_c h HW.out _ _ (HV.out.below (below_alloc (Below.refl _ _) _))).mono ?_); rintro e w1 ⟨v0, v1, rfl, h0, h1, hb⟩; have HO := Aside0.mk h1; have HB := Aside0.mk (below_then (below_alloc (Below.refl w.heap.size w) _) (by simp) hb); clear h0 h1 hb)
      go_ret2
      exact ⟨_, rfl, HO.out, HB.out⟩
    · rw [if_neg c1]
      have c1a : (side == 1) = false := beq_eq_false_iff_ne.2 c1
      have c1b : (side != 1) = true := bne_iff_ne.2 c1
      clear c0 c1
      go_enter Try.func100, Try.ntmps100
      go_wp2_with (go_at_call 159; (with_reducible refine (fopen_c h HW.out _ _ (HV.out.below (below_alloc (Below.refl _ _) _))).mono ?_); rintro e w1 ⟨v0, v1, rfl, h0, h1, hb⟩; have HO := Aside0.mk h1; have HB := Aside0.mk (below_then (below_alloc (Below.refl w.heap.size w) _) (by simp) hb); clear h0 h1 hb)
      go_ret2
      exact ⟨_, rfl, SI.nil _ _, HB.out⟩
end Go.Proofs.Ytacgeafjilipdaa.P
namespace Go.Proofs.Ytacgeafjilipdaa.P
open Go.RowKit Go.Shelf Go.Proofs.YtacgeafjilipdaaW.PrintWords Go.Proofs.YtacgeafjilipdaaW.PrintLast Go.Proofs.YtacgeafjilipdaaW.PrintMore
set_option linter.unusedVariables false
set_option linter.unusedSimpArgs false
def PredP_uint64 (g : Nat) (cap : Array Value) (p : S123 → Bool) (w : World) : Prop :=
  ∀ (W : World) (x : S123), Below w.heap.size w W → Calls Try.prog g (#[.agg #[.int .i64 x.f0, .int .u64 x.f1]] ++ cap) W fun e w' => e = .returned (.bool (p x)) ∧ Below W.heap.size W w'
theorem rd_nat_uint64 (l : List S123) (i : Nat) (h : i < l.length) : rd_T123 l (i : Int) = l[i] := by
  unfold rd_T123; simp [List.getD, h]
set_option maxHeartbeats 2000000 in
theorem indexFunc_pairs_uint64 (g : Nat) (cap : Array Value) (p : S123 → Bool) (A : Option Addr) (c : Nat) (l : List S123) (w : World)
    (hr : Kd.C k123 w A l.length l) (hc : l.length ≤ c) (hm : l.length ≤ 9223372036854775807) (hp : PredP_uint64 g cap p w) (eg : ∀ args w, (callFunc g args).run Try.prog w = .ok (.enter g args) w) :
    Calls Try.prog 196 #[.slice A l.length c, .func (.func g) #[] cap] w fun e w' => e = .returned (.int .i64 (idxP p l)) ∧ Below w.heap.size w w' := by
  have hu := Try.underlying123
  have HR := Aside0.mk hr
  have HP := Aside0.mk hp
  clear hr hp
  go_enter Try.func196, Try.ntmps196
  go_wp2
  go_loopg [5, 8] l.length (fun gg _ s8 wr => ∃ kk : Nat, kk ≤ l.length ∧ l.length - kk ≤ gg ∧ s8 = .int .i64 kk ∧ Aside0 (Below w.heap.size w wr) ∧ Aside0 (∀ j (hj : j < kk) (hj2 : j < l.length), p l[j] = false))
  case atStart => exact ⟨0, Nat.zero_le _, by omega, rfl, ⟨Below.refl _ w⟩, ⟨fun j hj => absurd hj (Nat.not_lt_zero _)⟩⟩
  case round =>
    obtain ⟨kk, hkk, hg, rfl, HB, HA⟩ := hrel
    by_cases hlt : kk < l.length
    · have hlti : (kk : Int) < (l.length : Int) := by omega
      obtain ⟨ad, e1, hx0, hx1⟩ := at_T123 HR.out kk (by omega) (by omega)
      cases e1
      replace hx0 := (HB.out.cell (World.block_lt_of_cell? w _ hx0)).trans hx0
      replace hx1 := (HB.out.cell (World.block_lt_of_cell? w _ hx1)).trans hx1
      rw [rd_nat_uint64 l kk hlt, Int.toNat_natCast] at hx0 hx1
      have hcall := HP.out wr l[kk] HB.out
      generalize hy : l[kk] = y at hx0 hx1 hcall
      have HY := Aside0.mk hy
      clear hy
      cases hq : p y with
      | true =>
        rw [hq] at hcall
        have HQ := Aside0.mk hq
        clear hq
        have HC := Aside0.mk hcall
        clear hcall
        go_wp2_with (go_at_fn g; refine HC.out.mono ?_; rintro e w' ⟨rfl, hb'⟩)
        go_ret
        refine ⟨?_, HB.out.trans (hb'.mono HB.out.size)⟩
        rw [idxP_hit p l kk hlt (by rw [HY.out]; exact HQ.out) (fun j hj => HA.out j hj (by omega))]; rfl
      | false =>
        rw [hq] at hcall
        have HQ := Aside0.mk hq
        clear hq
        have HC := Aside0.mk hcall
        clear hcall
        go_wp2_with (go_at_fn g; refine HC.out.mono ?_; rintro e w' ⟨rfl, hb'⟩)
        go_roundg (l.length - (kk + 1))
        case measure => omega
        case rel =>
          refine ⟨kk + 1, by omega, by omega, by go_num, ⟨HB.out.trans (hb'.mono HB.out.size)⟩, ⟨fun j hj hj2 => ?_⟩⟩
          by_cases e : j = kk
          · subst e
            rw [HY.out]; exact HQ.out
          · exact HA.out j (by omega) hj2
    · have hlti : ¬ (kk : Int) < (l.length : Int) := by omega
      have hk : kk = l.length := by omega
      go_wp2
      go_ret
      refine ⟨?_, HB.out⟩
      rw [idxP_miss p l (fun j hj => HA.out j (by omega) hj)]; rfl
end Go.Proofs.Ytacgeafjilipdaa.P
namespace Go.Proofs.Ytacgeafjilipdaa.P
open Go.RowKit Go.Shelf Go.Proofs.YtacgeafjilipdaaW.PrintWords Go.Proofs.YtacgeafjilipdaaW.PrintLast Go.Proofs.YtacgeafjilipdaaW.PrintMore
set_option linter.unusedVariables false
set_option linter.unusedSimpArgs false
def slices_Clone_pairU.f (l0 : List S123) : Option (List S123) := if l0.length < 8796093022208 then some l0 else none
set_option maxHeartbeats 2000000 in
set_option maxRecDepth 100000 in
theorem slices_Clone_pairU.calls (A0 : Option Addr) (c0 : Nat) (l0 r : List S123) (w : World) (hr0 : Kd.C k123 w A0 l0.length l0) (hc0 : l0.length ≤ c0) (h : slices_Clone_pairU.f l0 = some r) :
    Calls Try.prog 185 #[.slice A0 l0.length c0] w fun e w' => ∃ v0_ : Value, e = .returned (v0_) ∧ Kd.R k123 123 w' w.heap.size (fun _ => True) v0_ r ∧ Below w.heap.size w w' := by
  obtain ⟨hm, h2⟩ := of_ite_some h
  subst h2
  clear h
  have hu := Try.underlying119
  have HM := Aside0.mk hm
  clear hm
  cases A0 with
  | none =>
    have hl : l0 = [] := by
      rcases Nat.eq_zero_or_pos l0.length with h | h
      · exact List.length_eq_zero_iff.1 h
      · obtain ⟨ad, e, _⟩ := hr0.2.2 h
        cases e
    subst hl
    have hn : ∀ W n c, (binOp .eql 119 (.slice none n c) (.slice none 0 0)).run Try.prog W = .ok (.bool true) W := fun W n c => by
      exact Lib.run_eql_slice_nil W _ _ none n c 0 0 Try.underlying119
    go_enter Try.func185, Try.ntmps185
    go_wp2
    go_ret
    exact ⟨_, rfl, Kd.R_nil _ _ _ _ _, Below.refl _ _⟩
  | some ad =>
    have hn : ∀ W n c, (binOp .eql 119 (.slice (some ad) n c) (.slice none 0 0)).run Try.prog W = .ok (.bool false) W := fun W n c => by
      exact Lib.run_eql_slice_nil W _ _ (some ad) n c 0 0 Try.underlying119
    have HR := Aside0.mk hr0
    clear hr0
    go_enter Try.func185, Try.ntmps185
    go_wp2_with ((with_reducible refine gate_builtin (b := .append) (xs := #[.tmp 5, .tmp 6]) rfl ?_); at_builtin; refine Kd.R_append_rows k123 (w0 := w) (Rr := k123.K w) w.heap.size rfl (.tmp 5) (.tmp 6) 119 123 _ 16 rfl Try.underlying119 info123 rfl (by decide) (by omega) (.slice (some ⟨w.heap.size, 0, none⟩) 0 0) [] l0 (some ad) l0.length c0 (fun _ => True) (fun _ => False) rfl rfl ?aO ?aR ?aK (fun _ hk => hk.elim) (fun _ _ => trivial) ?aB ?aS ?aL ?_; (case aO => exact ⟨fun _ _ => trivial, [], ⟨rfl, .inr ⟨w.heap.size, 0, #[], rfl, Nat.le_refl _, by simpa using blk_new w _, Nat.le_refl _, by unfold maxLen; omega, rfl, rfl⟩⟩, Reps.none _ _⟩); (case aR => exact HR.out.imp_ (below_alloc (Below.refl _ _) _) (fun _ _ h => h)); (case aK => intro x cs hx; rw [k123_open hx]; exact k123_mkM _ _ _ x); (case aB => exact below_alloc (Below.refl _ _) _); (case aS => simp); (case aL => have := HM.out; simp; omega); intro v1 w1 ho hb hg hat; rw [List.nil_append] at ho; have HO := Aside0.mk ho; have HB := Aside0.mk hb; clear ho hb hg hat)
    go_ret
    exact ⟨_, rfl, HO.out, HB.out⟩
end Go.Proofs.Ytacgeafjilipdaa.P
namespace Go.Proofs.Ytacgeafjilipdaa.P
open Go.RowKit Go.Shelf Go.Proofs.YtacgeafjilipdaaW.PrintWords Go.Proofs.YtacgeafjilipdaaW.PrintLast Go.Proofs.YtacgeafjilipdaaW.PrintMore
set_option linter.unusedVariables false
set_option linter.unusedSimpArgs false
theorem flat_uint64 : ∀ w w1 base ok x cs, k123.M w base ok x cs → k123.M w1 base ok x cs := fun w w1 base ok x cs h => by
  rw [k123_openM h]; exact k123_mkM _ _ _ x
theorem zero_uint64 (n : Nat) : (Builtin.zeroCells (Value.agg #[.int .i64 0, .int .u64 0]).cells n).toList.length = n * 2 ∧ ∀ v ∈ (Builtin.zeroCells (Value.agg #[.int .i64 0, .int .u64 0]).cells n).toList, v.oneCell' = true := by
  have hc : (Value.agg #[.int .i64 0, .int .u64 0]).cells = #[.int .i64 0, .int .u64 0] := by kernel_rfl
  rw [hc]
  refine ⟨by simp [Builtin.zeroCells], fun v hv => ?_⟩
  simp only [Builtin.zeroCells, Array.toList_map, List.mem_map] at hv
  obtain ⟨i, _, rfl⟩ := hv
  have : i % 2 = 0 ∨ i % 2 = 1 := by omega
  rcases this with h | h <;> simp [h] <;> rfl
set_option maxHeartbeats 4000000 in
set_option maxRecDepth 100000 in
theorem deleteFunc_uint64 (g : Nat) (cap : Array Value) (p : S123 → Bool) (w0 w : World) (v : Value) (xs : List S123)
    (HO : Kd.R k123 123 w w0.heap.size (fun _ => True) v xs) (HB : Below w0.heap.size w0 w) (hp : PredP_uint64 g cap p w0) (eg : ∀ args w, (callFunc g args).run Try.prog w = .ok (.enter g args) w) :
    Calls Try.prog 184 #[v, .func (.func g) #[] cap] w fun e w' => ∃ v' : Value, e = .returned v' ∧ Kd.R k123 123 w' w0.heap.size (fun _ => True) v' (xs.filter (fun x => !p x)) ∧ Below w0.heap.size w0 w' := by
  have hu := Try.underlying123
  obtain ⟨A, c, rfl, hlc, hC⟩ := Kd.R_reads HO
  have hm : xs.length ≤ 9223372036854775807 := hC.2.1
  have HI := indexFunc_pairs_uint64 g cap p A c xs w hC hlc hm (fun W x hb => hp W x (below_then HB HB.size hb)) eg
  have HX := idxP_cases p xs
  have HP := Aside0.mk hp
  clear hp
  generalize idxP p xs = ix at HI HX
  rcases HX with ⟨rfl, hfil⟩ | ⟨i0, hi0, rfl, hhit, hbef⟩
  · rw [hfil]
    have HI := Aside0.mk HI
    have HO := Aside0.mk HO
    have HB := Aside0.mk HB
    clear hC hfil
    go_enter Try.func184, Try.ntmps184
    go_wp2_with (go_at_call 196; refine HI.out.mono ?_; rintro e w' ⟨rfl, hb'⟩)
    go_ret
    exact ⟨_, rfl, Kd.R_below HO.out hb', below_then HB.out HB.out.size hb'⟩
  · obtain ⟨gb, cp, hv, hbg, hgl, cells, hcells⟩ := Kd.R_form HO (by omega)
    injection hv with hA _ hcp
    subst hA; subst hcp
    have hne : (((i0 : Int)) == -1) = false := beq_eq_false_iff_ne.2 (by omega)
    have HS := DelInv.start hi0 hhit hbef
    have HI := Aside0.mk HI
    have HO := Aside0.mk HO
    have HB := Aside0.mk HB
    have HS := Aside0.mk HS
    have HM := Aside0.mk hm
    have hi0' : i0 + 1 ≤ xs.length := hi0
    clear hC hhit hbef hcells
    go_enter Try.func184, Try.ntmps184
    go_wp2_with (go_at_call 196; refine HI.out.mono ?_; rintro e w' ⟨rfl, hb'⟩; have HO1 := Aside0.mk (Kd.R_below HO.out hb'); have HB1 := Aside0.mk (below_then HB.out HB.out.size hb'); clear hb' HI HO HB)
    go_loopg [5, 6] xs.length (fun gg s5 s6 wr => ∃ (i j : Nat) (ys : List S123), s5 = .int .i64 i ∧ s6 = .int .i64 j ∧ j ≤ xs.length ∧ xs.length - j ≤ gg ∧ Aside0 (DelInv p xs i j ys) ∧ Aside0 (Kd.R k123 123 wr w0.heap.size (fun _ => True) (.slice (some ⟨gb, 0, none⟩) xs.length c) ys) ∧ Aside0 (Below w0.heap.size w0 wr))
    case atStart => exact ⟨i0, i0 + 1, xs, rfl, by go_num, by omega, by omega, HS, HO1, HB1⟩
    case round =>
      obtain ⟨i, j, ys, rfl, rfl, hj, hg, HD, HO, HB⟩ := hrel
      clear HS HO1 HB1
      have hlen := HD.out.len
      have hij := HD.out.lt
      by_cases hlt : j < xs.length
      · have hlti : (j : Int) < (xs.length : Int) := by omega
        have hii : (i : Int) < (xs.length : Int) := by omega
        obtain ⟨hj2, hyx⟩ := HD.out.at_ hlt
        have hC := (Kd.R_reads' HO.out).2.2
        obtain ⟨ad, e1, hx0, hx1⟩ := at_T123 hC j (by omega) (by omega)
        cases e1
        rw [rd_nat_uint64 ys j hj2, Int.toNat_natCast, hyx] at hx0 hx1
        rw [add_plain] at hx0 hx1
        dsimp only at hx1
        have hcall := HP.out (wr.alloc (.cells #[.int .i64 xs[j].f0, .int .u64 xs[j].f1] 123)) xs[j] (below_then HB.out HB.out.size (below_alloc (Below.refl _ _) _))
        clear hC
        cases hq : p xs[j] with
        | true =>
          rw [hq] at hcall
          have HD' := Aside0.mk (HD.out.skip hlt hq)
          have HC := Aside0.mk hcall
          clear hcall hq hyx
          generalize xs[j] = y at hx0 hx1 HC
          go_wp2_with (go_at_fn g; refine HC.out.mono ?_; rintro e w' ⟨rfl, hb'⟩; have HB1 := Aside0.mk (below_then (below_then HB.out HB.out.size (below_alloc (Below.refl _ _) _)) (by have := HB.out.size; simp; omega) hb'); have HO1 := Aside0.mk (Kd.R_below (Kd.R_below HO.out (below_alloc (Below.refl _ _) _)) hb'); clear hb' HO HB)
          go_roundg (xs.length - (j + 1))
          case measure => omega
          case rel => exact ⟨i, j + 1, ys, rfl, by go_num, by omega, by omega, HD', HO1, HB1⟩
        | false =>
          rw [hq] at hcall
          have HD' := Aside0.mk (HD.out.keep hlt hq)
          have HC := Aside0.mk hcall
          clear hcall hq hyx
          generalize xs[j] = y at hx0 hx1 HC HD'
          go_wp2_with (first | (go_at_fn g; refine HC.out.mono ?_; rintro e w' ⟨rfl, hb'⟩; have hv0 : w'.cell? ⟨wr.heap.size, 0, none⟩ = some (.int .i64 y.f0) := (hb'.cell (p := ⟨wr.heap.size, 0, none⟩) (by simp)).trans (by simp); have hv1 : w'.cell? ⟨wr.heap.size, 1, none⟩ = some (.int .u64 y.f1) := (hb'.cell (p := ⟨wr.heap.size, 1, none⟩) (by simp)).trans (by simp); have HB1 := Aside0.mk (below_then (below_then HB.out HB.out.size (below_alloc (Below.refl _ _) _)) (by have := HB.out.size; simp; omega) hb'); have HO1 := Aside0.mk (Kd.R_below (Kd.R_below HO.out (below_alloc (Below.refl _ _) _)) hb'); clear hb' HO HB) | ((with_reducible refine gate_ (.store 123 (.tmp 33) (.tmp 32)) rfl ?_); obtain ⟨ce, hcl, hcM, hcc, hcf⟩ := Kd.R_elem HO1.out z123 (i : Int) (by omega) (by omega); refine Kd.R_store k123 (w0 := w0) w0.heap.size rfl rfl 123 (.tmp 33) (.tmp 32) rfl 123 (i : Int) 0 ys y (.agg #[.int .i64 y.f0, .int .u64 y.f1]) [.int .i64 y.f0, .int .u64 y.f1] ce (fun _ => True) (fun _ => False) (by first | rfl | simp) rfl rfl rfl (by kernel_rfl) (by intro q hq; simp at hq; rcases hq with rfl | rfl <;> rfl) HO1.out (by omega) (by omega) hcl hcc (by show 0 + 2 ≤ 2; omega) (by rw [show ce.drop (0 + [Value.int .i64 y.f0, Value.int .u64 y.f1].length) = [] from List.drop_eq_nil_of_le (by rw [hcl]; exact Nat.le_refl 2)]; exact k123_mkM _ _ _ y) (fun _ h => h.elim) HB1.out ?_; intro w1 ho hb hg; rw [Int.toNat_natCast] at ho; have HO2 := Aside0.mk ho; have HB2 := Aside0.mk hb; clear ho hb hg hcl hcM hcc hcf HO1 HB1))
          go_roundg (xs.length - (j + 1))
          case measure => omega
          case rel => exact ⟨i + 1, j + 1, ys.set i y, by go_num, by go_num, by omega, by omega, HD', HO2, HB2⟩
      · have hjx : j = xs.length := by omega
        subst hjx
        have hlti : ¬ (xs.length : Int) < (xs.length : Int) := by omega
        have hii : (i : Int) < (xs.length : Int) := by omega
        obtain ⟨inner, hown⟩ := Kd.R_own HO.out
        obtain ⟨cur, hcur, hcs, hnc⟩ : ∃ cur, wr.heap[gb]? = some (.cells cur 123 (0, 0)) ∧ cur.size = c * 2 ∧ xs.length ≤ c := by
          rcases hown.2 with ⟨hv, _⟩ | ⟨g', cap', cur, hv, hb, hh, hnc, hcm, hcs, ht⟩
          · cases hv
          · injection hv with ha _ hc
            injection ha with ha
            injection ha with hg'
            subst hg'; subst hc
            exact ⟨cur, hh, hcs, by omega⟩
        have hzl := zero_uint64 (xs.length - i)
        have hpc := piece_there hcur (i * 2) (Builtin.zeroCells (Value.agg #[.int .i64 0, .int .u64 0]).cells (xs.length - i)).toList.length (by rw [hzl.1]; omega)
        have hcl : ∀ ty, (Builtin.clear_ #[119] ty #[.slice (some ⟨gb, i * 2, none⟩) (xs.length - i) (c - i)]).run Try.prog wr = .ok (.tuple #[]) (wr.setCells gb (i * 2) (Builtin.zeroCells (Value.agg #[.int .i64 0, .int .u64 0]).cells (xs.length - i)).toList) := fun ty =>
          run_clear_cells wr _ _ ty (Value.agg #[.int .i64 0, .int .u64 0]) Try.underlying119 (fun w => by kernel_rfl) gb (i * 2) _ _ (by omega) hzl.2 hpc.1 hpc.2
        have HF := Aside0.mk HD.out.done
        have HR2 : Aside0 (Kd.R k123 123 (wr.setCells gb (i * 2) (Builtin.zeroCells (Value.agg #[.int .i64 0, .int .u64 0]).cells (xs.length - i)).toList) w0.heap.size (fun _ => True) (.slice (some ⟨gb, 0, none⟩) i c) (ys.take i)) := ⟨R_beyond flat_uint64 (Kd.R_take HO.out (by omega)) _ _ (by show i * 2 ≤ i * 2; omega) (by rw [hzl.1]; show i * 2 + (xs.length - i) * 2 ≤ c * 2; omega)⟩
        have HB2 : Aside0 (Below w0.heap.size w0 (wr.setCells gb (i * 2) (Builtin.zeroCells (Value.agg #[.int .i64 0, .int .u64 0]).cells (xs.length - i)).toList)) := ⟨by
          obtain ⟨h1, h2, h3, h4⟩ := setCells_same gb (Builtin.zeroCells (Value.agg #[.int .i64 0, .int .u64 0]).cells (xs.length - i)).toList (i * 2) wr
          refine HB.out.trans ⟨h1, h2, h3, by rw [h4]; exact Nat.le_refl _, fun k hk => setCells_far _ _ k (by omega)⟩⟩
        have hic : (c = i) = False := by simp; omega
        clear HO HB hpc hzl hcur hcs hown HD
        generalize (Builtin.zeroCells (Value.agg #[.int .i64 0, .int .u64 0]).cells (xs.length - i)).toList = seg at hcl HR2 HB2
        go_wp2
        go_ret
        exact ⟨_, rfl, by rw [← HF.out]; exact HR2.out, HB2.out⟩
set_option maxRecDepth 100000 in
theorem without1_uint64 (W : World) (x : S123) (B : Nat) (pl : Int) (hc : W.cell? ⟨B, 0, none⟩ = some (.int .u64 pl)) :
    Calls Try.prog 186 #[.agg #[.int .i64 x.f0, .int .u64 x.f1], .pointer (some ⟨B, 0, none⟩)] W fun e w' => e = .returned (.bool (x.f1 == pl)) ∧ Below W.heap.size W w' := by
  have hu := Try.underlying123
  have hB : B < W.heap.size := World.block_lt_of_cell? W ⟨B, 0, none⟩ hc
  have hc2 : (W.alloc (.cells #[.int .i64 x.f0, .int .u64 x.f1] 123)).cell? ⟨B, 0, none⟩ = some (.int .u64 pl) := ((below_alloc (Below.refl _ _) _).cell (p := ⟨B, 0, none⟩) hB).trans hc
  go_enter Try.func186, Try.ntmps186
  go_wp2
  go_ret
  exact ⟨rfl, (Below.refl _ _).alloc (Nat.le_refl _) _⟩
def pairs_Without_uint64.f (l0 : List S123) (a1 : Int) : Option (List S123) :=
  if l0.length < 8796093022208 then some (l0.filter (fun x => !(x.f1 == a1))) else none
set_option maxHeartbeats 2000000 in
set_option maxRecDepth 100000 in
theorem pairs_Without_uint64.calls (A0 : Option Addr) (c0 : Nat) (l0 : List S123) (a1 : Int) (r : List S123) (w : World) (hr0 : Kd.C k123 w A0 l0.length l0) (hc0 : l0.length ≤ c0) (h : pairs_Without_uint64.f l0 a1 = some r) :
    Calls Try.prog 162 #[.slice A0 l0.length c0, .int .u64 a1] w fun e w' => ∃ v0_ : Value, e = .returned (v0_) ∧ Kd.R k123 123 w' w.heap.size (fun _ => True) v0_ r ∧ Below w.heap.size w w' := by
  obtain ⟨hm, h2⟩ := of_ite_some h
  subst h2
  clear h
  have HC := Aside0.mk (slices_Clone_pairU.calls A0 c0 l0 l0 (w.alloc (.cells #[.int .u64 a1] 62)) (Kd.C_below hr0 (below_alloc (Below.refl _ _) _)) hc0 (by unfold slices_Clone_pairU.f; rw [if_pos hm]))
  have hp : PredP_uint64 186 #[.pointer (some ⟨w.heap.size, 0, none⟩)] (fun x => x.f1 == a1) (w.alloc (.cells #[.int .u64 a1] 62)) :=
    fun W x hb => without1_uint64 W x w.heap.size a1 ((hb.cell (p := ⟨w.heap.size, 0, none⟩) (by simp)).trans (by simp))
  have HD := Aside0.mk (fun w1 v ho hb => deleteFunc_uint64 186 #[.pointer (some ⟨w.heap.size, 0, none⟩)] (fun x => x.f1 == a1) (w.alloc (.cells #[.int .u64 a1] 62)) w1 v l0 ho hb hp (enters_of Try.func186 (by kernel_rfl) rfl))
  clear hp hm hr0 hc0
  go_enter Try.func162, Try.ntmps162
  go_wp2_with (first | (go_at_call 185; refine HC.out.mono ?_; rintro e w' ⟨v, rfl, ho, hb⟩; have HO := Aside0.mk ho; have HB := Aside0.mk hb; clear ho hb HC) | (go_at_call 184; refine (HD.out _ _ HO.out HB.out).mono ?_; rintro e w' ⟨v', rfl, ho, hb⟩; have HO2 := Aside0.mk ho; have HB2 := Aside0.mk hb; clear ho hb HD))
  go_ret
  refine ⟨_, rfl, Kd.R_lower HO2.out (by simp), below_then (below_alloc (Below.refl _ _) _) (by simp) HB2.out⟩
end Go.Proofs.Ytacgeafjilipdaa.P
namespace Go.Proofs.Ytacgeafjilipdaa.P
open Go.RowKit Go.Shelf Go.Proofs.YtacgeafjilipdaaW.PrintWords Go.Proofs.YtacgeafjilipdaaW.PrintLast Go.Proofs.YtacgeafjilipdaaW.PrintMore
set_option linter.unusedVariables false
set_option linter.unusedSimpArgs false
def some0U (l : List Pu) : List Pu := l.filter (fun x => !(x.f1 == 0))
def wfRowU (l : List Pu) : Prop := wfPus l ∧ l.length < 4398046511104
structure RowOKU (l : List Pu) : Prop where
  wf : wfRowU l
  len : l.length ≤ 4096
  cnt : ∀ p ∈ l, rightF p.f1 = true
  ups : Ups (fun p : Pu => p.f0) l
theorem RowOKU.nil : RowOKU [] := ⟨⟨fun s hs => by simp at hs, by simp⟩, by simp, fun s hs => by simp at hs, Ups.nil⟩
theorem zip_upsU : ∀ (ps v : List Int), ps.Pairwise (· < ·) → Ups (fun p : Pu => p.f0) (List.zipWith (fun p x => (⟨p, x⟩ : Pu)) ps v)
  | [], _, _ => by simp [Ups]
  | p :: ps, [], _ => by simp [Ups]
  | p :: ps, x :: v, h => by
    have h1 := List.pairwise_cons.1 h
    refine List.pairwise_cons.2 ⟨fun y hy => ?_, zip_upsU ps v h1.2⟩
    have : y.f0 ∈ ps := by
      obtain ⟨i, hi, rfl⟩ := List.mem_iff_getElem.1 hy
      simp only [List.getElem_zipWith]; exact List.getElem_mem _
    exact h1.1 _ this
theorem sideF_row {l : List Sp} {c : List Int} (hc : u64s c) : RowOKU (sideF l c).1 := by
  unfold sideF
  by_cases c1 : spCheck l = 0
  rotate_left
  · rw [if_neg c1]; exact RowOKU.nil
  rw [if_pos c1]
  by_cases c2 : cntN l = c.length
  rotate_left
  · rw [if_neg c2]; exact RowOKU.nil
  rw [if_pos c2]
  by_cases c3 : c.any (fun v => !rightF v) = true
  · rw [if_pos c3]; exact RowOKU.nil
  rw [if_neg c3]
  have hr := rises_of_right c1
  have hf : ∀ p ∈ List.zipWith (fun p x => (⟨p, x⟩ : Pu)) (plN 0 l) c, (-1048576 ≤ p.f0 ∧ p.f0 ≤ 1048576) ∧ p.f1 ∈ c := by
    intro y hy
    obtain ⟨i, hi, rfl⟩ := List.mem_iff_getElem.1 hy
    simp only [List.getElem_zipWith]
    exact ⟨rises_i64 hr _ (List.getElem_mem _), List.getElem_mem _⟩
  have hl : (List.zipWith (fun p x => (⟨p, x⟩ : Pu)) (plN 0 l) c).length ≤ 4096 := by have := places_len c1; simp; omega
  simp only
  refine ⟨⟨fun p hp => ?_, by omega⟩, hl, fun p hp => ?_, zip_upsU _ _ (rises_ups _ _ hr).1⟩
  · have h1 := hf p hp; have h2 := h1.1; exact ⟨⟨by omega, by omega⟩, hc _ h1.2⟩
  · have h1 := hf p hp
    cases hq : rightF p.f1 with
    | true => rfl
    | false => exact absurd (List.any_eq_true.2 ⟨_, h1.2, by rw [hq]; rfl⟩) c3
theorem openF_row {h : Fh} (hw : wfF h) : RowOKU (openF h).1 ∧ RowOKU (openF h).2.1 := by
  obtain ⟨-, -, -, -, -, -, -, h7, h8, -⟩ := hw
  have a := sideF_row (l := h.f5) h7
  have b := sideF_row (l := h.f6) h8
  unfold openF
  repeat' split
  all_goals first | exact ⟨a, b⟩ | exact ⟨RowOKU.nil, RowOKU.nil⟩
theorem withoutU_c (l : List Pu) (hl : l.length ≤ 4611686018427) (w : World) (v : Value) (hv : SI kPu w v l) : Calls Try.prog 162 #[v, .int .u64 0] w fun e w' =>
    ∃ v', e = .returned v' ∧ SI kPu w' v' (some0U l) ∧ Below w.heap.size w w' := by
  obtain ⟨A, c, rfl, hc, hr⟩ := hv
  refine (pairs_Without_uint64.calls A c l 0 (some0U l) w hr hc (if_pos (by omega))).mono ?_
  rintro e w1 ⟨v0, rfl, h0, hb⟩
  exact ⟨v0, rfl, .of_R h0, hb⟩
theorem some0U_wf {l : List Pu} (h : wfRowU l) : wfRowU (some0U l) := ⟨fun s hs => h.1 s (List.mem_filter.1 hs).1, Nat.lt_of_le_of_lt (List.length_filter_le _ _) h.2⟩
end Go.Proofs.Ytacgeafjilipdaa.P
namespace Go.Proofs.Ytacgeafjilipdaa.P
open Go.RowKit Go.Shelf Go.Proofs.YtacgeafjilipdaaW.PrintWords Go.Proofs.YtacgeafjilipdaaW.PrintLast Go.Proofs.YtacgeafjilipdaaW.PrintMore
set_option linter.unusedVariables false
set_option linter.unusedSimpArgs false
theorem unzipU_c (l : List Pu) (hw : wfRowU l) (w : World) (v : Value) (hv : SI kPu w v l) : Calls Try.prog 169 #[v] w fun e w' =>
    ∃ v0 v1 : Value, e = .returned (.tuple #[v0, v1, .int .i64 (unzipResU l).2.2]) ∧ FI kSp w.heap.size w' v0 (unzipResU l).1 ∧ FI (Kd.int .u64) w.heap.size w' v1 (unzipResU l).2.1 ∧ Below w.heap.size w w' := by
  obtain ⟨A, c, rfl, hc, hr⟩ := hv
  refine (pairs_Unzip_uint64.calls (3 * l.length + 2) A c l (unzipResU l).1 (unzipResU l).2.1 (unzipResU l).2.2 w hr hc (unzipU_eq l hw.1 hw.2 _ (by omega))).mono ?_
  rintro e w1 ⟨v0, v1, rfl, h0, h1, hb⟩
  exact ⟨v0, v1, rfl, .of_R h0 (Nat.le_refl _), .of_R h1 (Nat.le_refl _), hb⟩
theorem unzipResU_wf {l : List Pu} (hw : wfRowU l) : wfSps (unzipResU l).1 ∧ u64s (unzipResU l).2.1 ∧ (unzipResU l).2.1.length < 4398046511104 := by
  unfold unzipResU
  by_cases h : (fromRes (l.map (·.f0))).2 = 0
  · rw [if_pos h]
    obtain ⟨hr, hl, hl2, he⟩ := fromRes_ok h
    refine ⟨by rw [he]; exact spansOf_wf hr hl, fun x hx => ?_, by simpa using hw.2⟩
    obtain ⟨p, hp, rfl⟩ := List.mem_map.1 hx
    exact (hw.1 p hp).2
  · rw [if_neg h]; exact ⟨fun s hs => by simp at hs, fun s hs => by simp at hs, by simp⟩
def madeF (h : Fh) (p n : List Pu) : Fh := ⟨h.f0, h.f1, h.f2, h.f3, h.f4, (unzipResU p).1, (unzipResU n).1, (unzipResU p).2.1, (unzipResU n).2.1⟩
def makeF (h : Fh) (p n : List Pu) : Fh × Int := if (unzipResU p).2.2 ≠ 0 then (emptyF, (unzipResU p).2.2) else if (unzipResU n).2.2 ≠ 0 then (emptyF, (unzipResU n).2.2) else if checkF (madeF h p n) ≠ 0 then (emptyF, checkF (madeF h p n)) else (madeF h p n, 0)
theorem madeF_wf {h : Fh} {p n : List Pu} (hw : wfF h) (hp : wfRowU p) (hn : wfRowU n) : wfF (madeF h p n) := by
  obtain ⟨a0, a1, a2, a3, a4, -⟩ := hw
  exact ⟨a0, a1, a2, a3, a4, (unzipResU_wf hp).1, (unzipResU_wf hn).1, (unzipResU_wf hp).2.1, (unzipResU_wf hn).2.1, (unzipResU_wf hp).2.2, (unzipResU_wf hn).2.2⟩
set_option maxHeartbeats 8000000 in
set_option maxRecDepth 100000 in
theorem fmake_n (h : Fh) (p n : List Pu) (hw : wfF (madeF h p n)) (hp : wfRowU p) (hn : wfRowU n) (w : World) (v vp vn : Value) (hv : GI w v h) (hvp : SI kPu w vp p) (hvn : SI kPu w vn n) : Calls Try.prog 115 #[v, vp, vn] w fun e w' =>
    ∃ v', e = .returned (.tuple #[v', .int .i64 (makeF h p n).2]) ∧ GF w.heap.size w' v' (makeF h p n).1 ∧ Below w.heap.size w w' := by
  have hu := Try.underlying79
  obtain ⟨A5, c5, A6, c6, A7, c7, A8, c8, e, -⟩ := hv.open_
  subst e
  have HP := Aside0.mk hvp
  have HN := Aside0.mk hvn
  have HW := Aside0.mk hw
  have HC1 := fun w hv => unzipU_c p hp w vp hv
  have HC2 := fun w hv => unzipU_c n hn w vn hv
  clear hv hvp hvn hw hp hn
  unfold makeF madeF at *
  generalize unzipResU p = lp at *
  generalize unzipResU n = ln at *
  obtain ⟨sp, dp, ep⟩ := lp
  obtain ⟨sn, dn, en⟩ := ln
  simp only at HW HC1 HC2 ⊢
  replace HC1 := Aside0.mk HC1
  replace HC2 := Aside0.mk HC2
  by_cases c1 : ep = 0
  rotate_left
  · rw [if_pos c1]
    have c1a : (ep != 0) = true := bne_iff_ne.2 c1
    clear c1
    go_enter Try.func115, Try.ntmps115
    go_wp2_with (first | (go_at_call 169; (with_reducible refine (HC1.out _ (HP.out.below (below_alloc (below_alloc (Below.refl _ _) _) _))).mono ?_); rintro e w1 ⟨v0, v1, rfl, h0, h1, hb⟩; obtain ⟨B0, d0, rfl⟩ := h0.slice; obtain ⟨B1, d1, rfl⟩ := h1.slice; have HF0 := Aside0.mk (show FI kSp (w.heap.size + 1 + 1) w1 (.slice B0 sp.length d0) sp by simpa using h0); have HF1 := Aside0.mk (show FI (Kd.int .u64) (w.heap.size + 1 + 1) w1 (.slice B1 dp.length d1) dp by simpa using h1); have HB1 := Aside0.mk (below_then (below_alloc (below_alloc (Below.refl w.heap.size w) (.cells #[.int .i64 h.f0, .int .u64 h.f1, .int .u64 h.f2, .int .u64 h.f3, .int .u64 h.f4, .slice A5 h.f5.length c5, .slice A6 h.f6.length c6, .slice A7 h.f7.length c7, .slice A8 h.f8.length c8] 79)) (.cells #[.int .i64 0, .int .u64 0, .int .u64 0, .int .u64 0, .int .u64 0, .slice none 0 0, .slice none 0 0, .slice none 0 0, .slice none 0 0] 79)) (by simp; omega) hb); have HX1 := Aside0.mk (blk_below (blk_alloc (blk_new w (.cells #[.int .i64 h.f0, .int .u64 h.f1, .int .u64 h.f2, .int .u64 h.f3, .int .u64 h.f4, .slice A5 h.f5.length c5, .slice A6 h.f6.length c6, .slice A7 h.f7.length c7, .slice A8 h.f8.length c8] 79)) (.cells #[.int .i64 0, .int .u64 0, .int .u64 0, .int .u64 0, .int .u64 0, .slice none 0 0, .slice none 0 0, .slice none 0 0, .slice none 0 0] 79)) hb); have HY1 := Aside0.mk (show w1.heap[w.heap.size + 1]? = some (.cells #[.int .i64 0, .int .u64 0, .int .u64 0, .int .u64 0, .int .u64 0, .slice none 0 0, .slice none 0 0, .slice none 0 0, .slice none 0 0] 79 (0, 0)) from (blk_below (show ((w.alloc (.cells #[.int .i64 h.f0, .int .u64 h.f1, .int .u64 h.f2, .int .u64 h.f3, .int .u64 h.f4, .slice A5 h.f5.length c5, .slice A6 h.f6.length c6, .slice A7 h.f7.length c7, .slice A8 h.f8.length c8] 79)).alloc (.cells #[.int .i64 0, .int .u64 0, .int .u64 0, .int .u64 0, .int .u64 0, .slice none 0 0, .slice none 0 0, .slice none 0 0, .slice none 0 0] 79)).heap[w.heap.size + 1]? = _ by simpa using blk_new (w.alloc (.cells #[.int .i64 h.f0, .int .u64 h.f1, .int .u64 h.f2, .int .u64 h.f3, .int .u64 h.f4, .slice A5 h.f5.length c5, .slice A6 h.f6.length c6, .slice A7 h.f7.length c7, .slice A8 h.f8.length c8] 79)) (.cells #[.int .i64 0, .int .u64 0, .int .u64 0, .int .u64 0, .int .u64 0, .slice none 0 0, .slice none 0 0, .slice none 0 0, .slice none 0 0] 79)) hb)); have hfx := fun i => blk_cell HX1.out i; have hzx := fun i => blk_frozen HX1.out i; have hfy := fun i => blk_cell HY1.out i; have hzy := fun i => blk_frozen HY1.out i; clear h0 h1 hb))
    refine bodyPost_ret (results_ct rfl _ _ (w.heap.size + 1) 79 #[.int .i64 0, .int .u64 0, .int .u64 0, .int .u64 0, .int .u64 0, .slice none 0 0, .slice none 0 0, .slice none 0 0, .slice none 0 0] (0, 0) _ rfl (nine (blk_far (blk_far HY1.out (by show w.heap.size + 1 ≠ w.heap.size; omega) _) (by show w.heap.size + 1 ≠ w.heap.size; omega) _) _ _ _ _ _ _ _ _ _) Try.underlying79 rfl (by kernel_rfl)) rfl ?_
    exact ⟨_, rfl, GF.empty _ _, nine_below (belowS HB1.out.size HB1.out) (by omega) _ _ _ _ _ _ _ _ _⟩
  subst c1
  rw [if_neg (by simp)]
  by_cases c2 : en = 0
  rotate_left
  · rw [if_pos c2]
    have c2a : (en != 0) = true := bne_iff_ne.2 c2
    clear c2
    go_enter Try.func115, Try.ntmps115
    go_wp2_with (first | (go_at_call 169; (with_reducible refine (HC1.out _ (HP.out.below (below_alloc (below_alloc (Below.refl _ _) _) _))).mono ?_); rintro e w1 ⟨v0, v1, rfl, h0, h1, hb⟩; obtain ⟨B0, d0, rfl⟩ := h0.slice; obtain ⟨B1, d1, rfl⟩ := h1.slice; have HF0 := Aside0.mk (show FI kSp (w.heap.size + 1 + 1) w1 (.slice B0 sp.length d0) sp by simpa using h0); have HF1 := Aside0.mk (show FI (Kd.int .u64) (w.heap.size + 1 + 1) w1 (.slice B1 dp.length d1) dp by simpa using h1); have HB1 := Aside0.mk (below_then (below_alloc (below_alloc (Below.refl w.heap.size w) (.cells #[.int .i64 h.f0, .int .u64 h.f1, .int .u64 h.f2, .int .u64 h.f3, .int .u64 h.f4, .slice A5 h.f5.length c5, .slice A6 h.f6.length c6, .slice A7 h.f7.length c7, .slice A8 h.f8.length c8] 79)) (.cells #[.int .i64 0, .int .u64 0, .int .u64 0, .int .u64 0, .int .u64 0, .slice none 0 0, .slice none 0 0, .slice none 0 0, .slice none 0 0] 79)) (by simp; omega) hb); have HX1 := Aside0.mk (blk_below (blk_alloc (blk_new w (.cells #[.int .i64 h.f0, .int .u64 h.f1, .int .u64 h.f2, .int .u64 h.f3, .int .u64 h.f4, .slice A5 h.f5.length c5, .slice A6 h.f6.length c6, .slice A7 h.f7.length c7, .slice A8 h.f8.length c8] 79)) (.cells #[.int .i64 0, .int .u64 0, .int .u64 0, .int .u64 0, .int .u64 0, .slice none 0 0, .slice none 0 0, .slice none 0 0, .slice none 0 0] 79)) hb); have HY1 := Aside0.mk (show w1.heap[w.heap.size + 1]? = some (.cells #[.int .i64 0, .int .u64 0, .int .u64 0, .int .u64 0, .int .u64 0, .slice none 0 0, .slice none 0 0, .slice none 0 0, .slice none 0 0] 79 (0, 0)) from (blk_below (show ((w.alloc (.cells #[.int .i64 h.f0, .int .u64 h.f1, .int .u64 h.f2, .int .u64 h.f3, .int .u64 h.f4, .slice A5 h.f5.length c5, .slice A6 h.f6.length c6, .slice A7 h.f7.length c7, .slice A8 h.f8.length c8] 79)).alloc (.cells #[.int .i64 0, .int .u64 0, .int .u64 0, .int .u64 0, .int .u64 0, .slice none 0 0, .slice none 0 0, .slice none 0 0, .slice none 0 0] 79)).heap[w.heap.size + 1]? = _ by simpa using blk_new (w.alloc (.cells #[.int .i64 h.f0, .int .u64 h.f1, .int .u64 h.f2, .int .u64 h.f3, .int .u64 h.f4, .slice A5 h.f5.length c5, .slice A6 h.f6.length c6, .slice A7 h.f7.length c7, .slice A8 h.f8.length c8] 79)) (.cells #[.int .i64 0, .int .u64 0, .int .u64 0, .int .u64 0, .int .u64 0, .slice none 0 0, .slice none 0 0, .slice none 0 0, .slice none 0 0] 79)) hb)); have hfx := fun i => blk_cell HX1.out i; have hzx := fun i => blk_frozen HX1.out i; have hfy := fun i => blk_cell HY1.out i; have hzy := fun i => blk_frozen HY1.out i; clear h0 h1 hb) | (go_at_call 169; (with_reducible refine (HC2.out _ (HN.out.below (belowS (HB1.out.size) HB1.out))).mono ?_); rintro e w3 ⟨v2, v3, rfl, h2, h3, hb⟩; obtain ⟨B2, d2, rfl⟩ := h2.slice; obtain ⟨B3, d3, rfl⟩ := h3.slice; have HS2 := Aside0.mk (show w.heap.size + 1 + 1 ≤ w1.heap.size from by have := blk_lt HY1.out; omega); have HF2 := Aside0.mk (show FI kSp (w.heap.size + 1 + 1) w3 (.slice B2 sn.length d2) sn from FI.lower h2 (by have := HS2.out; simpa [World.setCell] using this)); have HF3 := Aside0.mk (show FI (Kd.int .u64) (w.heap.size + 1 + 1) w3 (.slice B3 dn.length d3) dn from FI.lower h3 (by have := HS2.out; simpa [World.setCell] using this)); have HK3 := Aside0.mk (show KA (w.heap.size + 1 + 1) w1 w3 from ((KA.set _ (by omega) _).trans (KA.set _ (by omega) _)).trans (KA.below hb)); have HB3 := Aside0.mk (below_then (belowS (HB1.out.size) HB1.out) (by have := HB1.out.size; simpa [World.setCell] using this) hb); have HX3 := Aside0.mk (blk_below (show ((w1.setCell ⟨w.heap.size, 5, none⟩ (.slice B0 sp.length d0)).setCell ⟨w.heap.size, 7, none⟩ (.slice B1 dp.length d1)).heap[w.heap.size]? = some (.cells #[.int .i64 h.f0, .int .u64 h.f1, .int .u64 h.f2, .int .u64 h.f3, .int .u64 h.f4, .slice B0 sp.length d0, .slice A6 h.f6.length c6, .slice B1 dp.length d1, .slice A8 h.f8.length c8] 79 (0, 0)) from blk_put (blk_put HX1.out 5 _ rfl) 7 _ rfl) hb); have HY3 := Aside0.mk (blk_below (show ((w1.setCell ⟨w.heap.size, 5, none⟩ (.slice B0 sp.length d0)).setCell ⟨w.heap.size, 7, none⟩ (.slice B1 dp.length d1)).heap[w.heap.size + 1]? = some (.cells #[.int .i64 0, .int .u64 0, .int .u64 0, .int .u64 0, .int .u64 0, .slice none 0 0, .slice none 0 0, .slice none 0 0, .slice none 0 0] 79 (0, 0)) from blk_far (blk_far HY1.out (by show w.heap.size + 1 ≠ w.heap.size; omega) _) (by show w.heap.size + 1 ≠ w.heap.size; omega) _) hb); clear hfx hzx hfy hzy; have hfx := fun i => blk_cell HX3.out i; have hzx := fun i => blk_frozen HX3.out i; have hfy := fun i => blk_cell HY3.out i; have hzy := fun i => blk_frozen HY3.out i; clear h2 h3 hb))
    refine bodyPost_ret (results_ct rfl _ _ (w.heap.size + 1) 79 #[.int .i64 0, .int .u64 0, .int .u64 0, .int .u64 0, .int .u64 0, .slice none 0 0, .slice none 0 0, .slice none 0 0, .slice none 0 0] (0, 0) _ rfl (nine (blk_far (blk_far HY3.out (by show w.heap.size + 1 ≠ w.heap.size; omega) _) (by show w.heap.size + 1 ≠ w.heap.size; omega) _) _ _ _ _ _ _ _ _ _) Try.underlying79 rfl (by kernel_rfl)) rfl ?_
    exact ⟨_, rfl, GF.empty _ _, nine_below (belowS HB3.out.size HB3.out) (by omega) _ _ _ _ _ _ _ _ _⟩
  subst c2
  rw [if_neg (by simp)]
  have hck : ∀ w v5 v6 v7 v8, SI kSp w v5 sp → SI kSp w v6 sn → SI (Kd.int .u64) w v7 dp → SI (Kd.int .u64) w v8 dn → Calls Try.prog 96 #[.agg #[.int .i64 h.f0, .int .u64 h.f1, .int .u64 h.f2, .int .u64 h.f3, .int .u64 h.f4, v5, v6, v7, v8]] w fun e w' => e = .returned (.int .i64 (checkF ⟨h.f0, h.f1, h.f2, h.f3, h.f4, sp, sn, dp, dn⟩)) ∧ Below w.heap.size w w' :=
    fun w v5 v6 v7 v8 h5 h6 h7 h8 => fcheck_c _ HW.out w _ (GI.mk (h := ⟨h.f0, h.f1, h.f2, h.f3, h.f4, sp, sn, dp, dn⟩) h5 h6 h7 h8)
  generalize checkF ⟨h.f0, h.f1, h.f2, h.f3, h.f4, sp, sn, dp, dn⟩ = ec at hck ⊢
  have HCK := Aside0.mk hck
  clear hck
  by_cases c3 : ec = 0
  rotate_left
  · rw [if_pos c3]
    have c3a : (ec != 0) = true := bne_iff_ne.2 c3
    clear c3
    go_enter Try.func115, Try.ntmps115
    go_wp2_with (first | (go_at_call 169; (with_reducible refine (HC1.out _ (HP.out.below (below_alloc (below_alloc (Below.refl _ _) _) _))).mono ?_); rintro e w1 ⟨v0, v1, rfl, h0, h1, hb⟩; obtain ⟨B0, d0, rfl⟩ := h0.slice; obtain ⟨B1, d1, rfl⟩ := h1.slice; have HF0 := Aside0.mk (show FI kSp (w.heap.size + 1 + 1) w1 (.slice B0 sp.length d0) sp by simpa using h0); have HF1 := Aside0.mk (show FI (Kd.int .u64) (w.heap.size + 1 + 1) w1 (.slice B1 dp.length d1) dp by simpa using h1); have HB1 := Aside0.mk (below_then (below_alloc (below_alloc (Below.refl w.heap.size w) (.cells #[.int .i64 h.f0, .int .u64 h.f1, .int .u64 h.f2, .int .u64 h.f3, .int .u64 h.f4, .slice A5 h.f5.length c5, .slice A6 h.f6.length c6, .slice A7 h.f7.length c7, .slice A8 h.f8.length c8] 79)) (.cells #[.int .i64 0, .int .u64 0, .int .u64 0, .int .u64 0, .int .u64 0, .slice none 0 0, .slice none 0 0, .slice none 0 0, .slice none 0 0] 79)) (by simp; omega) hb); have HX1 := Aside0.mk (blk_below (blk_alloc (blk_new w (.cells #[.int .i64 h.f0, .int .u64 h.f1, .int .u64 h.f2, .int .u64 h.f3, .int .u64 h.f4, .slice A5 h.f5.length c5, .slice A6 h.f6.length c6, .slice A7 h.f7.length c7, .slice A8 h.f8.length c8] 79)) (.cells #[.int .i64 0, .int .u64 0, .int .u64 0, .int .u64 0, .int .u64 0, .slice none 0 0, .slice none 0 0, .slice none 0 0, .slice none 0 0] 79)) hb); have HY1 := Aside0.mk (show w1.heap[w.heap.size + 1]? = some (.cells #[.int .i64 0, .int .u64 0, .int .u64 0, .int .u64 0, .int .u64 0, .slice none 0 0, .slice none 0 0, .slice none 0 0, .slice none 0 0] 79 (0, 0)) from (blk_below (show ((w.alloc (.cells #[.int .i64 h.f0, .int .u64 h.f1, .int .u64 h.f2, .int .u64 h.f3, .int .u64 h.f4, .slice A5 h.f5.length c5, .slice A6 h.f6.length c6, .slice A7 h.f7.length c7, .slice A8 h.f8.length c8] 79)).alloc (.cells #[.int .i64 0, .int .u64 0, .int .u64 0, .int .u64 0, .int .u64 0, .slice none 0 0, .slice none 0 0, .slice none 0 0, .slice none 0 0] 79)).heap[w.heap.size + 1]? = _ by simpa using blk_new (w.alloc (.cells #[.int .i64 h.f0, .int .u64 h.f1, .int .u64 h.f2, .int .u64 h.f3, .int .u64 h.f4, .slice A5 h.f5.length c5, .slice A6 h.f6.length c6, .slice A7 h.f7.length c7, .slice A8 h.f8.length c8] 79)) (.cells #[.int .i64 0, .int .u64 0, .int .u64 0, .int .u64 0, .int .u64 0, .slice none 0 0, .slice none 0 0, .slice none 0 0, .slice none 0 0] 79)) hb)); have hfx := fun i => blk_cell HX1.out i; have hzx := fun i => blk_frozen HX1.out i; have hfy := fun i => blk_cell HY1.out i; have hzy := fun i => blk_frozen HY1.out i; clear h0 h1 hb) | (go_at_call 169; (with_reducible refine (HC2.out _ (HN.out.below (belowS (HB1.out.size) HB1.out))).mono ?_); rintro e w3 ⟨v2, v3, rfl, h2, h3, hb⟩; obtain ⟨B2, d2, rfl⟩ := h2.slice; obtain ⟨B3, d3, rfl⟩ := h3.slice; have HS2 := Aside0.mk (show w.heap.size + 1 + 1 ≤ w1.heap.size from by have := blk_lt HY1.out; omega); have HF2 := Aside0.mk (show FI kSp (w.heap.size + 1 + 1) w3 (.slice B2 sn.length d2) sn from FI.lower h2 (by have := HS2.out; simpa [World.setCell] using this)); have HF3 := Aside0.mk (show FI (Kd.int .u64) (w.heap.size + 1 + 1) w3 (.slice B3 dn.length d3) dn from FI.lower h3 (by have := HS2.out; simpa [World.setCell] using this)); have HK3 := Aside0.mk (show KA (w.heap.size + 1 + 1) w1 w3 from ((KA.set _ (by omega) _).trans (KA.set _ (by omega) _)).trans (KA.below hb)); have HB3 := Aside0.mk (below_then (belowS (HB1.out.size) HB1.out) (by have := HB1.out.size; simpa [World.setCell] using this) hb); have HX3 := Aside0.mk (blk_below (show ((w1.setCell ⟨w.heap.size, 5, none⟩ (.slice B0 sp.length d0)).setCell ⟨w.heap.size, 7, none⟩ (.slice B1 dp.length d1)).heap[w.heap.size]? = some (.cells #[.int .i64 h.f0, .int .u64 h.f1, .int .u64 h.f2, .int .u64 h.f3, .int .u64 h.f4, .slice B0 sp.length d0, .slice A6 h.f6.length c6, .slice B1 dp.length d1, .slice A8 h.f8.length c8] 79 (0, 0)) from blk_put (blk_put HX1.out 5 _ rfl) 7 _ rfl) hb); have HY3 := Aside0.mk (blk_below (show ((w1.setCell ⟨w.heap.size, 5, none⟩ (.slice B0 sp.length d0)).setCell ⟨w.heap.size, 7, none⟩ (.slice B1 dp.length d1)).heap[w.heap.size + 1]? = some (.cells #[.int .i64 0, .int .u64 0, .int .u64 0, .int .u64 0, .int .u64 0, .slice none 0 0, .slice none 0 0, .slice none 0 0, .slice none 0 0] 79 (0, 0)) from blk_far (blk_far HY1.out (by show w.heap.size + 1 ≠ w.heap.size; omega) _) (by show w.heap.size + 1 ≠ w.heap.size; omega) _) hb); clear hfx hzx hfy hzy; have hfx := fun i => blk_cell HX3.out i; have hzx := fun i => blk_frozen HX3.out i; have hfy := fun i => blk_cell HY3.out i; have hzy := fun i => blk_frozen HY3.out i; clear h2 h3 hb) | (go_at_call 96; (with_reducible refine (HCK.out _ _ _ _ _ (HF0.out.at_ (HK3.out.trans ((KA.set _ (by omega) _).trans (KA.set _ (by omega) _)))) (HF2.out.at_ ((KA.set _ (by omega) _).trans (KA.set _ (by omega) _))) (HF1.out.at_ (HK3.out.trans ((KA.set _ (by omega) _).trans (KA.set _ (by omega) _)))) (HF3.out.at_ ((KA.set _ (by omega) _).trans (KA.set _ (by omega) _)))).mono ?_); rintro e w5 ⟨rfl, hb⟩; have HK5 := Aside0.mk (show KA (w.heap.size + 1 + 1) w3 w5 from ((KA.set _ (by omega) _).trans (KA.set _ (by omega) _)).trans (KA.below hb)); have HB5 := Aside0.mk (below_then (belowS (HB3.out.size) HB3.out) (by have := HB3.out.size; simpa [World.setCell] using this) hb); have HX5 := Aside0.mk (blk_below (show ((w3.setCell ⟨w.heap.size, 6, none⟩ (.slice B2 sn.length d2)).setCell ⟨w.heap.size, 8, none⟩ (.slice B3 dn.length d3)).heap[w.heap.size]? = some (.cells #[.int .i64 h.f0, .int .u64 h.f1, .int .u64 h.f2, .int .u64 h.f3, .int .u64 h.f4, .slice B0 sp.length d0, .slice B2 sn.length d2, .slice B1 dp.length d1, .slice B3 dn.length d3] 79 (0, 0)) from blk_put (blk_put HX3.out 6 _ rfl) 8 _ rfl) hb); have HY5 := Aside0.mk (blk_below (show ((w3.setCell ⟨w.heap.size, 6, none⟩ (.slice B2 sn.length d2)).setCell ⟨w.heap.size, 8, none⟩ (.slice B3 dn.length d3)).heap[w.heap.size + 1]? = some (.cells #[.int .i64 0, .int .u64 0, .int .u64 0, .int .u64 0, .int .u64 0, .slice none 0 0, .slice none 0 0, .slice none 0 0, .slice none 0 0] 79 (0, 0)) from blk_far (blk_far HY3.out (by show w.heap.size + 1 ≠ w.heap.size; omega) _) (by show w.heap.size + 1 ≠ w.heap.size; omega) _) hb); clear hfx hzx hfy hzy; have hfx := fun i => blk_cell HX5.out i; have hzx := fun i => blk_frozen HX5.out i; have hfy := fun i => blk_cell HY5.out i; have hzy := fun i => blk_frozen HY5.out i; clear hb))
    refine bodyPost_ret (results_ct rfl _ _ (w.heap.size + 1) 79 #[.int .i64 0, .int .u64 0, .int .u64 0, .int .u64 0, .int .u64 0, .slice none 0 0, .slice none 0 0, .slice none 0 0, .slice none 0 0] (0, 0) _ rfl (nine (HY5.out) _ _ _ _ _ _ _ _ _) Try.underlying79 rfl (by kernel_rfl)) rfl ?_
    exact ⟨_, rfl, GF.empty _ _, nine_below HB5.out (by omega) _ _ _ _ _ _ _ _ _⟩
  subst c3
  rw [if_neg (by simp)]
  go_enter Try.func115, Try.ntmps115
  go_wp2_with (first | (go_at_call 169; (with_reducible refine (HC1.out _ (HP.out.below (below_alloc (below_alloc (Below.refl _ _) _) _))).mono ?_); rintro e w1 ⟨v0, v1, rfl, h0, h1, hb⟩; obtain ⟨B0, d0, rfl⟩ := h0.slice; obtain ⟨B1, d1, rfl⟩ := h1.slice; have HF0 := Aside0.mk (show FI kSp (w.heap.size + 1 + 1) w1 (.slice B0 sp.length d0) sp by simpa using h0); have HF1 := Aside0.mk (show FI (Kd.int .u64) (w.heap.size + 1 + 1) w1 (.slice B1 dp.length d1) dp by simpa using h1); have HB1 := Aside0.mk (below_then (below_alloc (below_alloc (Below.refl w.heap.size w) (.cells #[.int .i64 h.f0, .int .u64 h.f1, .int .u64 h.f2, .int .u64 h.f3, .int .u64 h.f4, .slice A5 h.f5.length c5, .slice A6 h.f6.length c6, .slice A7 h.f7.length c7, .slice A8 h.f8.length c8] 79)) (.cells #[.int .i64 0, .int .u64 0, .int .u64 0, .int .u64 0, .int .u64 0, .slice none 0 0, .slice none 0 0, .slice none 0 0, .slice none 0 0] 79)) (by simp; omega) hb); have HX1 := Aside0.mk (blk_below (blk_alloc (blk_new w (.cells #[.int .i64 h.f0, .int .u64 h.f1, .int .u64 h.f2, .int .u64 h.f3, .int .u64 h.f4, .slice A5 h.f5.length c5, .slice A6 h.f6.length c6, .slice A7 h.f7.length c7, .slice A8 h.f8.length c8] 79)) (.cells #[.int .i64 0, .int .u64 0, .int .u64 0, .int .u64 0, .int .u64 0, .slice none 0 0, .slice none 0 0, .slice none 0 0, .slice none 0 0] 79)) hb); have HY1 := Aside0.mk (show w1.heap[w.heap.size + 1]? = some (.cells #[.int .i64 0, .int .u64 0, .int .u64 0, .int .u64 0, .int .u64 0, .slice none 0 0, .slice none 0 0, .slice none 0 0, .slice none 0 0] 79 (0, 0)) from (blk_below (show ((w.alloc (.cells #[.int .i64 h.f0, .int .u64 h.f1, .int .u64 h.f2, .int .u64 h.f3, .int .u64 h.f4, .slice A5 h.f5.length c5, .slice A6 h.f6.length c6, .slice A7 h.f7.length c7, .slice A8 h.f8.length c8] 79)).alloc (.cells #[.int .i64 0, .int .u64 0, .int .u64 0, .int .u64 0, .int .u64 0, .slice none 0 0, .slice none 0 0, .slice none 0 0, .slice none 0 0] 79)).heap[w.heap.size + 1]? = _ by simpa using blk_new (w.alloc (.cells #[.int .i64 h.f0, .int .u64 h.f1, .int .u64 h.f2, .int .u64 h.f3, .int .u64 h.f4, .slice A5 h.f5.length c5, .slice A6 h.f6.length c6, .slice A7 h.f7.length c7, .slice A8 h.f8.length c8] 79)) (.cells #[.int .i64 0, .int .u64 0, .int .u64 0, .int .u64 0, .int .u64 0, .slice none 0 0, .slice none 0 0, .slice none 0 0, .slice none 0 0] 79)) hb)); have hfx := fun i => blk_cell HX1.out i; have hzx := fun i => blk_frozen HX1.out i; have hfy := fun i => blk_cell HY1.out i; have hzy := fun i => blk_frozen HY1.out i; clear h0 h1 hb) | (go_at_call 169; (with_reducible refine (HC2.out _ (HN.out.below (belowS (HB1.out.size) HB1.out))).mono ?_); rintro e w3 ⟨v2, v3, rfl, h2, h3, hb⟩; obtain ⟨B2, d2, rfl⟩ := h2.slice; obtain ⟨B3, d3, rfl⟩ := h3.slice; have HS2 := Aside0.mk (show w.heap.size + 1 + 1 ≤ w1.heap.size from by have := blk_lt HY1.out; omega); have HF2 := Aside0.mk (show FI kSp (w.heap.size + 1 + 1) w3 (.slice B2 sn.length d2) sn from FI.lower h2 (by have := HS2.out; simpa [World.setCell] using this)); have HF3 := Aside0.mk (show FI (Kd.int .u64) (w.heap.size + 1 + 1) w3 (.slice B3 dn.length d3) dn from FI.lower h3 (by have := HS2.out; simpa [World.setCell] using this)); have HK3 := Aside0.mk (show KA (w.heap.size + 1 + 1) w1 w3 from ((KA.set _ (by omega) _).trans (KA.set _ (by omega) _)).trans (KA.below hb)); have HB3 := Aside0.mk (below_then (belowS (HB1.out.size) HB1.out) (by have := HB1.out.size; simpa [World.setCell] using this) hb); have HX3 := Aside0.mk (blk_below (show ((w1.setCell ⟨w.heap.size, 5, none⟩ (.slice B0 sp.length d0)).setCell ⟨w.heap.size, 7, none⟩ (.slice B1 dp.length d1)).heap[w.heap.size]? = some (.cells #[.int .i64 h.f0, .int .u64 h.f1, .int .u64 h.f2, .int .u64 h.f3, .int .u64 h.f4, .slice B0 sp.length d0, .slice A6 h.f6.length c6, .slice B1 dp.length d1, .slice A8 h.f8.length c8] 79 (0, 0)) from blk_put (blk_put HX1.out 5 _ rfl) 7 _ rfl) hb); have HY3 := Aside0.mk (blk_below (show ((w1.setCell ⟨w.heap.size, 5, none⟩ (.slice B0 sp.length d0)).setCell ⟨w.heap.size, 7, none⟩ (.slice B1 dp.length d1)).heap[w.heap.size + 1]? = some (.cells #[.int .i64 0, .int .u64 0, .int .u64 0, .int .u64 0, .int .u64 0, .slice none 0 0, .slice none 0 0, .slice none 0 0, .slice none 0 0] 79 (0, 0)) from blk_far (blk_far HY1.out (by show w.heap.size + 1 ≠ w.heap.size; omega) _) (by show w.heap.size + 1 ≠ w.heap.size; omega) _) hb); clear hfx hzx hfy hzy; have hfx := fun i => blk_cell HX3.out i; have hzx := fun i => blk_frozen HX3.out i; have hfy := fun i => blk_cell HY3.out i; have hzy := fun i => blk_frozen HY3.out i; clear h2 h3 hb) | (go_at_call 96; (with_reducible refine (HCK.out _ _ _ _ _ (HF0.out.at_ (HK3.out.trans ((KA.set _ (by omega) _).trans (KA.set _ (by omega) _)))) (HF2.out.at_ ((KA.set _ (by omega) _).trans (KA.set _ (by omega) _))) (HF1.out.at_ (HK3.out.trans ((KA.set _ (by omega) _).trans (KA.set _ (by omega) _)))) (HF3.out.at_ ((KA.set _ (by omega) _).trans (KA.set _ (by omega) _)))).mono ?_); rintro e w5 ⟨rfl, hb⟩; have HK5 := Aside0.mk (show KA (w.heap.size + 1 + 1) w3 w5 from ((KA.set _ (by omega) _).trans (KA.set _ (by omega) _)).trans (KA.below hb)); have HB5 := Aside0.mk (below_then (belowS (HB3.out.size) HB3.out) (by have := HB3.out.size; simpa [World.setCell] using this) hb); have HX5 := Aside0.mk (blk_below (show ((w3.setCell ⟨w.heap.size, 6, none⟩ (.slice B2 sn.length d2)).setCell ⟨w.heap.size, 8, none⟩ (.slice B3 dn.length d3)).heap[w.heap.size]? = some (.cells #[.int .i64 h.f0, .int .u64 h.f1, .int .u64 h.f2, .int .u64 h.f3, .int .u64 h.f4, .slice B0 sp.length d0, .slice B2 sn.length d2, .slice B1 dp.length d1, .slice B3 dn.length d3] 79 (0, 0)) from blk_put (blk_put HX3.out 6 _ rfl) 8 _ rfl) hb); have HY5 := Aside0.mk (blk_below (show ((w3.setCell ⟨w.heap.size, 6, none⟩ (.slice B2 sn.length d2)).setCell ⟨w.heap.size, 8, none⟩ (.slice B3 dn.length d3)).heap[w.heap.size + 1]? = some (.cells #[.int .i64 0, .int .u64 0, .int .u64 0, .int .u64 0, .int .u64 0, .slice none 0 0, .slice none 0 0, .slice none 0 0, .slice none 0 0] 79 (0, 0)) from blk_far (blk_far HY3.out (by show w.heap.size + 1 ≠ w.heap.size; omega) _) (by show w.heap.size + 1 ≠ w.heap.size; omega) _) hb); clear hfx hzx hfy hzy; have hfx := fun i => blk_cell HX5.out i; have hzx := fun i => blk_frozen HX5.out i; have hfy := fun i => blk_cell HY5.out i; have hzy := fun i => blk_frozen HY5.out i; clear hb))
  refine bodyPost_ret (results_ct rfl _ _ (w.heap.size + 1) 79 #[.int .i64 h.f0, .int .u64 h.f1, .int .u64 h.f2, .int .u64 h.f3, .int .u64 h.f4, .slice B0 sp.length d0, .slice B2 sn.length d2, .slice B1 dp.length d1, .slice B3 dn.length d3] (0, 0) _ rfl (nine (HY5.out) _ _ _ _ _ _ _ _ _) Try.underlying79 rfl (by kernel_rfl)) rfl ?_
  exact ⟨_, rfl, GF.mk (h := ⟨h.f0, h.f1, h.f2, h.f3, h.f4, sp, sn, dp, dn⟩) ((HF0.out.step (HK3.out.trans (nine_ka HK5.out (by omega) _ _ _ _ _ _ _ _ _))).lower (by omega)) ((HF2.out.step (nine_ka HK5.out (by omega) _ _ _ _ _ _ _ _ _)).lower (by omega)) ((HF1.out.step (HK3.out.trans (nine_ka HK5.out (by omega) _ _ _ _ _ _ _ _ _))).lower (by omega)) ((HF3.out.step (nine_ka HK5.out (by omega) _ _ _ _ _ _ _ _ _)).lower (by omega)), nine_below HB5.out (by omega) _ _ _ _ _ _ _ _ _⟩
theorem fmake_c (h : Fh) (hw : wfF h) (p n : List Pu) (hp : wfRowU p) (hn : wfRowU n) (w : World) (v vp vn : Value) (hv : GI w v h) (hvp : SI kPu w vp p) (hvn : SI kPu w vn n) : Calls Try.prog 115 #[v, vp, vn] w fun e w' =>
    ∃ v', e = .returned (.tuple #[v', .int .i64 (makeF h p n).2]) ∧ GF w.heap.size w' v' (makeF h p n).1 ∧ Below w.heap.size w w' := fmake_n h p n (madeF_wf hw hp hn) hp hn w v vp vn hv hvp hvn
end Go.Proofs.Ytacgeafjilipdaa.P
namespace Go.Proofs.Ytacgeafjilipdaa.P
open Go.RowKit Go.Shelf Go.Proofs.YtacgeafjilipdaaW.PrintWords Go.Proofs.YtacgeafjilipdaaW.PrintLast Go.Proofs.YtacgeafjilipdaaW.PrintMore
set_option linter.unusedVariables false
set_option linter.unusedSimpArgs false
def canonF (h : Fh) : Fh × Int := if checkF h ≠ 0 then (emptyF, checkF h) else makeF h (some0U (openF h).1) (some0U (openF h).2.1)
set_option maxHeartbeats 8000000 in
set_option maxRecDepth 100000 in
theorem fcanon_c (h : Fh) (hw : wfF h) (w : World) (v : Value) (hv : GI w v h) : Calls Try.prog 118 #[v] w fun e w' =>
    ∃ v', e = .returned (.tuple #[v', .int .i64 (canonF h).2]) ∧ GF w.heap.size w' v' (canonF h).1 ∧ Below w.heap.size w w' := by
  have hu := Try.underlying79
  obtain ⟨A5, c5, A6, c6, A7, c7, A8, c8, e, -⟩ := hv.open_
  subst e
  have HV := Aside0.mk hv
  have ho := fopen_c h hw
  unfold canonF checkF
  have hwp : wfRowU (openF h).1 := (openF_row hw).1.wf
  have hwn : wfRowU (openF h).2.1 := (openF_row hw).2.wf
  have hm := fun w v vp vn => fmake_c h hw _ _ (some0U_wf hwp) (some0U_wf hwn) w v vp vn
  have h1 := withoutU_c (openF h).1 (by have := hwp.2; omega)
  have h2 := withoutU_c (openF h).2.1 (by have := hwn.2; omega)
  generalize makeF h (some0U (openF h).1) (some0U (openF h).2.1) = mr at *
  generalize openF h = o at *
  obtain ⟨p, n, ec⟩ := o
  obtain ⟨mh, me⟩ := mr
  simp only at hm h1 h2 ho ⊢
  have HO := Aside0.mk ho
  have HM := Aside0.mk hm
  have H1 := Aside0.mk h1
  have H2 := Aside0.mk h2
  clear ho hm h1 h2 hwp hwn hw hv
  by_cases c1 : ec = 0
  rotate_left
  · rw [if_pos c1]
    have c1a : (ec != 0) = true := bne_iff_ne.2 c1
    clear c1
    go_enter Try.func118, Try.ntmps118
    go_wp2_with (first | (go_at_call 159; (with_reducible refine (HO.out _ _ (HV.out.below (below_alloc (below_alloc (Below.refl _ _) _) _))).mono ?_); rintro e w1 ⟨v0, v1, rfl, h0, h1, hb⟩; have HO := Aside0.mk (And.intro h0 h1); have HB := Aside0.mk (below_then (below_alloc (below_alloc (Below.refl w.heap.size w) (.cells #[.int .i64 h.f0, .int .u64 h.f1, .int .u64 h.f2, .int .u64 h.f3, .int .u64 h.f4, .slice A5 h.f5.length c5, .slice A6 h.f6.length c6, .slice A7 h.f7.length c7, .slice A8 h.f8.length c8] 79)) (.cells #[.int .i64 0, .int .u64 0, .int .u64 0, .int .u64 0, .int .u64 0, .slice none 0 0, .slice none 0 0, .slice none 0 0, .slice none 0 0] 79)) (by simp; omega) hb); have HX1 := Aside0.mk (blk_below (blk_alloc (blk_new w (.cells #[.int .i64 h.f0, .int .u64 h.f1, .int .u64 h.f2, .int .u64 h.f3, .int .u64 h.f4, .slice A5 h.f5.length c5, .slice A6 h.f6.length c6, .slice A7 h.f7.length c7, .slice A8 h.f8.length c8] 79)) (.cells #[.int .i64 0, .int .u64 0, .int .u64 0, .int .u64 0, .int .u64 0, .slice none 0 0, .slice none 0 0, .slice none 0 0, .slice none 0 0] 79)) hb); have HY1 := Aside0.mk (show w1.heap[w.heap.size + 1]? = some (.cells #[.int .i64 0, .int .u64 0, .int .u64 0, .int .u64 0, .int .u64 0, .slice none 0 0, .slice none 0 0, .slice none 0 0, .slice none 0 0] 79 (0, 0)) from (blk_below (show ((w.alloc (.cells #[.int .i64 h.f0, .int .u64 h.f1, .int .u64 h.f2, .int .u64 h.f3, .int .u64 h.f4, .slice A5 h.f5.length c5, .slice A6 h.f6.length c6, .slice A7 h.f7.length c7, .slice A8 h.f8.length c8] 79)).alloc (.cells #[.int .i64 0, .int .u64 0, .int .u64 0, .int .u64 0, .int .u64 0, .slice none 0 0, .slice none 0 0, .slice none 0 0, .slice none 0 0] 79)).heap[w.heap.size + 1]? = _ by simpa using blk_new (w.alloc (.cells #[.int .i64 h.f0, .int .u64 h.f1, .int .u64 h.f2, .int .u64 h.f3, .int .u64 h.f4, .slice A5 h.f5.length c5, .slice A6 h.f6.length c6, .slice A7 h.f7.length c7, .slice A8 h.f8.length c8] 79)) (.cells #[.int .i64 0, .int .u64 0, .int .u64 0, .int .u64 0, .int .u64 0, .slice none 0 0, .slice none 0 0, .slice none 0 0, .slice none 0 0] 79)) hb)); have hfx := fun i => blk_cell HX1.out i; have hzx := fun i => blk_frozen HX1.out i; have hfy := fun i => blk_cell HY1.out i; have hzy := fun i => blk_frozen HY1.out i; clear h0 h1 hb))
    refine bodyPost_ret (results_ct rfl _ _ (w.heap.size + 1) 79 #[.int .i64 0, .int .u64 0, .int .u64 0, .int .u64 0, .int .u64 0, .slice none 0 0, .slice none 0 0, .slice none 0 0, .slice none 0 0] (0, 0) _ rfl (nine HY1.out _ _ _ _ _ _ _ _ _) Try.underlying79 rfl (by kernel_rfl)) rfl ?_
    exact ⟨_, rfl, GF.empty _ _, nine_below HB.out (by omega) _ _ _ _ _ _ _ _ _⟩
  subst c1
  rw [if_neg (by simp)]
  go_enter Try.func118, Try.ntmps118
  go_wp2_with (first | (go_at_call 159; (with_reducible refine (HO.out _ _ (HV.out.below (below_alloc (below_alloc (Below.refl _ _) _) _))).mono ?_); rintro e w1 ⟨v0, v1, rfl, h0, h1, hb⟩; have HO := Aside0.mk (And.intro h0 h1); have HB := Aside0.mk (below_then (below_alloc (below_alloc (Below.refl w.heap.size w) (.cells #[.int .i64 h.f0, .int .u64 h.f1, .int .u64 h.f2, .int .u64 h.f3, .int .u64 h.f4, .slice A5 h.f5.length c5, .slice A6 h.f6.length c6, .slice A7 h.f7.length c7, .slice A8 h.f8.length c8] 79)) (.cells #[.int .i64 0, .int .u64 0, .int .u64 0, .int .u64 0, .int .u64 0, .slice none 0 0, .slice none 0 0, .slice none 0 0, .slice none 0 0] 79)) (by simp; omega) hb); have HX1 := Aside0.mk (blk_below (blk_alloc (blk_new w (.cells #[.int .i64 h.f0, .int .u64 h.f1, .int .u64 h.f2, .int .u64 h.f3, .int .u64 h.f4, .slice A5 h.f5.length c5, .slice A6 h.f6.length c6, .slice A7 h.f7.length c7, .slice A8 h.f8.length c8] 79)) (.cells #[.int .i64 0, .int .u64 0, .int .u64 0, .int .u64 0, .int .u64 0, .slice none 0 0, .slice none 0 0, .slice none 0 0, .slice none 0 0] 79)) hb); have HY1 := Aside0.mk (show w1.heap[w.heap.size + 1]? = some (.cells #[.int .i64 0, .int .u64 0, .int .u64 0, .int .u64 0, .int .u64 0, .slice none 0 0, .slice none 0 0, .slice none 0 0, .slice none 0 0] 79 (0, 0)) from (blk_below (show ((w.alloc (.cells #[.int .i64 h.f0, .int .u64 h.f1, .int .u64 h.f2, .int .u64 h.f3, .int .u64 h.f4, .slice A5 h.f5.length c5, .slice A6 h.f6.length c6, .slice A7 h.f7.length c7, .slice A8 h.f8.length c8] 79)).alloc (.cells #[.int .i64 0, .int .u64 0, .int .u64 0, .int .u64 0, .int .u64 0, .slice none 0 0, .slice none 0 0, .slice none 0 0, .slice none 0 0] 79)).heap[w.heap.size + 1]? = _ by simpa using blk_new (w.alloc (.cells #[.int .i64 h.f0, .int .u64 h.f1, .int .u64 h.f2, .int .u64 h.f3, .int .u64 h.f4, .slice A5 h.f5.length c5, .slice A6 h.f6.length c6, .slice A7 h.f7.length c7, .slice A8 h.f8.length c8] 79)) (.cells #[.int .i64 0, .int .u64 0, .int .u64 0, .int .u64 0, .int .u64 0, .slice none 0 0, .slice none 0 0, .slice none 0 0, .slice none 0 0] 79)) hb)); have hfx := fun i => blk_cell HX1.out i; have hzx := fun i => blk_frozen HX1.out i; have hfy := fun i => blk_cell HY1.out i; have hzy := fun i => blk_frozen HY1.out i; clear h0 h1 hb))
  go_region_with (first | (go_at_call 162; (with_reducible refine (H1.out _ v0 (HO.out.1.below (below_drew (Below.refl _ _)))).mono ?_); rintro e w2 ⟨vp, rfl, hs, hb⟩; have HS2 := Aside0.mk hs; have HB2 := Aside0.mk (below_then (below_drew (Below.refl w1.heap.size w1)) (Nat.le_refl _) hb); have hX2 := fun i => blk_cell (blk_below HX1.out HB2.out) i; have hY2 := fun i => blk_cell (blk_below HY1.out HB2.out) i; have hZ2 := fun i => blk_frozen (blk_below HY1.out HB2.out) i; clear hs hb) | (go_at_call 162; (with_reducible refine (H2.out _ v1 (HO.out.2.below (below_drew (Below.refl _ _)))).mono ?_); rintro e w3 ⟨vn, rfl, hs, hb⟩; have HS3 := Aside0.mk hs; have HB3 := Aside0.mk (below_then (below_drew (Below.refl w1.heap.size w1)) (Nat.le_refl _) hb); have hX3 := fun i => blk_cell (blk_below HX1.out HB3.out) i; have hY3 := fun i => blk_cell (blk_below HY1.out HB3.out) i; have hZ3 := fun i => blk_frozen (blk_below HY1.out HB3.out) i; clear hs hb) | (go_at_call 162; (with_reducible refine (H2.out w2 v1 (HO.out.2.below HB2.out)).mono ?_); rintro e w4 ⟨vn, rfl, hs, hb⟩; have HS4 := Aside0.mk (And.intro (HS2.out.below hb) hs); have HB4 := Aside0.mk (below_then HB2.out HB2.out.size hb); have hX4 := fun i => blk_cell (blk_below HX1.out HB4.out) i; have hY4 := fun i => blk_cell (blk_below HY1.out HB4.out) i; have hZ4 := fun i => blk_frozen (blk_below HY1.out HB4.out) i; clear hs hb) | (go_at_call 162; (with_reducible refine (H1.out w3 v0 (HO.out.1.below HB3.out)).mono ?_); rintro e w4 ⟨vp, rfl, hs, hb⟩; have HS4 := Aside0.mk (And.intro hs (HS3.out.below hb)); have HB4 := Aside0.mk (below_then HB3.out HB3.out.size hb); have hX4 := fun i => blk_cell (blk_below HX1.out HB4.out) i; have hY4 := fun i => blk_cell (blk_below HY1.out HB4.out) i; have hZ4 := fun i => blk_frozen (blk_below HY1.out HB4.out) i; clear hs hb) | (go_at_call 115; (with_reducible refine (HM.out w4 _ vp vn (HV.out.below (below_then HB.out HB.out.size HB4.out)) HS4.out.1 HS4.out.2).mono ?_); rintro e w5 ⟨v5, rfl, hs, hb⟩; have HB5 := Aside0.mk (below_then (below_then HB.out HB.out.size HB4.out) (below_then HB.out HB.out.size HB4.out).size hb); have HI5 := Aside0.mk hs; obtain ⟨D5, g5, D6, g6, D7, g7, D8, g8, e5⟩ := hs.open_; subst e5; have hX5 := fun i => blk_cell (blk_below (blk_below HX1.out HB4.out) hb) i; have HY5 := Aside0.mk (blk_below (blk_below HY1.out HB4.out) hb); have hY5 := fun i => blk_cell HY5.out i; have hZ5 := fun i => blk_frozen HY5.out i; clear hs hb))
  all_goals (go_wp2; have hsz := blk_lt HY1.out; have hsz4 := HB4.out.size; refine bodyPost_ret (results_ct rfl _ _ (w.heap.size + 1) 79 #[.int .i64 mh.f0, .int .u64 mh.f1, .int .u64 mh.f2, .int .u64 mh.f3, .int .u64 mh.f4, .slice D5 mh.f5.length g5, .slice D6 mh.f6.length g6, .slice D7 mh.f7.length g7, .slice D8 mh.f8.length g8] (0, 0) _ rfl (nine HY5.out _ _ _ _ _ _ _ _ _) Try.underlying79 rfl (by kernel_rfl)) rfl ?_; exact ⟨_, rfl, (HI5.out.step (nine_ka (KA.refl _ _) (by omega) _ _ _ _ _ _ _ _ _)).lower (by omega), nine_below HB5.out (by omega) _ _ _ _ _ _ _ _ _⟩)
end Go.Proofs.Ytacgeafjilipdaa.P
namespace Go.Proofs.Ytacgeafjilipdaa.P
open Go.RowKit Go.Shelf Go.Proofs.YtacgeafjilipdaaW.PrintWords Go.Proofs.YtacgeafjilipdaaW.PrintLast Go.Proofs.YtacgeafjilipdaaW.PrintMore
set_option linter.unusedVariables false
set_option linter.unusedSimpArgs false
theorem zipLU : ∀ (ps v : List Int), ps.length = v.length → (List.zipWith (fun p x => (⟨p, x⟩ : Pu)) ps v).map (·.f0) = ps ∧ (List.zipWith (fun p x => (⟨p, x⟩ : Pu)) ps v).map (·.f1) = v
  | [], [], _ => ⟨rfl, rfl⟩
  | p :: ps, x :: v, h => by have := zipLU ps v (by simpa using h); exact ⟨by simp only [List.zipWith_cons_cons, List.map_cons, this.1], by simp only [List.zipWith_cons_cons, List.map_cons, this.2]⟩
  | [], _ :: _, h => by simp at h
  | _ :: _, [], h => by simp at h
theorem sideF_bounds {l : List Sp} {c : List Int} (h0 : (sideF l c).2 = 0) : (∀ p ∈ (sideF l c).1, -1048576 ≤ p.f0 ∧ p.f0 ≤ 1048576) ∧ (sideF l c).1.length = c.length ∧ (sideF l c).1.map (·.f0) = plN 0 l ∧ spCheck l = 0 ∧ (sideF l c).1.map (·.f1) = c ∧ c.any (fun v => !rightF v) = false := by
  unfold sideF at h0 ⊢
  by_cases c1 : spCheck l = 0
  rotate_left
  · rw [if_neg c1] at h0; exact absurd h0 c1
  rw [if_pos c1] at h0 ⊢
  by_cases c2 : cntN l = c.length
  rotate_left
  · rw [if_neg c2] at h0; cases h0
  rw [if_pos c2] at h0 ⊢
  by_cases c3 : c.any (fun v => !rightF v) = true
  · rw [if_pos c3] at h0; cases h0
  rw [if_neg c3]
  have hr := rises_of_right c1
  have hpl := plN_length l 0 (fun s hs => (spRight_pos l _ _ _ (spCheck_zero c1).2 s hs).1)
  have hz := zipLU (plN 0 l) c (by omega)
  refine ⟨fun y hy => ?_, by simp; omega, hz.1, c1, hz.2, by simpa using c3⟩
  have : y.f0 ∈ plN 0 l := by
    obtain ⟨i, hi, rfl⟩ := List.mem_iff_getElem.1 hy
    simp only [List.getElem_zipWith]; exact List.getElem_mem _
  exact rises_i64 hr _ this
def headF (h : Fh) : Int := if h.f0 < -4 ∨ h.f0 > 8 then 21 else if rightF h.f1 = false then 11 else if (!rightF h.f2 || !rightF h.f3) = true then 22 else 0
theorem checkF_eq (h : Fh) : checkF h = if headF h ≠ 0 then headF h else if (sideF h.f5 h.f7).2 ≠ 0 then (sideF h.f5 h.f7).2 else (sideF h.f6 h.f8).2 := by
  unfold checkF openF headF
  by_cases c1 : h.f0 < -4 ∨ h.f0 > 8
  · rw [if_pos c1, if_pos c1, if_pos (by omega)]
  rw [if_neg c1, if_neg c1]
  by_cases c2 : rightF h.f1 = false
  · rw [if_pos c2, if_pos c2, if_pos (by omega)]
  rw [if_neg c2, if_neg c2]
  by_cases c3 : (!rightF h.f2 || !rightF h.f3) = true
  · rw [if_pos c3, if_pos c3, if_pos (by omega)]
  rw [if_neg c3, if_neg c3, if_neg (c := (0 : Int) ≠ 0) (by omega)]
  by_cases c4 : (sideF h.f5 h.f7).2 ≠ 0
  · rw [if_pos c4, if_pos c4]
  rw [if_neg c4, if_neg c4]
  by_cases c5 : (sideF h.f6 h.f8).2 ≠ 0
  · rw [if_pos c5]
  · rw [if_neg c5]; exact (Decidable.not_not.1 c5).symm
theorem openF_right {h : Fh} (hc : checkF h = 0) : openF h = ((sideF h.f5 h.f7).1, (sideF h.f6 h.f8).1, 0) := by
  unfold checkF openF at *
  split at hc
  · cases hc
  split at hc
  · cases hc
  split at hc
  · cases hc
  split at hc
  · rename_i h3; exact absurd hc h3
  split at hc
  · rename_i h3; exact absurd hc h3
  rename_i h1 h2 h3 h4 h5
  rw [if_neg h1, if_neg h2, if_neg h3, if_neg h4, if_neg h5]
theorem checkF_zero {h : Fh} (hc : checkF h = 0) : headF h = 0 ∧ (sideF h.f5 h.f7).2 = 0 ∧ (sideF h.f6 h.f8).2 = 0 := by
  rw [checkF_eq] at hc
  by_cases c1 : headF h = 0
  rotate_left
  · rw [if_pos c1] at hc; exact absurd hc c1
  rw [if_neg (by simp [c1])] at hc
  by_cases c2 : (sideF h.f5 h.f7).2 = 0
  rotate_left
  · rw [if_pos c2] at hc; exact absurd hc c2
  rw [if_neg (by simp [c2])] at hc
  exact ⟨c1, c2, hc⟩
def sameNumsF (a b : Fh) : Prop := a.f0 = b.f0 ∧ a.f1 = b.f1 ∧ a.f2 = b.f2 ∧ a.f3 = b.f3 ∧ a.f4 = b.f4
instance (a b : Fh) : Decidable (sameNumsF a b) := by unfold sameNumsF; exact inferInstance
def equalF (a b : Fh) : Bool := decide (sameNumsF a b) && (decide (checkF a = 0) && decide (checkF b = 0) && (decide (some0U (openF a).1 = some0U (openF b).1) && decide (some0U (openF a).2.1 = some0U (openF b).2.1)))
end Go.Proofs.Ytacgeafjilipdaa.P
namespace Go.Proofs.Ytacgeafjilipdaa.P
open Go.RowKit Go.Shelf Go.Proofs.YtacgeafjilipdaaW.PrintWords Go.Proofs.YtacgeafjilipdaaW.PrintLast Go.Proofs.YtacgeafjilipdaaW.PrintMore
set_option linter.unusedVariables false
set_option linter.unusedSimpArgs false
theorem wrapU_inj {x y : Int} (hx : i64 x) (hy : i64 y) (h : IntKind.u64.wrap x = IntKind.u64.wrap y) : x = y := by
  simp only [IntKind.wrap_u64] at h
  obtain ⟨h1, h2⟩ := hx
  obtain ⟨h3, h4⟩ := hy
  omega
theorem run_eqItems_one {P : Program} (d : Nat) (e : TypeId) (hu : P.underlying e = some (.int .u64)) (hc : P.cellsOf e = 1) (xs ys : List Int) (W : World) : ∀ (is : List Nat), (∀ i ∈ is, i < xs.length ∧ i < ys.length) →
    (Op.eqItems (d + 1) e 1 (xs.map (Value.int .u64)).toArray (ys.map (Value.int .u64)).toArray is).run P W = .ok (is.all fun i => xs.getD i 0 == ys.getD i 0) W
  | [], _ => by simp [Op.eqItems]
  | i :: is, h => by
    have hi := h i (List.mem_cons_self ..)
    have ih := run_eqItems_one d e hu hc xs ys W is (fun j hj => h j (List.mem_cons_of_mem _ hj))
    have hp : ∀ (zs : List Int), i < zs.length → (part e (zs.map (Value.int .u64)).toArray (i * 1)).run P W = .ok (.int .u64 (zs.getD i 0)) W := fun zs hz => by
      rw [Nat.mul_one]
      have ha : (isAgg e).run P W = .ok false W := by simp [isAgg, run_underlying hu]
      simp [part, ha, hz, List.getD]
    simp only [Op.eqItems, Sem.run_bind, hp xs hi.1, hp ys hi.2, Result.andThen_ok, run_equalIn_int W d e .u64 .u64 _ _ hu, List.all_cons]
    cases hq : (xs.getD i 0 == ys.getD i 0) with
    | true => simp [ih]
    | false => simp
set_option maxRecDepth 100000 in
theorem eq5_run (a b : Fh) (ia : i64 a.f0) (ib : i64 b.f0) (W : World) : (Op.equalIn 10000 190 (.agg #[.int .u64 (IntKind.u64.wrap a.f0), .int .u64 a.f1, .int .u64 a.f2, .int .u64 a.f3, .int .u64 a.f4]) (.agg #[.int .u64 (IntKind.u64.wrap b.f0), .int .u64 b.f1, .int .u64 b.f2, .int .u64 b.f3, .int .u64 b.f4])).run Try.prog W = .ok (decide (sameNumsF a b)) W := by
  have hie : (Try.prog.info? 62).isSome = true := by kernel_rfl
  obtain ⟨i0, hi⟩ := Option.isSome_iff_exists.1 hie
  have hc : Try.prog.cellsOf 62 = 1 := by kernel_rfl
  rw [run_equalIn_array W 9999 _ _ Try.underlying190 hi, hc]
  have := run_eqItems_one (P := Try.prog) 9998 62 Try.underlying62 hc [IntKind.u64.wrap a.f0, a.f1, a.f2, a.f3, a.f4] [IntKind.u64.wrap b.f0, b.f1, b.f2, b.f3, b.f4] W (List.range 5) (by intro i hi; rw [List.mem_range] at hi; exact ⟨hi, hi⟩)
  refine this.trans ?_
  congr 1
  rw [Bool.eq_iff_iff, decide_eq_true_eq]
  rw [show List.range 5 = [0, 1, 2, 3, 4] from rfl]
  simp only [List.all_cons, List.all_nil, Bool.and_true, Bool.and_eq_true, beq_iff_eq, List.getD_cons_zero, List.getD_cons_succ]
  unfold sameNumsF
  constructor
  · rintro ⟨h0, h1, h2, h3, h4⟩; exact ⟨wrapU_inj ia ib h0, h1, h2, h3, h4⟩
  · rintro ⟨h0, h1, h2, h3, h4⟩; exact ⟨by rw [h0], h1, h2, h3, h4⟩
theorem numbersF_c (h : Fh) (w : World) (v : Value) (hv : GI w v h) : Calls Try.prog 160 #[v] w fun e w' => e = .returned (.agg #[.int .u64 (IntKind.u64.wrap h.f0), .int .u64 h.f1, .int .u64 h.f2, .int .u64 h.f3, .int .u64 h.f4]) ∧ Below w.heap.size w w' := by
  have hud := Try.underlying79
  have hut := Try.underlying190
  obtain ⟨A5, c5, A6, c6, A7, c7, A8, c8, e, -⟩ := hv.open_
  subst e
  have X := Aside0.mk ((Blk.new w #[.int .i64 h.f0, .int .u64 h.f1, .int .u64 h.f2, .int .u64 h.f3, .int .u64 h.f4, .slice A5 h.f5.length c5, .slice A6 h.f6.length c6, .slice A7 h.f7.length c7, .slice A8 h.f8.length c8] 79).alloc (.cells #[.int .u64 0, .int .u64 0, .int .u64 0, .int .u64 0, .int .u64 0] 190))
  have hx := fun i => X.out.cell i
  clear hv
  go_enter Try.func160, Try.ntmps160
  go_wp2
  refine bodyPost_ret (results_cell_row rfl _ _ (w.heap.size + 1) 190 #[.int .u64 (IntKind.u64.wrap h.f0), .int .u64 h.f1, .int .u64 h.f2, .int .u64 h.f3, .int .u64 h.f4] (0, 0) _ rfl (Blk.at1 (w := w) (.cells #[.int .i64 h.f0, .int .u64 h.f1, .int .u64 h.f2, .int .u64 h.f3, .int .u64 h.f4, .slice A5 h.f5.length c5, .slice A6 h.f6.length c6, .slice A7 h.f7.length c7, .slice A8 h.f8.length c8] 79) #[.int .u64 (IntKind.u64.wrap h.f0), .int .u64 h.f1, .int .u64 h.f2, .int .u64 h.f3, .int .u64 h.f4] 190) Try.underlying190 rfl (by kernel_rfl)) rfl ?_
  exact ⟨rfl, below_alloc (below_alloc (Below.refl _ _) _) _⟩
theorem equalPu_c (a b : List Pu) (hm : a.length < 17592186044416) (w : World) (u v : Value) (hu : SI kPu w u a) (hv : SI kPu w v b) : Calls Try.prog 161 #[u, v] w fun e w' => e = .returned (.bool (decide (a = b))) ∧ Below w.heap.size w w' := by
  obtain ⟨A, c, rfl, hc, hr⟩ := hu
  obtain ⟨B, d, rfl, hd, hs⟩ := hv
  exact (pairs_Equal_uint64.calls (a.length + 1) A c a B d b _ w hr hc hs hd (equalPu_eq a b hm _ (by omega))).mono fun e w1 h => ⟨h.1, h.2.below⟩
set_option maxHeartbeats 32000000 in
set_option maxRecDepth 100000 in
theorem fequal_c (a b : Fh) (hwa : wfF a) (hwb : wfF b) (w : World) (u v : Value) (hu : GI w u a) (hv : GI w v b) : Calls Try.prog 103 #[u, v] w fun e w' =>
    e = .returned (.bool (equalF a b)) ∧ Below w.heap.size w w' := by
  have hud := Try.underlying79
  have hut := Try.underlying190
  have ia := hwa.1
  have ib := hwb.1
  have oa := fopen_c a hwa
  have ob := fopen_c b hwb
  have na := numbersF_c a
  have nb := numbersF_c b
  have ra := openF_row hwa
  have rb := openF_row hwb
  have wp := withoutU_c (openF a).1 (by have := ra.1.len; omega)
  have wn := withoutU_c (openF a).2.1 (by have := ra.2.len; omega)
  have wq := withoutU_c (openF b).1 (by have := rb.1.len; omega)
  have wm := withoutU_c (openF b).2.1 (by have := rb.2.len; omega)
  have ep := equalPu_c (some0U (openF a).1) (some0U (openF b).1) (by have := ra.1.len; have := List.length_filter_le (fun x : Pu => !(x.f1 == 0)) (openF a).1; unfold some0U; omega)
  have en := equalPu_c (some0U (openF a).2.1) (some0U (openF b).2.1) (by have := ra.2.len; have := List.length_filter_le (fun x : Pu => !(x.f1 == 0)) (openF a).2.1; unfold some0U; omega)
  clear hwa hwb ra rb
  obtain ⟨r, hr⟩ : ∃ r, r = equalF a b := ⟨_, rfl⟩
  rw [← hr]
  unfold equalF checkF at hr
  generalize decide (some0U (openF a).1 = some0U (openF b).1) = b1 at *
  generalize decide (some0U (openF a).2.1 = some0U (openF b).2.1) = b2 at *
  generalize some0U (openF a).1 = sp at *
  generalize some0U (openF a).2.1 = sn at *
  generalize some0U (openF b).1 = sq at *
  generalize some0U (openF b).2.1 = sm at *
  generalize openF a = o1 at *
  generalize openF b = o2 at *
  obtain ⟨p, n, ea⟩ := o1
  obtain ⟨q, m, eb⟩ := o2
  simp only at oa ob wp wn wq wm hr
  have HR := Aside0.mk hr
  have OA := Aside0.mk oa
  have OB := Aside0.mk ob
  have NA := Aside0.mk na
  have NB := Aside0.mk nb
  have WP := Aside0.mk wp
  have WN := Aside0.mk wn
  have WQ := Aside0.mk wq
  have WM := Aside0.mk wm
  have EP := Aside0.mk ep
  have EN := Aside0.mk en
  clear hr oa ob na nb wp wn wq wm ep en
  obtain ⟨A5a, c5a, A6a, c6a, A7a, c7a, A8a, c8a, e, -⟩ := hu.open_
  subst e
  obtain ⟨A5b, c5b, A6b, c6b, A7b, c7b, A8b, c8b, e, -⟩ := hv.open_
  subst e
  have B := Aside0.mk (below_alloc (below_alloc (Below.refl w.heap.size w) (.cells #[.int .i64 a.f0, .int .u64 a.f1, .int .u64 a.f2, .int .u64 a.f3, .int .u64 a.f4, .slice A5a a.f5.length c5a, .slice A6a a.f6.length c6a, .slice A7a a.f7.length c7a, .slice A8a a.f8.length c8a] 79)) (.cells #[.int .i64 b.f0, .int .u64 b.f1, .int .u64 b.f2, .int .u64 b.f3, .int .u64 b.f4, .slice A5b b.f5.length c5b, .slice A6b b.f6.length c6b, .slice A7b b.f7.length c7b, .slice A8b b.f8.length c8b] 79))
  have X := Aside0.mk ((Blk.new w #[.int .i64 a.f0, .int .u64 a.f1, .int .u64 a.f2, .int .u64 a.f3, .int .u64 a.f4, .slice A5a a.f5.length c5a, .slice A6a a.f6.length c6a, .slice A7a a.f7.length c7a, .slice A8a a.f8.length c8a] 79).alloc (.cells #[.int .i64 b.f0, .int .u64 b.f1, .int .u64 b.f2, .int .u64 b.f3, .int .u64 b.f4, .slice A5b b.f5.length c5b, .slice A6b b.f6.length c6b, .slice A7b b.f7.length c7b, .slice A8b b.f8.length c8b] 79))
  have Y := Aside0.mk (Blk.at1 (w := w) (.cells #[.int .i64 a.f0, .int .u64 a.f1, .int .u64 a.f2, .int .u64 a.f3, .int .u64 a.f4, .slice A5a a.f5.length c5a, .slice A6a a.f6.length c6a, .slice A7a a.f7.length c7a, .slice A8a a.f8.length c8a] 79) #[.int .i64 b.f0, .int .u64 b.f1, .int .u64 b.f2, .int .u64 b.f3, .int .u64 b.f4, .slice A5b b.f5.length c5b, .slice A6b b.f6.length c6b, .slice A7b b.f7.length c7b, .slice A8b b.f8.length c8b] 79)
  have hx := fun i => X.out.cell i
  have hy := fun i => Y.out.cell i
  have HA := Aside0.mk (hu.below B.out)
  have HC := Aside0.mk (hv.below B.out)
  clear hu hv
  by_cases c1 : ea = 0
  rotate_left
  · have hr : r = false := by rw [HR.out, decide_eq_false c1]; simp
    subst hr
    have d1 : (ea != 0) = true := bne_iff_ne.2 c1
    clear c1
    go_enter Try.func103, Try.ntmps103
    go_wp2_with (first | (go_at_call 159; (with_reducible refine (OA.out _ _ HA.out).mono ?_); rintro e W1 ⟨v0, v1, rfl, h0, h1, hb⟩; replace B := Aside0.mk (below_then B.out B.out.size hb); replace HA := Aside0.mk (HA.out.below hb); replace HC := Aside0.mk (HC.out.below hb); replace X := Aside0.mk (X.out.below hb); replace hx := fun i => X.out.cell i; replace Y := Aside0.mk (Y.out.below hb); replace hy := fun i => Y.out.cell i; have P := Aside0.mk h0; have N := Aside0.mk h1; clear h0 h1 hb) | (go_at_call 159; (with_reducible refine (OB.out _ _ HC.out).mono ?_); rintro e W2 ⟨v2, v3, rfl, h0, h1, hb⟩; replace B := Aside0.mk (below_then B.out B.out.size hb); replace HA := Aside0.mk (HA.out.below hb); replace HC := Aside0.mk (HC.out.below hb); replace P := Aside0.mk (P.out.below hb); replace N := Aside0.mk (N.out.below hb); replace X := Aside0.mk (X.out.below hb); replace hx := fun i => X.out.cell i; replace Y := Aside0.mk (Y.out.below hb); replace hy := fun i => Y.out.cell i; have Q := Aside0.mk h0; have M := Aside0.mk h1; clear h0 h1 hb))
    replace HA := Aside0.mk (HA.out.below (below_drew (Below.refl _ _)))
    replace HC := Aside0.mk (HC.out.below (below_drew (Below.refl _ _)))
    replace P := Aside0.mk (P.out.below (below_drew (Below.refl _ _)))
    replace N := Aside0.mk (N.out.below (below_drew (Below.refl _ _)))
    replace Q := Aside0.mk (Q.out.below (below_drew (Below.refl _ _)))
    replace M := Aside0.mk (M.out.below (below_drew (Below.refl _ _)))
    replace X := Aside0.mk (X.out.below (below_drew (Below.refl _ _)))
    replace Y := Aside0.mk (Y.out.below (below_drew (Below.refl _ _)))
    replace B := Aside0.mk (below_drew B.out)
    go_region
    all_goals go_wp2
    all_goals go_ret
    all_goals exact ⟨rfl, B.out⟩
  subst c1
  by_cases c2 : eb = 0
  rotate_left
  · have hr : r = false := by rw [HR.out, decide_eq_false c2]; simp
    subst hr
    have d1 : (eb != 0) = true := bne_iff_ne.2 c2
    clear c2
    go_enter Try.func103, Try.ntmps103
    go_wp2_with (first | (go_at_call 159; (with_reducible refine (OA.out _ _ HA.out).mono ?_); rintro e W1 ⟨v0, v1, rfl, h0, h1, hb⟩; replace B := Aside0.mk (below_then B.out B.out.size hb); replace HA := Aside0.mk (HA.out.below hb); replace HC := Aside0.mk (HC.out.below hb); replace X := Aside0.mk (X.out.below hb); replace hx := fun i => X.out.cell i; replace Y := Aside0.mk (Y.out.below hb); replace hy := fun i => Y.out.cell i; have P := Aside0.mk h0; have N := Aside0.mk h1; clear h0 h1 hb) | (go_at_call 159; (with_reducible refine (OB.out _ _ HC.out).mono ?_); rintro e W2 ⟨v2, v3, rfl, h0, h1, hb⟩; replace B := Aside0.mk (below_then B.out B.out.size hb); replace HA := Aside0.mk (HA.out.below hb); replace HC := Aside0.mk (HC.out.below hb); replace P := Aside0.mk (P.out.below hb); replace N := Aside0.mk (N.out.below hb); replace X := Aside0.mk (X.out.below hb); replace hx := fun i => X.out.cell i; replace Y := Aside0.mk (Y.out.below hb); replace hy := fun i => Y.out.cell i; have Q := Aside0.mk h0; have M := Aside0.mk h1; clear h0 h1 hb))
    replace HA := Aside0.mk (HA.out.below (below_drew (Below.refl _ _)))
    replace HC := Aside0.mk (HC.out.below (below_drew (Below.refl _ _)))
    replace P := Aside0.mk (P.out.below (below_drew (Below.refl _ _)))
    replace N := Aside0.mk (N.out.below (below_drew (Below.refl _ _)))
    replace Q := Aside0.mk (Q.out.below (below_drew (Below.refl _ _)))
    replace M := Aside0.mk (M.out.below (below_drew (Below.refl _ _)))
    replace X := Aside0.mk (X.out.below (below_drew (Below.refl _ _)))
    replace Y := Aside0.mk (Y.out.below (below_drew (Below.refl _ _)))
    replace B := Aside0.mk (below_drew B.out)
    go_region
    all_goals go_wp2
    all_goals go_ret
    all_goals exact ⟨rfl, B.out⟩
  subst c2
  have hq := eq5_run a b ia ib
  by_cases hs : sameNumsF a b
  rotate_left
  · have hr : r = false := by rw [HR.out, decide_eq_false hs]; simp
    subst hr
    rw [decide_eq_false hs] at hq
    clear hs
    go_enter Try.func103, Try.ntmps103
    go_wp2_with (first | (go_at_call 159; (with_reducible refine (OA.out _ _ HA.out).mono ?_); rintro e W1 ⟨v0, v1, rfl, h0, h1, hb⟩; replace B := Aside0.mk (below_then B.out B.out.size hb); replace HA := Aside0.mk (HA.out.below hb); replace HC := Aside0.mk (HC.out.below hb); replace X := Aside0.mk (X.out.below hb); replace hx := fun i => X.out.cell i; replace Y := Aside0.mk (Y.out.below hb); replace hy := fun i => Y.out.cell i; have P := Aside0.mk h0; have N := Aside0.mk h1; clear h0 h1 hb) | (go_at_call 159; (with_reducible refine (OB.out _ _ HC.out).mono ?_); rintro e W2 ⟨v2, v3, rfl, h0, h1, hb⟩; replace B := Aside0.mk (below_then B.out B.out.size hb); replace HA := Aside0.mk (HA.out.below hb); replace HC := Aside0.mk (HC.out.below hb); replace P := Aside0.mk (P.out.below hb); replace N := Aside0.mk (N.out.below hb); replace X := Aside0.mk (X.out.below hb); replace hx := fun i => X.out.cell i; replace Y := Aside0.mk (Y.out.below hb); replace hy := fun i => Y.out.cell i; have Q := Aside0.mk h0; have M := Aside0.mk h1; clear h0 h1 hb))
    replace HA := Aside0.mk (HA.out.below (below_drew (Below.refl _ _)))
    replace HC := Aside0.mk (HC.out.below (below_drew (Below.refl _ _)))
    replace P := Aside0.mk (P.out.below (below_drew (Below.refl _ _)))
    replace N := Aside0.mk (N.out.below (below_drew (Below.refl _ _)))
    replace Q := Aside0.mk (Q.out.below (below_drew (Below.refl _ _)))
    replace M := Aside0.mk (M.out.below (below_drew (Below.refl _ _)))
    replace X := Aside0.mk (X.out.below (below_drew (Below.refl _ _)))
    replace Y := Aside0.mk (Y.out.below (below_drew (Below.refl _ _)))
    replace B := Aside0.mk (below_drew B.out)
    go_region_held3 (fun W => (∀ i, W.cell? ⟨w.heap.size, i, none⟩ = (#[.int .i64 a.f0, .int .u64 a.f1, .int .u64 a.f2, .int .u64 a.f3, .int .u64 a.f4, .slice A5a a.f5.length c5a, .slice A6a a.f6.length c6a, .slice A7a a.f7.length c7a, .slice A8a a.f8.length c8a] : Array Value)[i]?) ∧ (∀ i, W.cell? ⟨w.heap.size + 1, i, none⟩ = (#[.int .i64 b.f0, .int .u64 b.f1, .int .u64 b.f2, .int .u64 b.f3, .int .u64 b.f4, .slice A5b b.f5.length c5b, .slice A6b b.f6.length c6b, .slice A7b b.f7.length c7b, .slice A8b b.f8.length c8b] : Array Value)[i]?)) (exact ⟨fun i => X.out.cell i, fun i => Y.out.cell i⟩) (first | (go_at_call 160; (with_reducible refine (NA.out _ _ HA.out).mono ?_); rintro e W3 ⟨rfl, hb⟩; replace B := Aside0.mk (below_then B.out B.out.size hb); replace HA := Aside0.mk (HA.out.below hb); replace HC := Aside0.mk (HC.out.below hb); replace P := Aside0.mk (P.out.below hb); replace N := Aside0.mk (N.out.below hb); replace Q := Aside0.mk (Q.out.below hb); replace M := Aside0.mk (M.out.below hb); replace X := Aside0.mk (X.out.below hb); replace hx := fun i => X.out.cell i; replace Y := Aside0.mk (Y.out.below hb); replace hy := fun i => Y.out.cell i; clear  hb) | (go_at_call 160; (with_reducible refine (NB.out _ _ HC.out).mono ?_); rintro e W4 ⟨rfl, hb⟩; replace B := Aside0.mk (below_then B.out B.out.size hb); replace HA := Aside0.mk (HA.out.below hb); replace HC := Aside0.mk (HC.out.below hb); replace P := Aside0.mk (P.out.below hb); replace N := Aside0.mk (N.out.below hb); replace Q := Aside0.mk (Q.out.below hb); replace M := Aside0.mk (M.out.below hb); replace X := Aside0.mk (X.out.below hb); replace hx := fun i => X.out.cell i; replace Y := Aside0.mk (Y.out.below hb); replace hy := fun i => Y.out.cell i; clear  hb))
    all_goals go_wp2
    all_goals go_ret
    all_goals exact ⟨rfl, B.out⟩
  have HS := Aside0.mk hs
  rw [decide_eq_true hs] at hq
  clear hs
  have hr : r = (b1 && b2) := by rw [HR.out, decide_eq_true HS.out]; simp
  cases b1 with
  | false =>
    rw [Bool.false_and] at hr
    subst hr
    go_enter Try.func103, Try.ntmps103
    go_wp2_with (first | (go_at_call 159; (with_reducible refine (OA.out _ _ HA.out).mono ?_); rintro e W1 ⟨v0, v1, rfl, h0, h1, hb⟩; replace B := Aside0.mk (below_then B.out B.out.size hb); replace HA := Aside0.mk (HA.out.below hb); replace HC := Aside0.mk (HC.out.below hb); replace X := Aside0.mk (X.out.below hb); replace hx := fun i => X.out.cell i; replace Y := Aside0.mk (Y.out.below hb); replace hy := fun i => Y.out.cell i; have P := Aside0.mk h0; have N := Aside0.mk h1; clear h0 h1 hb) | (go_at_call 159; (with_reducible refine (OB.out _ _ HC.out).mono ?_); rintro e W2 ⟨v2, v3, rfl, h0, h1, hb⟩; replace B := Aside0.mk (below_then B.out B.out.size hb); replace HA := Aside0.mk (HA.out.below hb); replace HC := Aside0.mk (HC.out.below hb); replace P := Aside0.mk (P.out.below hb); replace N := Aside0.mk (N.out.below hb); replace X := Aside0.mk (X.out.below hb); replace hx := fun i => X.out.cell i; replace Y := Aside0.mk (Y.out.below hb); replace hy := fun i => Y.out.cell i; have Q := Aside0.mk h0; have M := Aside0.mk h1; clear h0 h1 hb))
    replace HA := Aside0.mk (HA.out.below (below_drew (Below.refl _ _)))
    replace HC := Aside0.mk (HC.out.below (below_drew (Below.refl _ _)))
    replace P := Aside0.mk (P.out.below (below_drew (Below.refl _ _)))
    replace N := Aside0.mk (N.out.below (below_drew (Below.refl _ _)))
    replace Q := Aside0.mk (Q.out.below (below_drew (Below.refl _ _)))
    replace M := Aside0.mk (M.out.below (below_drew (Below.refl _ _)))
    replace X := Aside0.mk (X.out.below (below_drew (Below.refl _ _)))
    replace Y := Aside0.mk (Y.out.below (below_drew (Below.refl _ _)))
    replace B := Aside0.mk (below_drew B.out)
    go_region_held3 (fun W => (∀ i, W.cell? ⟨w.heap.size, i, none⟩ = (#[.int .i64 a.f0, .int .u64 a.f1, .int .u64 a.f2, .int .u64 a.f3, .int .u64 a.f4, .slice A5a a.f5.length c5a, .slice A6a a.f6.length c6a, .slice A7a a.f7.length c7a, .slice A8a a.f8.length c8a] : Array Value)[i]?) ∧ (∀ i, W.cell? ⟨w.heap.size + 1, i, none⟩ = (#[.int .i64 b.f0, .int .u64 b.f1, .int .u64 b.f2, .int .u64 b.f3, .int .u64 b.f4, .slice A5b b.f5.length c5b, .slice A6b b.f6.length c6b, .slice A7b b.f7.length c7b, .slice A8b b.f8.length c8b] : Array Value)[i]?)) (exact ⟨fun i => X.out.cell i, fun i => Y.out.cell i⟩) (first | (go_at_call 160; (with_reducible refine (NA.out _ _ HA.out).mono ?_); rintro e W3 ⟨rfl, hb⟩; replace B := Aside0.mk (below_then B.out B.out.size hb); replace HA := Aside0.mk (HA.out.below hb); replace HC := Aside0.mk (HC.out.below hb); replace P := Aside0.mk (P.out.below hb); replace N := Aside0.mk (N.out.below hb); replace Q := Aside0.mk (Q.out.below hb); replace M := Aside0.mk (M.out.below hb); replace X := Aside0.mk (X.out.below hb); replace hx := fun i => X.out.cell i; replace Y := Aside0.mk (Y.out.below hb); replace hy := fun i => Y.out.cell i; clear  hb) | (go_at_call 160; (with_reducible refine (NB.out _ _ HC.out).mono ?_); rintro e W4 ⟨rfl, hb⟩; replace B := Aside0.mk (below_then B.out B.out.size hb); replace HA := Aside0.mk (HA.out.below hb); replace HC := Aside0.mk (HC.out.below hb); replace P := Aside0.mk (P.out.below hb); replace N := Aside0.mk (N.out.below hb); replace Q := Aside0.mk (Q.out.below hb); replace M := Aside0.mk (M.out.below hb); replace X := Aside0.mk (X.out.below hb); replace hx := fun i => X.out.cell i; replace Y := Aside0.mk (Y.out.below hb); replace hy := fun i => Y.out.cell i; clear  hb))
    all_goals go_wp2_with (first | (go_at_call 162; (with_reducible refine (WP.out _ _ P.out).mono ?_); rintro e W5 ⟨x0, rfl, hs, hb⟩; replace B := Aside0.mk (below_then B.out B.out.size hb); replace HA := Aside0.mk (HA.out.below hb); replace HC := Aside0.mk (HC.out.below hb); replace P := Aside0.mk (P.out.below hb); replace N := Aside0.mk (N.out.below hb); replace Q := Aside0.mk (Q.out.below hb); replace M := Aside0.mk (M.out.below hb); replace X := Aside0.mk (X.out.below hb); replace hx := fun i => X.out.cell i; replace Y := Aside0.mk (Y.out.below hb); replace hy := fun i => Y.out.cell i; have S0 := Aside0.mk hs; clear hs hb) | (go_at_call 162; (with_reducible refine (WQ.out _ _ Q.out).mono ?_); rintro e W6 ⟨x1, rfl, hs, hb⟩; replace B := Aside0.mk (below_then B.out B.out.size hb); replace HA := Aside0.mk (HA.out.below hb); replace HC := Aside0.mk (HC.out.below hb); replace P := Aside0.mk (P.out.below hb); replace N := Aside0.mk (N.out.below hb); replace Q := Aside0.mk (Q.out.below hb); replace M := Aside0.mk (M.out.below hb); replace S0 := Aside0.mk (S0.out.below hb); replace X := Aside0.mk (X.out.below hb); replace hx := fun i => X.out.cell i; replace Y := Aside0.mk (Y.out.below hb); replace hy := fun i => Y.out.cell i; have S1 := Aside0.mk hs; clear hs hb) | (go_at_call 161; (with_reducible refine (EP.out _ _ _ S0.out S1.out).mono ?_); rintro e W7 ⟨rfl, hb⟩; replace B := Aside0.mk (below_then B.out B.out.size hb); replace HA := Aside0.mk (HA.out.below hb); replace HC := Aside0.mk (HC.out.below hb); replace P := Aside0.mk (P.out.below hb); replace N := Aside0.mk (N.out.below hb); replace Q := Aside0.mk (Q.out.below hb); replace M := Aside0.mk (M.out.below hb); replace S0 := Aside0.mk (S0.out.below hb); replace S1 := Aside0.mk (S1.out.below hb); replace X := Aside0.mk (X.out.below hb); replace hx := fun i => X.out.cell i; replace Y := Aside0.mk (Y.out.below hb); replace hy := fun i => Y.out.cell i; clear  hb))
    all_goals go_ret
    all_goals exact ⟨rfl, B.out⟩
  | true =>
    rw [Bool.true_and] at hr
    subst hr
    go_enter Try.func103, Try.ntmps103
    go_wp2_with (first | (go_at_call 159; (with_reducible refine (OA.out _ _ HA.out).mono ?_); rintro e W1 ⟨v0, v1, rfl, h0, h1, hb⟩; replace B := Aside0.mk (below_then B.out B.out.size hb); replace HA := Aside0.mk (HA.out.below hb); replace HC := Aside0.mk (HC.out.below hb); replace X := Aside0.mk (X.out.below hb); replace hx := fun i => X.out.cell i; replace Y := Aside0.mk (Y.out.below hb); replace hy := fun i => Y.out.cell i; have P := Aside0.mk h0; have N := Aside0.mk h1; clear h0 h1 hb) | (go_at_call 159; (with_reducible refine (OB.out _ _ HC.out).mono ?_); rintro e W2 ⟨v2, v3, rfl, h0, h1, hb⟩; replace B := Aside0.mk (below_then B.out B.out.size hb); replace HA := Aside0.mk (HA.out.below hb); replace HC := Aside0.mk (HC.out.below hb); replace P := Aside0.mk (P.out.below hb); replace N := Aside0.mk (N.out.below hb); replace X := Aside0.mk (X.out.below hb); replace hx := fun i => X.out.cell i; replace Y := Aside0.mk (Y.out.below hb); replace hy := fun i => Y.out.cell i; have Q := Aside0.mk h0; have M := Aside0.mk h1; clear h0 h1 hb))
    replace HA := Aside0.mk (HA.out.below (below_drew (Below.refl _ _)))
    replace HC := Aside0.mk (HC.out.below (below_drew (Below.refl _ _)))
    replace P := Aside0.mk (P.out.below (below_drew (Below.refl _ _)))
    replace N := Aside0.mk (N.out.below (below_drew (Below.refl _ _)))
    replace Q := Aside0.mk (Q.out.below (below_drew (Below.refl _ _)))
    replace M := Aside0.mk (M.out.below (below_drew (Below.refl _ _)))
    replace X := Aside0.mk (X.out.below (below_drew (Below.refl _ _)))
    replace Y := Aside0.mk (Y.out.below (below_drew (Below.refl _ _)))
    replace B := Aside0.mk (below_drew B.out)
    go_region_held3 (fun W => (∀ i, W.cell? ⟨w.heap.size, i, none⟩ = (#[.int .i64 a.f0, .int .u64 a.f1, .int .u64 a.f2, .int .u64 a.f3, .int .u64 a.f4, .slice A5a a.f5.length c5a, .slice A6a a.f6.length c6a, .slice A7a a.f7.length c7a, .slice A8a a.f8.length c8a] : Array Value)[i]?) ∧ (∀ i, W.cell? ⟨w.heap.size + 1, i, none⟩ = (#[.int .i64 b.f0, .int .u64 b.f1, .int .u64 b.f2, .int .u64 b.f3, .int .u64 b.f4, .slice A5b b.f5.length c5b, .slice A6b b.f6.length c6b, .slice A7b b.f7.length c7b, .slice A8b b.f8.length c8b] : Array Value)[i]?)) (exact ⟨fun i => X.out.cell i, fun i => Y.out.cell i⟩) (first | (go_at_call 160; (with_reducible refine (NA.out _ _ HA.out).mono ?_); rintro e W3 ⟨rfl, hb⟩; replace B := Aside0.mk (below_then B.out B.out.size hb); replace HA := Aside0.mk (HA.out.below hb); replace HC := Aside0.mk (HC.out.below hb); replace P := Aside0.mk (P.out.below hb); replace N := Aside0.mk (N.out.below hb); replace Q := Aside0.mk (Q.out.below hb); replace M := Aside0.mk (M.out.below hb); replace X := Aside0.mk (X.out.below hb); replace hx := fun i => X.out.cell i; replace Y := Aside0.mk (Y.out.below hb); replace hy := fun i => Y.out.cell i; clear  hb) | (go_at_call 160; (with_reducible refine (NB.out _ _ HC.out).mono ?_); rintro e W4 ⟨rfl, hb⟩; replace B := Aside0.mk (below_then B.out B.out.size hb); replace HA := Aside0.mk (HA.out.below hb); replace HC := Aside0.mk (HC.out.below hb); replace P := Aside0.mk (P.out.below hb); replace N := Aside0.mk (N.out.below hb); replace Q := Aside0.mk (Q.out.below hb); replace M := Aside0.mk (M.out.below hb); replace X := Aside0.mk (X.out.below hb); replace hx := fun i => X.out.cell i; replace Y := Aside0.mk (Y.out.below hb); replace hy := fun i => Y.out.cell i; clear  hb))
    all_goals go_wp2_with (first | (go_at_call 162; (with_reducible refine (WP.out _ _ P.out).mono ?_); rintro e W5 ⟨x0, rfl, hs, hb⟩; replace B := Aside0.mk (below_then B.out B.out.size hb); replace HA := Aside0.mk (HA.out.below hb); replace HC := Aside0.mk (HC.out.below hb); replace P := Aside0.mk (P.out.below hb); replace N := Aside0.mk (N.out.below hb); replace Q := Aside0.mk (Q.out.below hb); replace M := Aside0.mk (M.out.below hb); replace X := Aside0.mk (X.out.below hb); replace hx := fun i => X.out.cell i; replace Y := Aside0.mk (Y.out.below hb); replace hy := fun i => Y.out.cell i; have S0 := Aside0.mk hs; clear hs hb) | (go_at_call 162; (with_reducible refine (WQ.out _ _ Q.out).mono ?_); rintro e W6 ⟨x1, rfl, hs, hb⟩; replace B := Aside0.mk (below_then B.out B.out.size hb); replace HA := Aside0.mk (HA.out.below hb); replace HC := Aside0.mk (HC.out.below hb); replace P := Aside0.mk (P.out.below hb); replace N := Aside0.mk (N.out.below hb); replace Q := Aside0.mk (Q.out.below hb); replace M := Aside0.mk (M.out.below hb); replace S0 := Aside0.mk (S0.out.below hb); replace X := Aside0.mk (X.out.below hb); replace hx := fun i => X.out.cell i; replace Y := Aside0.mk (Y.out.below hb); replace hy := fun i => Y.out.cell i; have S1 := Aside0.mk hs; clear hs hb) | (go_at_call 161; (with_reducible refine (EP.out _ _ _ S0.out S1.out).mono ?_); rintro e W7 ⟨rfl, hb⟩; replace B := Aside0.mk (below_then B.out B.out.size hb); replace HA := Aside0.mk (HA.out.below hb); replace HC := Aside0.mk (HC.out.below hb); replace P := Aside0.mk (P.out.below hb); replace N := Aside0.mk (N.out.below hb); replace Q := Aside0.mk (Q.out.below hb); replace M := Aside0.mk (M.out.below hb); replace S0 := Aside0.mk (S0.out.below hb); replace S1 := Aside0.mk (S1.out.below hb); replace X := Aside0.mk (X.out.below hb); replace hx := fun i => X.out.cell i; replace Y := Aside0.mk (Y.out.below hb); replace hy := fun i => Y.out.cell i; clear  hb) | (go_at_call 162; (with_reducible refine (WN.out _ _ N.out).mono ?_); rintro e W8 ⟨x2, rfl, hs, hb⟩; replace B := Aside0.mk (below_then B.out B.out.size hb); replace HA := Aside0.mk (HA.out.below hb); replace HC := Aside0.mk (HC.out.below hb); replace P := Aside0.mk (P.out.below hb); replace N := Aside0.mk (N.out.below hb); replace Q := Aside0.mk (Q.out.below hb); replace M := Aside0.mk (M.out.below hb); replace S0 := Aside0.mk (S0.out.below hb); replace S1 := Aside0.mk (S1.out.below hb); replace X := Aside0.mk (X.out.below hb); replace hx := fun i => X.out.cell i; replace Y := Aside0.mk (Y.out.below hb); replace hy := fun i => Y.out.cell i; have S2 := Aside0.mk hs; clear hs hb) | (go_at_call 162; (with_reducible refine (WM.out _ _ M.out).mono ?_); rintro e W9 ⟨x3, rfl, hs, hb⟩; replace B := Aside0.mk (below_then B.out B.out.size hb); replace HA := Aside0.mk (HA.out.below hb); replace HC := Aside0.mk (HC.out.below hb); replace P := Aside0.mk (P.out.below hb); replace N := Aside0.mk (N.out.below hb); replace Q := Aside0.mk (Q.out.below hb); replace M := Aside0.mk (M.out.below hb); replace S0 := Aside0.mk (S0.out.below hb); replace S1 := Aside0.mk (S1.out.below hb); replace S2 := Aside0.mk (S2.out.below hb); replace X := Aside0.mk (X.out.below hb); replace hx := fun i => X.out.cell i; replace Y := Aside0.mk (Y.out.below hb); replace hy := fun i => Y.out.cell i; have S3 := Aside0.mk hs; clear hs hb) | (go_at_call 161; (with_reducible refine (EN.out _ _ _ S2.out S3.out).mono ?_); rintro e W10 ⟨rfl, hb⟩; replace B := Aside0.mk (below_then B.out B.out.size hb); replace HA := Aside0.mk (HA.out.below hb); replace HC := Aside0.mk (HC.out.below hb); replace P := Aside0.mk (P.out.below hb); replace N := Aside0.mk (N.out.below hb); replace Q := Aside0.mk (Q.out.below hb); replace M := Aside0.mk (M.out.below hb); replace S0 := Aside0.mk (S0.out.below hb); replace S1 := Aside0.mk (S1.out.below hb); replace S2 := Aside0.mk (S2.out.below hb); replace S3 := Aside0.mk (S3.out.below hb); replace X := Aside0.mk (X.out.below hb); replace hx := fun i => X.out.cell i; replace Y := Aside0.mk (Y.out.below hb); replace hy := fun i => Y.out.cell i; clear  hb))
    all_goals go_ret
    all_goals exact ⟨rfl, B.out⟩
end Go.Proofs.Ytacgeafjilipdaa.P
namespace Go.Proofs.Ytacgeafjilipdaa.P
open Go.RowKit Go.Shelf Go.Proofs.YtacgeafjilipdaaW.PrintWords Go.Proofs.YtacgeafjilipdaaW.PrintLast Go.Proofs.YtacgeafjilipdaaW.PrintMore
set_option linter.unusedVariables false
set_option linter.unusedSimpArgs false
set_option maxRecDepth 100000 in
set_option maxHeartbeats 4000000 in
theorem all1P_in (n : Nat) (hn : 1 ≤ n) (L n0 n1 Bn : Nat) (v : Value) (l : List S144) (k : Nat) (hck : span_Check.f k l = some 0) (hN : (placesAt 0 l).length ≤ 4611686018427387904) (J Jx : List (Int × Int) → World → Prop)
    (hJ : ∀ s W W', J s W → W.grownBy W' none → J s W')
    (hY : ∀ pre x W, J pre W → pre ++ [x] <+: numd (placesAt 0 l) → YieldAt Fence.wide (n - 1) Try.prog L #[.int .i64 x.1, .int .i64 x.2] W fun e W' =>
      (e = .returned (.bool true) ∧ J (pre ++ [x]) W' ∧ KeepR n0 n1 W W') ∨ (e = .returned (.bool false) ∧ Jx (pre ++ [x]) W'))
    (W : World) (hS : HoldsSp n0 n1 Bn v l W) (h0 : J [] W) :
    CallsIn Fence.wide n Try.prog 190 #[.func (.yield L) #[] #[], .pointer (some ⟨Bn, 0, none⟩)] W fun e W' => (∃ v, e = .returned v) ∧
      ((∃ ys, ys = numd (placesAt 0 l) ∧ J ys W') ∨ (∃ pre, pre <+: numd (placesAt 0 l) ∧ Jx pre W')) := by
  have hu := Try.underlying144
  have hf : Fence.wide.fn 130 := trivial
  obtain ⟨A, c, rfl, hlc, hC⟩ := Kd.R_reads hS.2.2.2
  have hcell : W.cell? ⟨Bn, 0, none⟩ = some (.slice A l.length c) := by
    have := blk_cell (i := 0) hS.2.2.1
    rw [this]; rfl
  have hm : l.length ≤ 9223372036854775807 := hC.2.1
  have HCk := Aside0.mk (span_Check.calls k A c l 0 W hC hlc hck)
  have HJ := Aside0.mk hJ
  have HY := Aside0.mk hY
  have HS := Aside0.mk hS
  have H0 := Aside0.mk h0
  clear hJ hY hS h0 hC
  refine callsIn_of_wp Try.func190 rfl trivial ?_ rfl
  simp only [Try.ntmps190, List.size_toArray, List.length_cons, List.length_nil, Nat.reduceAdd, Nat.reduceSub, Array.replicate_succ, Array.replicate_zero, List.push_toArray, List.append_toArray, List.nil_append, List.cons_append]
  gi_wp2_with (gi_at_call 130; refine (callsIn_wide.2 HCk.out).mono ?_; rintro e w1 ⟨rfl, hb⟩; have HB := Aside0.mk hb; have hcell1 := (hb.cell (World.block_lt_of_cell? W _ hcell)).trans hcell; clear hb hcell)
  have HS1 := Aside0.mk (HS.out.keep (KeepR.of_below HB.out HS.out.2.1))
  have H1 := Aside0.mk (HJ.out _ _ _ H0.out (grown_of_below HB.out none))
  clear HS H0 HB HCk
  gi_loopw [3, 4, 12] (fun s3 s4 s12 wr => ∃ kk : Nat, kk ≤ l.length ∧ s12 = .int .i64 kk ∧ s3 = .int .i64 (endAt 0 (l.take kk)) ∧ s4 = .int .i64 ((placesAt 0 (l.take kk)).length : Int) ∧ Aside0 (HoldsSp n0 n1 Bn (.slice A l.length c) l wr) ∧ Aside0 (J (numd (placesAt 0 (l.take kk))) wr)) (fun _ _ s12 _ => l.length - (intOf s12).toNat)
  case atStart => exact ⟨0, Nat.zero_le _, rfl, by simp [endAt], by simp [placesAt], HS1, by simpa [placesAt, numd] using H1⟩
  case round =>
    obtain ⟨kk, hkk, rfl, rfl, rfl, HS, HJ0⟩ := hrel
    clear HS1 H1
    by_cases hlt : kk < l.length
    · have hlti : (kk : Int) < (l.length : Int) := by omega
      have hC := (Kd.R_reads' HS.out.2.2.2).2.2
      obtain ⟨ad, e1, hx0, hx1⟩ := at_T144 hC kk (by omega) (by omega)
      cases e1
      clear hC
      have hrd : rd_T144 l (kk : Int) = l[kk] := by unfold rd_T144; simp [List.getD, hlt]
      rw [hrd, Int.toNat_natCast] at hx0 hx1
      have HT := Aside0.mk (List.take_succ_eq_append_getElem hlt)
      generalize l[kk] = y at hx0 hx1 HT hrd
      clear hrd
      obtain ⟨wo, rfl⟩ : ∃ wo : World, wo = wr := ⟨_, rfl⟩
      have hple : (placesAt 0 (l.take kk)).length ≤ 4611686018427387904 := Nat.le_trans (placesAt_take_le l kk) hN
      have HP1 := Aside0.mk (placesAt_snoc y (l.take kk) 0)
      have HE1 := Aside0.mk (endAt_snoc y (l.take kk) 0)
      have HLE : Aside0 ((placesAt 0 (l.take kk)).length + y.f1.toNat ≤ (placesAt 0 l).length ∧ placesAt 0 (l.take kk) ++ runAt (wrap64 (endAt 0 (l.take kk) + y.f0)) y.f1.toNat <+: placesAt 0 l) := by
        have h := placesAt_prefix (l.take (kk + 1)) (l.drop (kk + 1))
        rw [List.take_append_drop, HT.out, HP1.out] at h
        refine ⟨⟨?_, h⟩⟩
        have := h.length_le
        rwa [List.length_append, runAt_length] at this
      rw [← HT.out] at HP1 HE1
      clear HT
      generalize endAt 0 (l.take kk) = at0 at HP1 HE1 HLE
      generalize placesAt 0 (l.take kk) = ps at HP1 HLE HJ0 hple
      have HS0 := Aside0.mk (HS.out.keep (KeepR.of_below (below_alloc (Below.refl _ wo) (.cells #[.int .i64 y.f0, .int .i64 y.f1] 144)) HS.out.2.1))
      have HJ1 := Aside0.mk (HJ.out _ _ _ HJ0.out (grown_of_below (below_alloc (Below.refl _ wo) (.cells #[.int .i64 y.f0, .int .i64 y.f1] 144)) none))
      clear HS HJ0
      gi_wp2
      gi_loopw [3, 4, 22] (fun s3 s4 s22 wr => ∃ i : Nat, i ≤ y.f1.toNat ∧ s22 = .int .i64 i ∧ s3 = .int .i64 (runEnd (wrap64 (at0 + y.f0)) i) ∧ s4 = .int .i64 ((ps.length : Int) + (i : Int)) ∧ Aside0 (HoldsSp n0 n1 Bn (.slice (some ad) l.length c) l wr) ∧ Aside0 (J (numd (ps ++ runAt (wrap64 (at0 + y.f0)) i)) wr)) (fun _ _ s22 _ => (y.f1 - intOf s22).toNat)
      case atStart => exact ⟨0, Nat.zero_le _, rfl, rfl, by simp, HS0, by simpa [runAt] using HJ1⟩
      case round =>
        obtain ⟨i, hi, rfl, rfl, rfl, HS, HJ0⟩ := hrel
        clear HS0 HJ1
        by_cases hli : (i : Int) < y.f1
        · have hlen : (ps ++ runAt (wrap64 (at0 + y.f0)) i).length = ps.length + i := by rw [List.length_append, runAt_length]
          have hlt2 : ps.length + i < (placesAt 0 l).length := by have := HLE.out.1; omega
          have hnx : (ps.length : Int) + (i : Int) + 1 ≤ 4611686018427387904 := by omega
          have hn0 : 0 ≤ (ps.length : Int) + (i : Int) := by omega
          have hy1 : y.f1 ≤ 4611686018427387904 := by have := HLE.out.1; omega
          have HRUN : Aside0 (numd (ps ++ runAt (wrap64 (at0 + y.f0)) i) ++ [((ps.length : Int) + (i : Int), runEnd (wrap64 (at0 + y.f0)) i)] <+: numd (placesAt 0 l)) := by
            refine ⟨?_⟩
            have h1 := numd_prefix HLE.out.2
            have hi1 : i + 1 ≤ y.f1.toNat := by omega
            have h2 : ps ++ runAt (wrap64 (at0 + y.f0)) (i + 1) <+: ps ++ runAt (wrap64 (at0 + y.f0)) y.f1.toNat := by
              refine (List.prefix_append_right_inj _).2 ?_
              have : ∀ (m j : Nat) (a : Int), j ≤ m → runAt a j <+: runAt a m := by
                intro m
                induction m with
                | zero => intro j a hj; obtain rfl : j = 0 := by omega
                          exact List.prefix_rfl
                | succ m ih =>
                  intro j a hj
                  cases j with
                  | zero => exact List.nil_prefix
                  | succ j => exact (List.cons_prefix_cons).2 ⟨rfl, ih j _ (by omega)⟩
              exact this _ _ _ hi1
            have h3 := (numd_prefix h2).trans h1
            rw [runAt_snoc, ← List.append_assoc, numd_snoc, hlen] at h3
            exact h3
          obtain ⟨fn, tmps, assign, body, hy, hR⟩ := HY.out (numd (ps ++ runAt (wrap64 (at0 + y.f0)) i)) ((ps.length : Int) + (i : Int), runEnd (wrap64 (at0 + y.f0)) i) wr HJ0.out HRUN.out
          dsimp only at hy
          have HA := Aside0.mk (runAt_snoc i (wrap64 (at0 + y.f0)))
          have HE := Aside0.mk (runEnd_snoc i (wrap64 (at0 + y.f0)))
          have HNS := Aside0.mk (numd_snoc (ps ++ runAt (wrap64 (at0 + y.f0)) i) (runEnd (wrap64 (at0 + y.f0)) i))
          have HL := Aside0.mk hlen
          have HRR := Aside0.mk hR
          clear hR hlen HJ0 HRUN
          gi_wp2
          refine HRR.out.mono ?_
          rintro e W3 (⟨rfl, hJ3, hk3⟩ | ⟨rfl, hJx3⟩)
          · have HJ3 := Aside0.mk hJ3
            have HS3 := Aside0.mk (HS.out.keep hk3)
            clear hJ3 hk3
            gi_wp2
            go_roundw
            case rel => 
              refine ⟨i + 1, by omega, by go_num, by rw [HE.out], by go_num, HS3, ⟨?_⟩⟩
              rw [HA.out, ← List.append_assoc, HNS.out, HL.out]
              exact HJ3.out
            case measure => simp [intOf]; omega
          · have HX := Aside0.mk hJx3
            clear hJx3
            gi_wp2
            refine bodyPost_ret (results_none rfl _ _ _) rfl ?_
            refine ⟨⟨_, rfl⟩, .inr ⟨_, ?_, HX.out⟩⟩
            have h1 := numd_prefix HLE.out.2
            have hi1 : i + 1 ≤ y.f1.toNat := by omega
            have h2 : ps ++ runAt (wrap64 (at0 + y.f0)) (i + 1) <+: ps ++ runAt (wrap64 (at0 + y.f0)) y.f1.toNat := by
              refine (List.prefix_append_right_inj _).2 ?_
              have : ∀ (m j : Nat) (a : Int), j ≤ m → runAt a j <+: runAt a m := by
                intro m
                induction m with
                | zero => intro j a hj; obtain rfl : j = 0 := by omega
                          exact List.prefix_rfl
                | succ m ih =>
                  intro j a hj
                  cases j with
                  | zero => exact List.nil_prefix
                  | succ j => exact (List.cons_prefix_cons).2 ⟨rfl, ih j _ (by omega)⟩
              exact this _ _ _ hi1
            have h3 := (numd_prefix h2).trans h1
            rw [HA.out, ← List.append_assoc, HNS.out, HL.out] at h3
            exact h3
        · have hie : i = y.f1.toNat := by omega
          have hli' : ¬ (i : Int) < y.f1 := hli
          gi_wp2
          go_roundw
          case rel =>
            refine ⟨kk + 1, by omega, by go_num, ?_, ?_, HS, ?_⟩
            · rw [HE1.out, hie]
            · rw [HP1.out, List.length_append, runAt_length, hie]; go_num
            · rw [HP1.out, ← hie]; exact HJ0
          case measure => simp [intOf]; omega
    · have hlti : ¬ (kk : Int) < (l.length : Int) := by omega
      have hk : l.take kk = l := List.take_of_length_le (by omega)
      have HK := Aside0.mk hk
      clear hk
      gi_wp2
      go_end0
      have hj := HJ0.out
      rw [HK.out] at hj
      exact ⟨⟨_, rfl⟩, .inl hj⟩
def atN (D : List Int) (k : Nat) : Int × Int := ((k : Int), D.getD k 0)
theorem numd_getElem? (D : List Int) (k : Nat) (h : k < D.length) : (numd D)[k]? = some (atN D k) := by
  unfold numd atN
  rw [List.getElem?_map, List.getElem?_zipIdx, List.getElem?_eq_getElem h]
  simp [List.getD, h]
theorem prefix_at {D : List Int} {pre : List (Int × Int)} {x : Int × Int} (h : pre ++ [x] <+: numd D) : pre.length < D.length ∧ x = atN D pre.length := by
  have hl := h.length_le
  rw [List.length_append, numd_length] at hl
  simp only [List.length_cons, List.length_nil] at hl
  refine ⟨by omega, ?_⟩
  obtain ⟨t, ht⟩ := h
  have h1 := numd_getElem? D pre.length (by omega)
  rw [← ht, List.append_assoc, List.getElem?_append_right (Nat.le_refl _)] at h1
  simp at h1
  exact h1
theorem all_stopsN (n : Nat) (hn : 1 ≤ n) (n0 Bn : Nat) (v : Value) (l : List S144) (k : Nat) (hck : span_Check.f k l = some 0) (hN : (placesAt 0 l).length ≤ 4611686018427387904) (w : World) (hS : HoldsSp n0 w.heap.size Bn v l w) :
    SeqStopsK Fence.wide n Try.prog 190 #[.pointer (some ⟨Bn, 0, none⟩)] (fun x : Fin (placesAt 0 l).length => #[Value.int .i64 (x.val : Int), Value.int .i64 ((placesAt 0 l).getD x.val 0)]) (KeepR n0 w.heap.size) (fun ys => ys.map (·.val) = List.range (placesAt 0 l).length) (fun _ => True) (placesAt 0 l).length w := by
  intro L J Jx W hW hJ hJx hY h0
  generalize hD : placesAt 0 l = D at *
  have hlen : ∀ xs : List (Fin D.length), (xs.map (fun x => atN D x.val)).length = xs.length := fun xs => List.length_map ..
  have main := all1P_in n hn L n0 w.heap.size Bn v l k hck (by rw [hD]; exact hN) (fun pre W => ∃ xs : List (Fin D.length), pre = xs.map (fun x => atN D x.val) ∧ J xs W) (fun pre W => ∃ xs : List (Fin D.length), pre = xs.map (fun x => atN D x.val) ∧ Jx xs W)
    (fun s A B ⟨xs, e, h⟩ hg => ⟨xs, e, hJ xs A B none h hg (fun r e => by cases e)⟩)
    (by
      rintro pre x W1 ⟨xs, rfl, h⟩ hp
      rw [hD] at hp
      obtain ⟨h1, h2⟩ := prefix_at hp
      rw [hlen] at h1 h2
      subst h2
      have hy := hY xs ⟨xs.length, h1⟩ W1 h h1
      obtain ⟨fn, tmps, assign, body, hyy, hR⟩ := hy
      refine ⟨fn, tmps, assign, body, hyy, hR.mono ?_⟩
      rintro e W' (⟨e1, e2, e3⟩ | ⟨e1, e2⟩)
      · exact .inl ⟨e1, ⟨xs ++ [⟨xs.length, h1⟩], by simp [List.map_append], e2⟩, e3⟩
      · exact .inr ⟨e1, ⟨xs ++ [⟨xs.length, h1⟩], by simp [List.map_append], e2⟩⟩)
    W (hS.keep (KeepR.of_below hW (Nat.le_refl _))) ⟨[], rfl, h0⟩
  refine main.mono ?_
  rintro e W' ⟨hv, ⟨ys, rfl, xs, e1, hj⟩ | ⟨pre, -, xs, -, hj⟩⟩
  · refine ⟨hv, .inl ⟨xs, ?_, hj⟩⟩
    rw [hD] at e1
    have hl := congrArg List.length e1
    rw [numd_length, hlen] at hl
    refine List.ext_getElem (by rw [List.length_map, List.length_range]; exact hl.symm) ?_
    intro i h1 h2
    rw [List.length_map] at h1
    have h3 := numd_getElem? D i (by omega)
    rw [e1, List.getElem?_map, List.getElem?_eq_getElem h1] at h3
    have h4 := Option.some.inj h3
    have h5 := congrArg Prod.fst h4
    simp only [atN] at h5
    rw [List.getElem_map, List.getElem_range]
    omega
  · exact ⟨hv, .inr ⟨xs, trivial, hj⟩⟩
end Go.Proofs.Ytacgeafjilipdaa.P
namespace Go.Proofs.Ytacgeafjilipdaa.P
open Go
set_option linter.unusedVariables false
set_option linter.unusedSimpArgs false
theorem count_set (l : Array Bool) (i : Nat) (h : l.getD i true = false) : (l.setIfInBounds i true).toList.count false + 1 = l.toList.count false := by
  have hlt : i < l.size := by
    rcases Nat.lt_or_ge i l.size with h1 | h1
    · exact h1
    · rw [Array.getD_eq_getD_getElem?, Array.getElem?_eq_none h1] at h; cases h
  have hv : l.toList[i]'(by simpa using hlt) = false := by
    rw [Array.getD_eq_getD_getElem?, Array.getElem?_eq_getElem hlt] at h; simpa using h
  rw [Array.toList_setIfInBounds]
  have key : ∀ (xs : List Bool) (i : Nat) (hi : i < xs.length), xs[i] = false → (xs.set i true).count false + 1 = xs.count false := by
    intro xs
    induction xs with
    | nil => intro i hi; simp at hi
    | cons x xs ih =>
      intro i hi hx
      cases i with
      | zero => simp only [List.getElem_cons_zero] at hx; subst hx; simp
      | succ i =>
        simp only [List.getElem_cons_succ] at hx
        have := ih i (by simpa using hi) hx
        simp only [List.set_cons_succ, List.count_cons]
        omega
  exact key _ _ (by simpa using hlt) hv
theorem wpAnyIn_held {F : Fence} {n : Nat} {P : Program} {md : Region.Mode} {ops : Array Oper} {Q : Exit → Act → World → Prop} (St : Array Bool → Act → World → Prop)
    (hstep : ∀ (i : Nat) (listed : Array Bool) (a : Act) (w : World), St listed a w → listed.getD i true = false → (∀ o, ops[i]? = some o → ∀ e ∈ o.after, Region.binds md e = true → listed.getD e.on false = true) → i < ops.size →
      wpOpIn F n P ops Q i (fun a' w' => St (listed.setIfInBounds i true) a' w') a w)
    (hdone : ∀ (listed : Array Bool) (a : Act) (w : World), St listed a w → Region.ready md ops listed = [] → Q .normal a w) :
    ∀ (fuel : Nat) (listed : Array Bool) (a : Act) (w : World), listed.toList.count false ≤ fuel → St listed a w → wpAnyIn F n P md ops Q fuel listed a w := by
  intro fuel
  induction fuel with
  | zero =>
    intro listed a w hc h
    have hr : Region.ready md ops listed = [] := by
      rw [List.eq_nil_iff_forall_not_mem]
      intro i hi
      have := count_set listed i (mem_ready.1 hi).1
      omega
    exact ⟨hr, hdone _ _ _ h hr⟩
  | succ fuel ih =>
    intro listed a w hc h
    refine ⟨hdone _ _ _ h, fun i hi => ?_⟩
    obtain ⟨h1, o, ho, h2⟩ := mem_ready.1 hi
    have hcs := count_set listed i h1
    exact wpOpIn_mono (fun a' w' h' => ih _ a' w' (by omega) h') (hstep i listed a w h h1 (fun o' ho' => by rw [ho] at ho'; cases ho'; exact h2) ((Array.getElem?_eq_some_iff.1 ho).1))
structure HeldAt (a0 : Act) (s0 nv : Nat) (val : Nat → Value) (Wf : Array Bool → World) (listed : Array Bool) (a : Act) (w : World) : Prop where
  sz : a.tmps.size = a0.tmps.size
  fix : ∀ d, d < s0 → a.eval (.tmp d) = a0.eval (.tmp d)
  got : ∀ i, i < nv → listed.getD i false = true → a.eval (.tmp (s0 + i)) = val i
  wd : w = Wf listed
theorem getD_set_of (l : Array Bool) (i j : Nat) (h : (l.setIfInBounds i true).getD j false = true) : j = i ∨ l.getD j false = true := by
  by_cases e : j = i
  · exact .inl e
  · refine .inr ?_
    rw [Array.getD_eq_getD_getElem?, Array.getElem?_setIfInBounds_ne (fun x => e x.symm)] at h
    rwa [Array.getD_eq_getD_getElem?]
theorem HeldAt.put {a0 : Act} {s0 nv : Nat} {val : Nat → Value} {Wf : Array Bool → World} {listed : Array Bool} {a : Act} {w : World} (h : HeldAt a0 s0 nv val Wf listed a w) (i : Nat) (hi : i < nv) (hs : s0 + nv ≤ a0.tmps.size)
    (hw : Wf (listed.setIfInBounds i true) = Wf listed) : HeldAt a0 s0 nv val Wf (listed.setIfInBounds i true) (a.put (some (s0 + i)) (val i)) w := by
  have hlt : s0 + i < a.tmps.size := by rw [h.sz]; omega
  refine ⟨by simpa [Act.put] using h.sz, fun d hd => ?_, fun j hj hl => ?_, by rw [hw]; exact h.wd⟩
  · rw [Act.eval_put_ne _ _ _ _ (by omega)]; exact h.fix d hd
  · by_cases e : j = i
    · subst e; exact Act.eval_put_same _ _ _ hlt
    · rw [Act.eval_put_ne _ _ _ _ (by omega)]
      rcases getD_set_of _ _ _ hl with h1 | h1
      · exact absurd h1 e
      · exact h.got j hj h1
theorem HeldAt.put_ {a0 : Act} {s0 nv : Nat} {val : Nat → Value} {Wf : Array Bool → World} {listed : Array Bool} {a : Act} {w : World} (h : HeldAt a0 s0 nv val Wf listed a w) (i : Nat) (hi : i < nv) (hs : s0 + nv ≤ a0.tmps.size)
    (hw : Wf (listed.setIfInBounds i true) = Wf listed) {v : Value} (hv : v = val i) : HeldAt a0 s0 nv val Wf (listed.setIfInBounds i true) (a.put (some (s0 + i)) v) w := hv ▸ h.put i hi hs hw
theorem HeldAt.store {a0 : Act} {s0 nv : Nat} {val : Nat → Value} {Wf : Array Bool → World} {listed : Array Bool} {a : Act} {w w' : World} (h : HeldAt a0 s0 nv val Wf listed a w) (i : Nat) (hi : nv ≤ i) (hw : w' = Wf (listed.setIfInBounds i true)) :
    HeldAt a0 s0 nv val Wf (listed.setIfInBounds i true) (a.put none undef) w' := by
  refine ⟨h.sz, h.fix, fun j hj hl => ?_, hw⟩
  rcases getD_set_of _ _ _ hl with h1 | h1
  · omega
  · exact h.got j hj h1
theorem getD_set_self (l : Array Bool) (i : Nat) (d : Bool) (h : i < l.size) : (l.setIfInBounds i true).getD i d = true := by
  rw [Array.getD_eq_getD_getElem?, Array.getElem?_setIfInBounds_self_of_lt h]; rfl
theorem getD_set_mono (l : Array Bool) (i j : Nat) (h : l.getD j false = true) : (l.setIfInBounds i true).getD j false = true := by
  have hj : j < l.size := by
    rcases Nat.lt_or_ge j l.size with h1 | h1
    · exact h1
    · rw [Array.getD_eq_getD_getElem?, Array.getElem?_eq_none h1] at h; cases h
  by_cases e : i = j
  · subst e; exact getD_set_self l i false hj
  · rw [Array.getD_eq_getD_getElem?, Array.getElem?_setIfInBounds_ne e, ← Array.getD_eq_getD_getElem?]; exact h
theorem getD_set_ne' (l : Array Bool) (i j : Nat) (d : Bool) (e : i ≠ j) : (l.setIfInBounds i true).getD j d = l.getD j d := by
  rw [Array.getD_eq_getD_getElem?, Array.getElem?_setIfInBounds_ne e, ← Array.getD_eq_getD_getElem?]
theorem getD_tf (l : Array Bool) (i : Nat) (h : i < l.size) : l.getD i true = l.getD i false := by
  rw [Array.getD_eq_getD_getElem?, Array.getD_eq_getD_getElem?, Array.getElem?_eq_getElem h]; rfl
theorem ready_all {md : Region.Mode} {ops : Array Oper} {listed : Array Bool} (hs : listed.size = ops.size) (hd : (ops.toList.zipIdx.all fun p => p.1.after.all fun e => decide (e.on < p.2)) = true) (h : Region.ready md ops listed = []) : ∀ i, i < ops.size → listed.getD i true = true := by
  intro i
  induction i using Nat.strongRecOn with
  | ind i ih =>
    intro hi
    cases hq : listed.getD i true with
    | true => rfl
    | false =>
      have ho : ops[i]? = some ops[i] := Array.getElem?_eq_getElem hi
      have hm : i ∈ Region.ready md ops listed := mem_ready.2 ⟨hq, _, ho, fun e he _ => by
        have h1 := List.all_eq_true.1 hd (ops[i], i) (by rw [List.mem_iff_getElem?]; exact ⟨i, by rw [List.getElem?_zipIdx]; simp [hi]⟩)
        have h2 := Array.all_eq_true_iff_forall_mem.1 h1 e he
        have h3 := ih e.on (of_decide_eq_true h2) (by have := of_decide_eq_true h2; omega)
        rw [getD_tf _ _ (by have := of_decide_eq_true h2; omega)] at h3
        exact h3⟩
      rw [h] at hm; cases hm
end Go.Proofs.Ytacgeafjilipdaa.P
namespace Go.Proofs.Ytacgeafjilipdaa.P
open Go.RowKit Go.Shelf Go.Proofs.YtacgeafjilipdaaW.PrintWords Go.Proofs.YtacgeafjilipdaaW.PrintLast Go.Proofs.YtacgeafjilipdaaW.PrintMore
set_option linter.unusedVariables false
set_option linter.unusedSimpArgs false
attribute [local go_sem] Oper.semAt_some
def fStep (l : List Pu) (D : List Int) (s : List Int × Nat) (k : Nat) : List Int × Nat :=
  if s.2 < l.length ∧ (l.getD s.2 ⟨0, 0⟩).f0 = D.getD k 0 then (s.1.set k (l.getD s.2 ⟨0, 0⟩).f1, s.2 + 1) else s
def fSt (l : List Pu) (D : List Int) (xs : List Nat) : List Int × Nat := xs.foldl (fStep l D) (List.replicate D.length 0, 0)
theorem fSt_snoc (l : List Pu) (D : List Int) (xs : List Nat) (k : Nat) : fSt l D (xs ++ [k]) = fStep l D (fSt l D xs) k := by unfold fSt; rw [List.foldl_append]; rfl
theorem fSt_ok (l : List Pu) (D : List Int) (xs : List Nat) : (fSt l D xs).1.length = D.length ∧ (fSt l D xs).2 ≤ l.length := by
  have : ∀ (xs : List Nat) (s : List Int × Nat), s.2 ≤ l.length → (xs.foldl (fStep l D) s).1.length = s.1.length ∧ (xs.foldl (fStep l D) s).2 ≤ l.length := by
    intro xs
    induction xs with
    | nil => intro s hs; exact ⟨rfl, hs⟩
    | cons k xs ih =>
      intro s hs
      rw [List.foldl_cons]
      have h1 : (fStep l D s k).1.length = s.1.length ∧ (fStep l D s k).2 ≤ l.length := by
        unfold fStep
        split
        · rename_i h; exact ⟨by simp, h.1⟩
        · exact ⟨rfl, hs⟩
      have := ih _ h1.2
      exact ⟨by rw [this.1, h1.1], this.2⟩
  have h := this xs (List.replicate D.length 0, 0) (Nat.zero_le _)
  exact ⟨by rw [fSt, h.1]; simp, h.2⟩
def spreadF (l : List Pu) (on : List Sp) : List Int × Bool := ((fSt l (plN 0 on) (List.range (plN 0 on).length)).1, decide ((fSt l (plN 0 on) (List.range (plN 0 on).length)).2 = l.length))
theorem run_make_blk {P : Program} (t e : TypeId) (i : TypeInfo) (z : Value) (h1 : P.underlying t = some (.slice e)) (h2 : P.info? e = some i) (h3 : i.zero = some z) (h4 : i.size = 1) (h5 : z.cells = #[z])
    (m : Nat) (b2 : (i.bytes : Int) * m ≤ 281474976710656) (b3 : (m : Int) ≤ 9223372036854775807) (w : World) :
    (Instr.makeSlice t (.int .i64 m) (.int .i64 m)).run P w = .ok (.slice (some ⟨w.heap.size, 0, none⟩) m m) (w.alloc (.cells (List.replicate m z).toArray e)) := by
  have hrun := run_make (P := P) w t e i z h1 h2 h3 .i64 .i64 m m (by omega) (Int.le_refl _) b2 b3
  rw [h4, h5, Nat.mul_one, Int.toNat_natCast] at hrun
  have hm : madeCells #[z] m = (List.replicate m z).toArray := by rw [← toList_madeCells_one z m]
  rw [hm] at hrun
  exact hrun
theorem keepR_set {n0 n1 B i : Nat} (W : World) (hB : B < n0) (u : Value) : KeepR n0 n1 W (W.setCell ⟨B, i, none⟩ u) :=
  ⟨by simp [World.setCell], fun q h0 h1 => Below.heap_setCell W ⟨B, i, none⟩ u q (by show q ≠ B; omega)⟩
theorem boxed_far {W : World} {b g i : Nat} {t : TypeId} {v : Value} (h : Boxed W b t v) (hne : b ≠ g) (u : Value) : Boxed (W.setCell ⟨g, i, none⟩ u) b t v := blk_far h hne u
theorem putObj_far {W : World} {b D : Nat} {o : Obj} {x : Obj} (hne : b ≠ D) (h : W.heap[b]? = some x) : (W.putObj D o).heap[b]? = some x := by
  simp only [World.putObj]
  rw [Array.getElem?_setIfInBounds_ne (fun e => hne e.symm)]
  exact h
theorem World.grownBy_set (W : World) (b i : Nat) (v : Value) : W.grownBy (W.setCell ⟨b, i, none⟩ v) (some b) :=
  ⟨rfl, rfl, rfl, by simp [World.setCell], fun k _ hk => Below.heap_setCell W ⟨b, i, none⟩ v k (fun e => hk (by rw [e]))⟩
def SpI (w : World) (b0 bo g n1 : Nat) (l : List Pu) (D : List Int) (xs : List Nat) (W : World) : Prop :=
  ((∃ (A : Option Addr) (c : Nat), Boxed W b0 119 (.slice A (l.drop (fSt l D xs).2).length c) ∧ Kd.C kPu w A (l.drop (fSt l D xs).2).length (l.drop (fSt l D xs).2) ∧ (l.drop (fSt l D xs).2).length ≤ c) ∧
    Boxed W bo 77 (.slice (some ⟨g, 0, none⟩) D.length D.length) ∧ W.heap[g]? = some (.cells ((fSt l D xs).1.map (Value.int .u64)).toArray 62 (0, 0))) ∧ (Below w.heap.size w W ∧ n1 ≤ W.heap.size)
theorem SpI.own (w : World) (b0 bo g n1 : Nat) (l : List Pu) (D : List Int) (hn : w.heap.size ≤ n1) : OwnFrom n1 (fun (xs : List (Fin D.length)) W => SpI w b0 bo g n1 l D (xs.map (·.val)) W) := by
  intro xs W W' row h hg hr
  obtain ⟨⟨⟨A, c, h1, h2, h3⟩, h4, h5⟩, h6, h7⟩ := h
  have hb : ∀ {q : Nat} {o : Obj}, W.heap[q]? = some o → o.isCells = true → W'.heap[q]? = some o := fun {q o} h hc => by
    refine (hg.block q (blk_lt h) (fun e => ?_)).trans h
    obtain ⟨-, o', e1, e2⟩ := hr q e.symm
    rw [h] at e1; cases e1; rw [hc] at e2; cases e2
  exact ⟨⟨⟨A, c, hb h1 rfl, h2, h3⟩, hb h4 rfl, hb h5 rfl⟩, h6.grown hg (Nat.le_trans (Nat.le_refl _) h6.size) (fun k e => Nat.le_trans hn (hr k e).1), Nat.le_trans h7 hg.size⟩
set_option maxRecDepth 100000 in
set_option maxHeartbeats 8000000 in
theorem fspread_c (l : List Pu) (on : List Sp) (hw : wfSps on) (hck : spCheck on = 0) (hm : l.length ≤ 4096) (w : World) (u v : Value) (hu : SI kPu w u l) (hv : SI kSp w v on) : Calls Try.prog 164 #[u, v] w fun e w' =>
    ∃ v0 : Value, e = .returned (.tuple #[v0, .bool (spreadF l on).2]) ∧ FI (Kd.int .u64) w.heap.size w' v0 (spreadF l on).1 ∧ Below w.heap.size w w' := by
  obtain ⟨A0, c0, rfl, hc0, hr0⟩ := hu
  obtain ⟨A1, c1, rfl, hc1, hr1⟩ := hv
  have hlen := places_len hck
  have hpl : placesAt 0 on = plN 0 on := placesAt_plN on _ _ _ (spCheck_zero hck).2
  have hon : on.length ≤ 1024 := (spCheck_zero hck).1
  have HCk := check_eq on hw 3000 (by omega)
  rw [hck] at HCk
  have hct := spCount_c on hw hck
  have hcn : cntN on = ((plN 0 on).length : Int) := (plN_length on 0 (fun s hs => (spRight_pos on _ _ _ (spCheck_zero hck).2 s hs).1)).symm
  rw [hcn] at hct
  refine (callsIn_wide (n := 5)).1 ?_
  have hf1 : Fence.wide.fn 173 := trivial
  have hf2 : Fence.wide.fn 187 := trivial
  have hpu := Try.underlying123
  have HR1 := Aside0.mk (And.intro hr1 hc1)
  have HR0 := Aside0.mk (And.intro hr0 hc0)
  have HM := Aside0.mk (And.intro hm (And.intro hon (And.intro hlen hpl)))
  have HCK := Aside0.mk HCk
  have HCT := Aside0.mk hct
  unfold spreadF
  generalize hD : plN 0 on = D at *
  have HD := Aside0.mk hD
  obtain ⟨i0, hi, hz0, hz1, hz2⟩ := info_parts info62
  have hmk := run_make_blk (P := Try.prog) 77 62 i0 (.int .u64 0) Try.underlying77 hi hz0 hz1 rfl D.length (by rw [hz2]; omega) (by omega)
  clear hr0 hr1 hc0 hc1 hm hon hlen hpl HCk hw hck hct hcn hD
  refine callsIn_of_wp_marks Try.func164 rfl trivial ?_ rfl
  simp only [Try.ntmps164, List.size_toArray, List.length_cons, List.length_nil, Nat.reduceAdd, Nat.reduceSub, Array.replicate_succ, Array.replicate_zero, List.push_toArray, List.append_toArray, List.nil_append, List.cons_append]
  gi_wp2_with (first | (gi_at_call 187; refine (callsIn_wide.2 (HCT.out _ _ (.of (Kd.C_below HR1.out.1 (below_alloc (Below.refl _ _) _)) HR1.out.2))).mono ?_; rintro e w1 ⟨rfl, hb⟩; have HB1 := Aside0.mk hb; clear hb) | (gi_at_call 173; refine (all_in _ (by omega) A1 c1 on _ (Kd.C_below HR1.out.1 (below_then (below_then (below_alloc (Below.refl _ _) _) (by simp) HB1.out) (by have := HB1.out.size; simp at this; omega) (below_alloc (below_alloc (Below.refl _ _) _) _))) HR1.out.2 (by have := HM.out.2.1; omega)).mono ?_; rintro e w2 ⟨Bn, vv, rfl, hS, hb2⟩; have HS := Aside0.mk hS; have HB2 := Aside0.mk hb2; clear hS hb2))
  clear hmk
  have hsz : w.heap.size + 1 ≤ w1.heap.size := by have := HB1.out.size; simpa using this
  have hB1 : Below w.heap.size w w1 := below_then (below_alloc (Below.refl _ _) _) (by simp) HB1.out
  have g0 : Boxed w1 w.heap.size 119 (.slice A0 l.length c0) := boxed_below (Boxed.new w _ _) HB1.out
  generalize hwa : w1.alloc (Obj.cells (Array.replicate D.length (Value.int .u64 0)) 62) = wa at *
  have hwas : wa.heap.size = w1.heap.size + 1 := by rw [← hwa]; simp
  have g0a : Boxed wa w.heap.size 119 (.slice A0 l.length c0) := by rw [← hwa]; exact g0.alloc _
  have g1a : wa.heap[w1.heap.size]? = some (.cells (Array.replicate D.length (Value.int .u64 0)) 62 (0, 0)) := by rw [← hwa]; exact blk_new w1 _
  have hBa : Below w.heap.size w wa := by rw [← hwa]; exact below_alloc hB1 _
  have g2a : Boxed (wa.alloc (.cells #[.slice (some ⟨w1.heap.size, 0, none⟩) D.length D.length] 77)) (w1.heap.size + 1) 77 (.slice (some ⟨w1.heap.size, 0, none⟩) D.length D.length) := box_new hwas _ _
  have hBW : Below w.heap.size w w2 := below_then (below_alloc hBa _) (by simp; omega) HB2.out
  have g0 : Boxed w2 w.heap.size 119 (.slice A0 l.length c0) := boxed_below (g0a.alloc _) HB2.out
  have g1 : w2.heap[w1.heap.size]? = some (.cells (Array.replicate D.length (Value.int .u64 0)) 62 (0, 0)) := blk_below (blk_alloc g1a _) HB2.out
  have g2 : Boxed w2 (w1.heap.size + 1) 77 (.slice (some ⟨w1.heap.size, 0, none⟩) D.length D.length) := boxed_below g2a HB2.out
  have hw2 : w1.heap.size + 1 + 1 ≤ w2.heap.size := by have := HB2.out.size; simp [hwas] at this; omega
  have hS2 : HoldsSp (w1.heap.size + 1 + 1) w2.heap.size Bn vv on w2 := by have := HS.out; simpa [hwas] using this
  have hseq := all_stopsN 4 (by omega) (w1.heap.size + 1 + 1) Bn vv on 3000 HCK.out (by have := HM.out.2.2.1; rw [HM.out.2.2.2]; omega) w2 hS2
  rw [HM.out.2.2.2] at hseq
  clear g0a g1a g2a hBa hwa hwas HS
  refine wpIn_rangeFunc_ownG rfl (by omega) (gf := 190) (lb := #[.pointer (some ⟨Bn, 0, none⟩)]) rfl trivial (enters_of Try.func190 (by kernel_rfl) rfl)
    hseq KeepR.trans (KeepR.put (Nat.le_refl _)) (Below.refl _ _) (fun _ => rfl)
    (fun (xs : List (Fin D.length)) W => SpI w w.heap.size (w1.heap.size + 1) w1.heap.size w2.heap.size l D (xs.map (·.val)) W)
    (fun _ _ _ => False) (SpI.own _ _ _ _ _ _ _ (by omega)) (fun _ _ _ _ _ hs _ _ => hs)
    ⟨⟨⟨A0, c0, by simpa [fSt] using g0, by simpa [fSt] using HR0.out.1, by simpa [fSt] using HR0.out.2⟩, g2, by simpa [fSt] using g1⟩, hBW, Nat.le_refl _⟩
    (fun x => { tmps := #[.slice A0 l.length c0, .slice A1 on.length c1, .pointer (some ⟨w.heap.size, 0, none⟩), undef, .slice none 0 0, .bool false, .pointer (some ⟨w1.heap.size + 1, 0, none⟩), .int .i64 (x.val : Int), .int .i64 (D.getD x.val 0), .slice A1 on.length c1, .int .i64 (D.length : Int), .slice (some ⟨w1.heap.size, 0, none⟩) D.length D.length, .slice A1 on.length c1, .func (.func 190) #[] #[.pointer (some ⟨Bn, 0, none⟩)], .int .i64 (x.val : Int), .int .i64 (D.getD x.val 0), undef, undef, undef, undef, undef, undef, undef, undef, undef, undef, undef, undef, undef, undef, undef, undef, undef, undef, undef, undef, undef, undef, undef, undef], defers := [] }) ?assign ?body ?done ?stop
  case assign =>
    intro l x W K hK
    gi_wp2
    first | exact hK | simpa using hK
  case body =>
    rintro lo pre x W ⟨⟨⟨A, c, h1, h2, h3⟩, h4, h5⟩, h6, h7⟩ hlt
    have HSN := Aside0.mk (fSt_snoc l D (pre.map (·.val)) x.val)
    have hok := fSt_ok l D (pre.map (·.val))
    have hmap : (pre ++ [x]).map (·.val) = pre.map (·.val) ++ [x.val] := by simp
    have HMP := Aside0.mk hmap
    generalize fSt l D (pre.map (·.val)) = s at h1 h2 h3 h5 HSN hok
    obtain ⟨o, k⟩ := s
    simp only at h1 h2 h3 h5 hok
    obtain ⟨ho, hkl⟩ := hok
    clear hmap g0 g1 g2 hBW hS2 hseq
    have hxl := x.isLt
    have hx0 : (0 : Int) ≤ (x.val : Int) := by omega
    have hx1 : (x.val : Int) < (D.length : Int) := by omega
    have HPP := Aside0.mk (show ∀ z, D.getD x.val 0 = z → fStep l D (o, k) x.val = if k < l.length ∧ (l.getD k ⟨0, 0⟩).f0 = z then (o.set x.val (l.getD k ⟨0, 0⟩).f1, k + 1) else (o, k) from fun z e => by subst e; rfl)
    generalize hpp : D.getD x.val 0 = p
    have HPE := Aside0.mk hpp
    clear hpp
    by_cases hk : k < l.length
    · rw [drop_at hk] at h1 h2 h3
      have hd1 := drop_at hk
      have HG := Aside0.mk (show l.getD k ⟨0, 0⟩ = l[k] by simp [List.getD, hk])
      generalize l[k] = y at h1 h2 h3 HG hd1
      have HRD := Aside0.mk hd1
      have hq2 := h2
      obtain ⟨ad, e1, hy0, hy1⟩ := at_T123 (Kd.C_below h2 h6) 0 (by omega) (by simp)
      subst e1
      obtain ⟨ad', e1', -, hyw1⟩ := at_T123 hq2 0 (by omega) (by simp)
      cases e1'
      clear hq2
      rw [show rd_T123 (y :: l.drop (k + 1)) 0 = y from rfl] at hyw1
      simp only [Int.toNat_zero, Nat.zero_mul] at hyw1
      (try rw [Addr.add_zero'] at hyw1)
      rw [show rd_T123 (y :: l.drop (k + 1)) 0 = y from rfl] at hy0 hy1
      simp only [Int.toNat_zero, Nat.zero_mul] at hy0 hy1
      (try rw [Addr.add_zero'] at hy0)
      (try rw [Addr.add_zero'] at hy1)
      have HC := Aside0.mk (And.intro h2 h3)
      generalize hml : (y :: l.drop (k + 1)).length = m at *
      have hm1 : m = (l.drop (k + 1)).length + 1 := by rw [← hml]; simp
      have hpos : (0 : Int) < (m : Int) := by omega
      have HB0 := Aside0.mk (And.intro h1 (And.intro h4 (And.intro h5 (And.intro h6 h7))))
      have hb0 := h1.cell
      have hz0 := h1.frozen
      have hb1 := h4.cell
      have HML := Aside0.mk hml
      have HM1 := Aside0.mk hm1
      obtain ⟨i1, hi1, _, hsz1, _⟩ := info_parts info123
      have hcut := cut_from (P := Try.prog) 119 123 .i64 Try.underlying119 hi1 2 hsz1 (some ad) m c 1 (by omega) (by omega)
      obtain ⟨Ad, hAd⟩ : ∃ A1 : Option Addr, A1 = (if c = (1 : Int).toNat then (some ad) else ((some ad) : Option Addr).map (·.add ((1 : Int).toNat * 2))) := ⟨_, rfl⟩
      rw [← hAd] at hcut
      have HAD := Aside0.mk hAd
      obtain ⟨m', hm'⟩ : ∃ m', m' = m - (1 : Int).toNat := ⟨_, rfl⟩
      obtain ⟨c', hc'⟩ : ∃ c', c' = c - (1 : Int).toNat := ⟨_, rfl⟩
      rw [← hm', ← hc'] at hcut
      have HMC := Aside0.mk (And.intro hm' hc')
      have hq1 : (1 : Int) ≤ (m : Int) := by omega
      have hgc : W.cell? ⟨w1.heap.size, x.val, none⟩ = some (.int .u64 (o[x.val]'(by omega))) := by rw [blk_cell h5 x.val]; simp [ho]
      have hgz := blk_frozen h5 x.val
      clear h1 h2 h3 h4 h5 h6 h7 hd1 hml hm1 hAd hm' hc' hi1 hsz1
      by_cases hp : y.f0 = p
      · have hpe : (y.f0 == p) = true := beq_iff_eq.2 hp
        clear hp
        gi_wp2
        refine wpIn_region_any (by kernel_rfl) ?_
        change wpAnyIn _ _ _ _ _ _ _ _ _ (World.drew _)
        obtain ⟨val, hval⟩ : ∃ val : Nat → Value, val = fun i => (#[Value.slice (some ⟨w1.heap.size, 0, none⟩) D.length D.length, .int .i64 (x.val : Int), .slice (some ad) m c, .pointer (some ad), .pointer (some (ad.add 1)), .int .u64 y.f1, .slice (some ad) m c, .slice Ad m' c', .pointer (some ⟨w1.heap.size, x.val, none⟩)] : Array Value).getD i undef := ⟨_, rfl⟩
        obtain ⟨Wf, hWf⟩ : ∃ Wf : Array Bool → World, Wf = fun l => if l.getD 10 false = true then ((W.drew.setCell ⟨w1.heap.size, x.val, none⟩ (.int .u64 y.f1)).setCell ⟨w.heap.size, 0, none⟩ (.slice Ad m' c')) else if l.getD 9 false = true then W.drew.setCell ⟨w1.heap.size, x.val, none⟩ (.int .u64 y.f1) else W.drew := ⟨_, rfl⟩
        obtain ⟨h1, h4, h5, h6, h7⟩ := HB0.out
        have hoN : w.heap.size ≤ w1.heap.size := by omega
        have hBl : ∀ lz, Below w.heap.size w (Wf lz) := fun lz => by
          rw [hWf]; simp only
          split
          · exact ((h6.drew).setCell (p := ⟨w1.heap.size, x.val, none⟩) (by show w.heap.size ≤ w1.heap.size; omega) _).setCell (p := ⟨w.heap.size, 0, none⟩) (Nat.le_refl _) _
          split
          · exact (h6.drew).setCell (p := ⟨w1.heap.size, x.val, none⟩) (by show w.heap.size ≤ w1.heap.size; omega) _
          · exact h6.drew
        have hBo : ∀ lz, Boxed (Wf lz) (w1.heap.size + 1) 77 (.slice (some ⟨w1.heap.size, 0, none⟩) D.length D.length) := fun lz => by
          rw [hWf]; simp only
          split
          · exact boxed_far (boxed_far (show Boxed W.drew _ _ _ from h4) (by omega) _) (by omega) _
          split
          · exact boxed_far (show Boxed W.drew _ _ _ from h4) (by omega) _
          · exact h4
        have hB0 : ∀ lz : Array Bool, lz.getD 10 false = false → Boxed (Wf lz) w.heap.size 119 (.slice (some ad) m c) := fun lz hz => by
          rw [hWf]; simp only
          rw [if_neg (by rw [hz]; simp)]
          split
          · exact boxed_far (show Boxed W.drew _ _ _ from h1) (by omega) _
          · exact h1
        have hBg : ∀ lz : Array Bool, lz.getD 10 false = false → lz.getD 9 false = false → (Wf lz).heap[w1.heap.size]? = some (.cells (o.map (Value.int .u64)).toArray 62 (0, 0)) := fun lz hz hz9 => by
          rw [hWf]; simp only
          rw [if_neg (by rw [hz]; simp), if_neg (by rw [hz9]; simp)]
          exact h5
        have HS := Aside0.mk (And.intro hBl (And.intro hBo (And.intro hB0 hBg)))
        have HYW := Aside0.mk hyw1
        have hsame : ∀ (lz : Array Bool) (i : Nat), i ≠ 9 → i ≠ 10 → Wf (lz.setIfInBounds i true) = Wf lz := fun lz i h9 h10 => by
          rw [hWf]; simp only
          rw [getD_set_ne' _ _ _ _ h9, getD_set_ne' _ _ _ _ h10]
        have HWS := Aside0.mk hsame
        have HWD := Aside0.mk hWf
        have HVD := Aside0.mk hval
        clear h1 h4 h5 h6 h7 hBl hBo hB0 hBg hsame hWf hval hb0 hz0 hb1 hgc hgz
        refine wpAnyIn_held (fun lz a w' => lz.size = 11 ∧ (lz.getD 10 false = true → ∀ j, j < 10 → lz.getD j false = true) ∧ HeldAt ({ tmps := #[.slice A0 l.length c0, .slice A1 on.length c1, .pointer (some ⟨w.heap.size, 0, none⟩), undef, .slice none 0 0, .bool false, .pointer (some ⟨w1.heap.size + 1, 0, none⟩), .int .i64 (x.val : Int), .int .i64 p, .slice A1 on.length c1, .int .i64 (D.length : Int), .slice (some ⟨w1.heap.size, 0, none⟩) D.length D.length, .slice A1 on.length c1, .func (.func 190) #[] #[.pointer (some ⟨Bn, 0, none⟩)], .int .i64 (x.val : Int), .int .i64 p, .slice (some ad) m c, .int .i64 (m : Int), .bool true, .bool true, .slice (some ad) m c, .pointer (some ad), .pointer (some ad), .int .i64 y.f0, .int .i64 p, .bool true, .bool true, undef, undef, undef, undef, undef, undef, undef, undef, undef, undef, undef, undef, undef], defers := [] }) 27 9 val Wf lz a w') ?stepR ?doneR _ _ _ _ (by simp) ⟨by simp, fun h => by simp at h, ⟨rfl, fun _ _ => rfl, fun i hi hl => ?_, by rw [HWD.out]; simp⟩⟩
        case stepR =>
          rintro i lz a w' ⟨hsz, h10, hS⟩ hl hd hi
          have hi11 : i < 11 := by simpa using hi
          clear hi
          obtain rfl := hS.wd
          have hlf : lz.getD i false = false := by rw [← getD_tf _ _ (by omega)]; exact hl
          have n10 : i ≠ 10 → lz.getD 10 false = false := fun hne => by
            cases hq : lz.getD 10 false with
            | false => rfl
            | true => have := h10 hq i (by omega); rw [hlf] at this; cases this
          have N10 := Aside0.mk n10
          have H10 := Aside0.mk h10
          have HH := Aside0.mk hS
          clear n10 h10 hl
          obtain h | h | h | h | h | h | h | h | h | h | h : i = 0 ∨ i = 1 ∨ i = 2 ∨ i = 3 ∨ i = 4 ∨ i = 5 ∨ i = 6 ∨ i = 7 ∨ i = 8 ∨ i = 9 ∨ i = 10 := by omega
          all_goals subst h
          · have e6 := hS.fix 6 (by omega)
            simp only [Act.eval] at e6
            have hc := (HS.out.2.1 lz).cell
            refine wpOpIn_step rfl (fun K hK => ?_)
            clear hd hS
            go_simp
            refine hK _ _ ⟨by simpa using hsz, fun h => absurd h (by rw [getD_set_ne' _ _ _ _ (by omega), N10.out (by omega)]; simp), ?_⟩
            exact HH.out.put_ 0 (by omega) (by simp) (HWS.out _ _ (by omega) (by omega)) (by rw [HVD.out]; rfl)
          · have e7 := hS.fix 7 (by omega)
            simp only [Act.eval] at e7
            refine wpOpIn_step rfl (fun K hK => ?_)
            clear hd hS
            go_simp
            refine hK _ _ ⟨by simpa using hsz, fun h => absurd h (by rw [getD_set_ne' _ _ _ _ (by omega), N10.out (by omega)]; simp), ?_⟩
            exact HH.out.put_ 1 (by omega) (by simp) (HWS.out _ _ (by omega) (by omega)) (by rw [HVD.out]; rfl)
          · have e2 := hS.fix 2 (by omega)
            simp only [Act.eval] at e2
            have hc := (HS.out.2.2.1 lz (N10.out (by omega))).cell
            refine wpOpIn_step rfl (fun K hK => ?_)
            clear hd hS
            go_simp
            refine hK _ _ ⟨by simpa using hsz, fun h => absurd h (by rw [getD_set_ne' _ _ _ _ (by omega), N10.out (by omega)]; simp), ?_⟩
            exact HH.out.put_ 2 (by omega) (by simp) (HWS.out _ _ (by omega) (by omega)) (by rw [HVD.out]; rfl)
          · have d2 : a.eval (.tmp (27 + 2)) = val 2 := hS.got 2 (by omega) (hd _ rfl ⟨2, .data⟩ (by simp) (by kernel_rfl))
            rw [HVD.out] at d2
            simp [Act.eval] at d2
            refine wpOpIn_step rfl (fun K hK => ?_)
            clear hd hS
            go_simp
            refine hK _ _ ⟨by simpa using hsz, fun h => absurd h (by rw [getD_set_ne' _ _ _ _ (by omega), N10.out (by omega)]; simp), ?_⟩
            exact HH.out.put_ 3 (by omega) (by simp) (HWS.out _ _ (by omega) (by omega)) (by rw [HVD.out]; rfl)
          · have d3 : a.eval (.tmp (27 + 3)) = val 3 := hS.got 3 (by omega) (hd _ rfl ⟨3, .data⟩ (by simp) (by kernel_rfl))
            rw [HVD.out] at d3
            simp [Act.eval] at d3
            refine wpOpIn_step rfl (fun K hK => ?_)
            clear hd hS
            go_simp
            refine hK _ _ ⟨by simpa using hsz, fun h => absurd h (by rw [getD_set_ne' _ _ _ _ (by omega), N10.out (by omega)]; simp), ?_⟩
            exact HH.out.put_ 4 (by omega) (by simp) (HWS.out _ _ (by omega) (by omega)) (by rw [HVD.out]; rfl)
          · have d4 : a.eval (.tmp (27 + 4)) = val 4 := hS.got 4 (by omega) (hd _ rfl ⟨4, .data⟩ (by simp) (by kernel_rfl))
            rw [HVD.out] at d4
            simp [Act.eval] at d4
            have hc := ((HS.out.1 lz).cell (World.block_lt_of_cell? w _ HYW.out)).trans HYW.out
            refine wpOpIn_step rfl (fun K hK => ?_)
            clear hd hS
            go_simp
            refine hK _ _ ⟨by simpa using hsz, fun h => absurd h (by rw [getD_set_ne' _ _ _ _ (by omega), N10.out (by omega)]; simp), ?_⟩
            exact HH.out.put_ 5 (by omega) (by simp) (HWS.out _ _ (by omega) (by omega)) (by rw [HVD.out]; rfl)
          · have e2 := hS.fix 2 (by omega)
            simp only [Act.eval] at e2
            have hc := (HS.out.2.2.1 lz (N10.out (by omega))).cell
            refine wpOpIn_step rfl (fun K hK => ?_)
            clear hd hS
            go_simp
            refine hK _ _ ⟨by simpa using hsz, fun h => absurd h (by rw [getD_set_ne' _ _ _ _ (by omega), N10.out (by omega)]; simp), ?_⟩
            exact HH.out.put_ 6 (by omega) (by simp) (HWS.out _ _ (by omega) (by omega)) (by rw [HVD.out]; rfl)
          · have d6 : a.eval (.tmp (27 + 6)) = val 6 := hS.got 6 (by omega) (hd _ rfl ⟨6, .data⟩ (by simp) (by kernel_rfl))
            rw [HVD.out] at d6
            simp [Act.eval] at d6
            refine wpOpIn_step rfl (fun K hK => ?_)
            clear hd hS
            go_simp
            refine hK _ _ ⟨by simpa using hsz, fun h => absurd h (by rw [getD_set_ne' _ _ _ _ (by omega), N10.out (by omega)]; simp), ?_⟩
            exact HH.out.put_ 7 (by omega) (by simp) (HWS.out _ _ (by omega) (by omega)) (by rw [HVD.out]; rfl)
          · have d0 : a.eval (.tmp (27 + 0)) = val 0 := hS.got 0 (by omega) (hd _ rfl ⟨0, .data⟩ (by simp) (by kernel_rfl))
            rw [HVD.out] at d0
            simp [Act.eval] at d0
            have d1 : a.eval (.tmp (27 + 1)) = val 1 := hS.got 1 (by omega) (hd _ rfl ⟨1, .data⟩ (by simp) (by kernel_rfl))
            rw [HVD.out] at d1
            simp [Act.eval] at d1
            refine wpOpIn_step rfl (fun K hK => ?_)
            clear hd hS
            go_simp
            refine hK _ _ ⟨by simpa using hsz, fun h => absurd h (by rw [getD_set_ne' _ _ _ _ (by omega), N10.out (by omega)]; simp), ?_⟩
            exact HH.out.put_ 8 (by omega) (by simp) (HWS.out _ _ (by omega) (by omega)) (by rw [HVD.out]; rfl)
          · -- the store into the row
            have d8 : a.eval (.tmp (27 + 8)) = val 8 := hS.got 8 (by omega) (hd _ rfl ⟨8, .data⟩ (by simp) (by kernel_rfl))
            rw [HVD.out] at d8
            simp [Act.eval] at d8
            have d5 : a.eval (.tmp (27 + 5)) = val 5 := hS.got 5 (by omega) (hd _ rfl ⟨5, .data⟩ (by simp) (by kernel_rfl))
            rw [HVD.out] at d5
            simp [Act.eval] at d5
            have hbg := HS.out.2.2.2 lz (N10.out (by omega)) hlf
            have hgc : (Wf lz).cell? ⟨w1.heap.size, x.val, none⟩ = some (.int .u64 (o[x.val]'(by omega))) := by rw [blk_cell hbg x.val]; simp [ho]
            have hgz := blk_frozen hbg x.val
            refine wpOpIn_step rfl (fun K hK => ?_)
            clear hd hS hbg
            go_simp
            refine hK _ _ ⟨by simpa using hsz, fun h => absurd h (by rw [getD_set_ne' _ _ _ _ (by omega), N10.out (by omega)]; simp), HH.out.store 9 (by omega) ?_⟩
            have h10f := N10.out (by omega)
            rw [HWD.out]
            simp only
            rw [getD_set_ne' _ _ _ _ (by omega), h10f, hlf, getD_set_self _ _ _ (by omega)]
            simp
          · -- the store into the row's box
            have e2 := hS.fix 2 (by omega)
            simp only [Act.eval] at e2
            have d7 : a.eval (.tmp (27 + 7)) = val 7 := hS.got 7 (by omega) (hd _ rfl ⟨7, .data⟩ (by simp) (by kernel_rfl))
            rw [HVD.out] at d7
            simp [Act.eval] at d7
            have hb := HS.out.2.2.1 lz hlf
            have hc := hb.cell
            have hz := hb.frozen
            have h9 := hd _ rfl ⟨9, .chain⟩ (by simp) (by kernel_rfl)
            simp only at h9
            have hal : ∀ j, j < 10 → (lz.setIfInBounds 10 true).getD j false = true := fun j hj => by
              obtain h | h | h | h | h | h | h | h | h | h : j = 0 ∨ j = 1 ∨ j = 2 ∨ j = 3 ∨ j = 4 ∨ j = 5 ∨ j = 6 ∨ j = 7 ∨ j = 8 ∨ j = 9 := by omega
              all_goals subst h
              all_goals exact getD_set_mono _ _ _ (hd _ rfl ⟨_, .phase⟩ (by simp) (by kernel_rfl))
            have HAL := Aside0.mk hal
            refine wpOpIn_step rfl (fun K hK => ?_)
            clear hd hS hb hal
            go_simp
            refine hK _ _ ⟨by simpa using hsz, fun _ => HAL.out, HH.out.store 10 (by omega) ?_⟩
            rw [HWD.out]
            simp only
            rw [hlf, h9, getD_set_self _ _ _ (by omega)]
            simp
        case doneR =>
          rintro lz a w' ⟨hsz, h10, hS⟩ hr
          have hall := ready_all (by simpa using hsz) (by kernel_rfl) hr
          have l10 := hall 10 (by simp)
          rw [getD_tf _ _ (by omega)] at l10
          have hw' := hS.wd
          rw [HWD.out] at hw'
          simp only at hw'
          rw [if_pos l10] at hw'
          subst hw'
          obtain ⟨h1, h4, h5, h6, h7⟩ := HB0.out
          have HF : fSt l D ((pre ++ [x]).map (·.val)) = (o.set x.val y.f1, k + 1) := by rw [HMP.out, HSN.out, HPP.out p HPE.out, HG.out, if_pos ⟨hk, beq_iff_eq.1 hpe⟩]
          refine ⟨?_, ?_, ?_⟩
          · exact (((show KeepsFrom w2.heap.size W W.drew from ⟨Nat.le_refl _, fun k o _ hk _ => hk⟩).trans (KeepsFrom.of_grownBy (World.grownBy_set W.drew w1.heap.size x.val _) (fun j e => by cases e; omega))).trans (KeepsFrom.of_grownBy (World.grownBy_set _ w.heap.size 0 _) (fun j e => by cases e; omega)))
          · exact ((keepR_set _ (by omega) _ : KeepR _ _ W.drew _)).trans (keepR_set _ (by omega) _)
          · show SpI _ _ _ _ _ _ _ _ _
            unfold SpI
            rw [HF]
            simp only
            have hcd := Kd.C_drop (k := kPu) (m := 1) (c := c) (HML.out.symm ▸ HC.out.1) (by simp) (by rw [HML.out]; exact HC.out.2)
            have hme : (l.drop (k + 1)).length = m' := by have := HMC.out.1; have := HM1.out; simp at *; omega
            rw [hme]
            have hgb : ((W.drew.setCell ⟨w1.heap.size, x.val, none⟩ (.int .u64 y.f1)).setCell ⟨w.heap.size, 0, none⟩ (.slice Ad m' c')).heap[w1.heap.size]? = some (.cells (((o.map (Value.int .u64)).toArray).setIfInBounds x.val (.int .u64 y.f1)) 62 (0, 0)) := blk_far (blk_put (show W.drew.heap[w1.heap.size]? = _ from h5) x.val _ rfl) (by show w1.heap.size ≠ w.heap.size; omega) _
            have hcs : ((o.map (Value.int .u64)).toArray).setIfInBounds x.val (.int .u64 y.f1) = ((o.set x.val y.f1).map (Value.int .u64)).toArray := by simp [List.map_set]
            rw [hcs] at hgb
            refine ⟨⟨⟨Ad, c', Boxed.set _ (boxed_far (show Boxed W.drew _ _ _ from h1) (by omega) _), ?_, ?_⟩, boxed_far (boxed_far (show Boxed W.drew _ _ _ from h4) (by omega) _) (by omega) _, hgb⟩, ?_, ?_⟩
            · rw [HAD.out, ← hme]; exact hcd
            · have := HMC.out.1; have := HMC.out.2; have := HC.out.2; simp at *; omega
            · exact ((h6.drew).setCell (p := ⟨w1.heap.size, x.val, none⟩) (by show w.heap.size ≤ w1.heap.size; omega) _).setCell (p := ⟨w.heap.size, 0, none⟩) (Nat.le_refl _) _
            · simpa [World.setCell] using h7
        · exfalso
          rw [Array.getD_eq_getD_getElem?] at hl
          rcases Nat.lt_or_ge i 11 with h | h
          · rw [Array.getElem?_eq_getElem (by simpa using h)] at hl; simp at hl
          · rw [Array.getElem?_eq_none (by simpa using h)] at hl; simp at hl
      · have hpe : (y.f0 == p) = false := beq_eq_false_iff_ne.2 hp
        have HN := Aside0.mk hp
        clear hp hcut hgc hgz
        gi_wp2
        have HF : fSt l D ((pre ++ [x]).map (·.val)) = (o, k) := by rw [HMP.out, HSN.out, HPP.out p HPE.out, HG.out, if_neg (fun h => HN.out h.2)]
        obtain ⟨h1, h4, h5, h6, h7⟩ := HB0.out
        refine ⟨KeepsFrom.refl _ _, KeepR.refl _ _ _, ?_⟩
        show SpI _ _ _ _ _ _ _ _ _
        unfold SpI
        rw [HF]
        simp only
        rw [HRD.out, HML.out]
        exact ⟨⟨⟨some ad, c, h1, HC.out.1, HC.out.2⟩, h4, h5⟩, h6, h7⟩
    · have hke : l.drop k = [] := List.drop_eq_nil_of_le (by omega)
      have HN := Aside0.mk hk
      have HB0 := Aside0.mk (And.intro h1 (And.intro h4 (And.intro h5 (And.intro h6 h7))))
      have HC := Aside0.mk (And.intro h2 h3)
      rw [hke] at h1
      have hb0 := h1.cell
      simp only [List.length_nil] at hb0
      clear h1 h2 h3 h4 h5 h6 h7 hk
      gi_wp2
      have HF : fSt l D ((pre ++ [x]).map (·.val)) = (o, k) := by rw [HMP.out, HSN.out, HPP.out p HPE.out, if_neg (fun h => HN.out h.1)]
      obtain ⟨h1, h4, h5, h6, h7⟩ := HB0.out
      refine ⟨KeepsFrom.refl _ _, KeepR.refl _ _ _, ?_⟩
      show SpI _ _ _ _ _ _ _ _ _
      unfold SpI
      rw [HF]
      exact ⟨⟨⟨A, c, h1, HC.out.1, HC.out.2⟩, h4, h5⟩, h6, h7⟩
  case done =>
    rintro Dd ys W hD hys ⟨⟨⟨A, c, h1, h2, h3⟩, h4, h5⟩, h6, h7⟩ hK
    rw [hys] at h1 h2 h3 h5
    have hok := fSt_ok l D (List.range D.length)
    generalize hs : fSt l D (List.range D.length) = s at h1 h2 h3 h5 hok
    obtain ⟨o, k⟩ := s
    have HSE := Aside0.mk hs
    clear hs
    simp only at h1 h2 h3 h5 hok
    have HP := Aside0.mk (And.intro h5 (And.intro h6 h7))
    have HKK := Aside0.mk hK
    have HOK := Aside0.mk hok
    have hb0 := h1.cell
    have hb1 := h4.cell
    clear h1 h2 h3 h4 h5 h6 h7 hK hseq g0 g1 g2 hBW hS2 hok
    gi_wp2
    gi_quiet_th (fail)
    gi_wp2
    refine ⟨by simp, .inl ⟨_, _, rfl, run_takeDeferred (by simpa using HKK.out), ?_⟩⟩
    obtain ⟨h5, h6, h7⟩ := HP.out
    have hol := HOK.out.1
    have hkl := HOK.out.2
    have hbq : (((l.length - k : Nat) : Int) == 0) = decide (k = l.length) := by
      rw [Bool.eq_iff_iff, beq_iff_eq, decide_eq_true_eq]; omega
    have hne : w1.heap.size ≠ Dd := by omega
    refine ⟨_, results_tmp2 rfl _ _ _, .slice (some ⟨w1.heap.size, 0, none⟩) D.length D.length, by rw [HSE.out, ← hbq]; rfl, ?_, ?_⟩
    · rw [HSE.out]
      intro w' hk'
      have hgf : w'.heap[w1.heap.size]? = some (.cells (o.map (Value.int .u64)).toArray 62 (0, 0)) := by
        have h0 := putObj_far (W := W.drewN nq) (o := .deferred none) hne (show (W.drewN nq).heap[w1.heap.size]? = _ from h5)
        exact (hk'.2 _ (by omega) (blk_lt h0)).trans h0
      have hC := C_of_blk (d := Kd.int .u64) o hgf (reps_nums _ .u64 o) (by have := HM.out.2.2.1; omega)
      rw [← hol]
      exact .of hC (Nat.le_refl _)
    · exact (pw_below_drewN h6 nq).trans (belowK_b (w := w2) (by omega) (W.drewN nq) Dd _ _ hD (show (W.drewN nq).heap[Dd]? = _ from HKK.out) rfl rfl)
  case stop =>
    rintro D c pre W _ _ h _
    exact h.elim
end Go.Proofs.Ytacgeafjilipdaa.P
