/- ScaleTwice: the part that this text bears of the proof that the statement answers true for every input. No condition. -/
import Derived.Test.YtgkplhdcafbfbaaProg
import Derived.Below
import Derived.Deep.Draws
import Derived.Deep.AppendLies
import Derived.Maps.AppendAt
import Derived.OwnWalk
import Derived.Laws.BytesArg
import Derived.Laws.MakeOwn
import Derived.Laws.OwnMore
import Derived.Deep.OwnRows
import Derived.Tactics
import Derived.Lib.ConvBytes
import Derived.Laws.Slices
import Derived.WalkKit
import Derived.KernelRfl
import Derived.RowKit3
import Derived.Deep.LoopGhost
import Derived.Deep.QuietTactic
import Derived.BigQuiet
import Derived.WideLaws
import Derived.Deep.DeepCutAuto
import Derived.Deep.CutBlock
import Derived.Deep.RegionHeld3
import Derived.Laws.Rows
import Derived.Lib.AppendStr
import Derived.ArgAppend
import Derived.Laws.IdiomCopy
import Derived.OrdersHeld
import Derived.Laws.BitsLemmas
import Derived.RowKit
import Derived.Deep.Slices
import Derived.ChangeArms
import Derived.Shelf.Abstract
import Derived.WalkSpells
import Derived.RangeFuncNested
import Derived.RangeFuncBound
import Derived.RangeFuncCalls
import Derived.RangeFuncLeaves
import Derived.RangeFuncBox
import Derived.OwnWalkIn
import Derived.TacticsInMore
import Derived.LoopNIn
import Derived.LoopIn
import Derived.Laws.Externs
import Derived.Shelf.Spec.BitsCarry
import Derived.RegionIn
import Derived.Sort.QuietTacIn
import Derived.Deep.RegionWith
import Derived.Laws.BitsAllLaws
import Derived.Outline
import Derived.Laws.Tables
import Derived.Deep.WholeRow
import Derived.Laws.CopyOwn
import Derived.Laws.ResultCell
import Derived.ProofKit
import Derived.JoinedOf
import Derived.OpenShut
import Derived.ShutString
import Derived.ChangeOld
import Derived.SizedLaws
import Derived.Test.YtgkplhdcafbfbaaQScaleTwiceWWords
import Derived.Test.YtgkplhdcafbfbaaQScaleTwiceWLast
import Derived.Test.YtgkplhdcafbfbaaQScaleTwiceWTab
import Derived.Test.YtgkplhdcafbfbaaQScaleTwiceWFour
import Derived.Test.YtgkplhdcafbfbaaQScaleTwiceWQPut
import Derived.Test.YtgkplhdcafbfbaaQScaleTwiceWApart
import Derived.Test.YtgkplhdcafbfbaaQScaleTwiceWArr
import Derived.Test.YtgkplhdcafbfbaaQScaleTwiceWZeros
import Derived.Test.YtgkplhdcafbfbaaQScaleTwiceWFoot
import Derived.Test.YtgkplhdcafbfbaaQScaleTwiceWKept
import Derived.Test.YtgkplhdcafbfbaaQScaleTwiceWShare
import Derived.Test.YtgkplhdcafbfbaaQScaleTwiceWN
import Derived.Test.YtgkplhdcafbfbaaQScaleTwiceWFootNe
import Derived.Test.YtgkplhdcafbfbaaQScaleTwiceWAt
import Derived.Test.YtgkplhdcafbfbaaQScaleTwiceWEqStruct
import Derived.Test.YtgkplhdcafbfbaaQScaleTwiceWRepsOne
import Derived.Test.YtgkplhdcafbfbaaQScaleTwiceWInv
import Derived.Test.YtgkplhdcafbfbaaQScaleTwiceWInvWords
import Derived.Test.YtgkplhdcafbfbaaQScaleTwiceWGuard
import Derived.Test.YtgkplhdcafbfbaaQScaleTwiceWNEv
import Derived.Test.YtgkplhdcafbfbaaQScaleTwiceWMore
import Derived.Test.YtgkplhdcafbfbaaRows
set_option linter.unusedVariables false
set_option linter.unusedSimpArgs false
namespace Go.Proofs.Ytgkplhdcafbfbaa.P
open Go.RowKit Go.Proofs.YtgkplhdcafbfbaaW.PrintWords Go.Proofs.YtgkplhdcafbfbaaW.PrintLast Go.Proofs.YtgkplhdcafbfbaaW.PrintMore
attribute [local go_sem] max2_int min2_int max_two min_two max_three min_three max_four min_four
def errW : Option Int → Value
 | none => .nilIface
 | some c => .iface 0 (.int .i64 c)
theorem errW_none : errW none = .nilIface := rfl
theorem errW_some (c : Int) : errW (some c) = .iface 0 (.int .i64 c) := rfl
theorem info2 : (Try.prog.info? 2).map (fun i => (i.zero, i.size, i.bytes)) = some (some (.int .i64 0), 1, 8) := by kernel_rfl
theorem info3 : (Try.prog.info? 3).map (fun i => (i.zero, i.size, i.bytes)) = some (some (.int .i64 0), 1, 8) := by kernel_rfl
theorem info26 : (Try.prog.info? 26).map (fun i => (i.zero, i.size, i.bytes)) = some (some (.int .u64 0), 1, 8) := by kernel_rfl
theorem info62 : (Try.prog.info? 62).map (fun i => (i.zero, i.size, i.bytes)) = some (some (.agg #[(.int .i64 0), (.int .i64 0)]), 2, 16) := by kernel_rfl
theorem info87 : (Try.prog.info? 87).map (fun i => (i.zero, i.size, i.bytes)) = some (some (.agg #[(.int .i64 0), (.int .i64 0)]), 2, 16) := by kernel_rfl
theorem info104 : (Try.prog.info? 104).map (fun i => (i.zero, i.size, i.bytes)) = some (some (.agg #[(.int .i64 0), (.int .i64 0)]), 2, 16) := by kernel_rfl
theorem info162 : (Try.prog.info? 162).map (fun i => (i.zero, i.size, i.bytes)) = some (some (.agg #[(.int .i64 0), (.int .u64 0)]), 2, 16) := by kernel_rfl
structure S87 where
 f0 : Int
 f1 : Int
def z87 : S87 := ⟨(0 : Int), (0 : Int)⟩
def k87 : Kd S87 := Kd.iso (Kd.pair (Kd.int .i64) (Kd.int .i64)) (fun x : S87 => (x.f0, x.f1))
theorem k87_open {w : World} {x : S87} {cs : List Value} (h : k87.K w x cs) : cs = [.int .i64 x.f0, .int .i64 x.f1] := by
 obtain ⟨_, _, rfl, rfl, rfl⟩ := h
 exact rfl
theorem k87_openM {w : World} {base : Nat} {ok : Nat → Prop} {x : S87} {cs : List Value} (h : k87.M w base ok x cs) : cs = [.int .i64 x.f0, .int .i64 x.f1] := by
 obtain ⟨_, _, rfl, rfl, rfl⟩ := h
 exact rfl
theorem k87_mk (w : World) (x : S87)  : k87.K w x [.int .i64 x.f0, .int .i64 x.f1] := ⟨[.int .i64 x.f0], [.int .i64 x.f1], rfl, rfl, rfl⟩
theorem k87_mkM (w : World) (base : Nat) (ok : Nat → Prop) (x : S87)  : k87.M w base ok x [.int .i64 x.f0, .int .i64 x.f1] := ⟨[.int .i64 x.f0], [.int .i64 x.f1], rfl, rfl, rfl⟩
def rd_T87 (xs : List S87) (i : Int) : S87 := xs.getD i.toNat z87
theorem at_T87 {w : World} {A : Option Addr} {n : Nat} {xs : List S87} (h : Kd.C k87 w A n xs) (i : Int) (h0 : 0 ≤ i) (h1 : i < n) : ∃ ad , A = some ad ∧ w.cell? (ad.add (i.toNat * 2)) = some (.int .i64 (rd_T87 xs i).f0) ∧ w.cell? ⟨(ad.add (i.toNat * 2)).block, (ad.add (i.toNat * 2)).off + 1, none⟩ = some (.int .i64 (rd_T87 xs i).f1) := by
 obtain ⟨ad, c, e, _, hK, hc0⟩ := Kd.C_get h z87 i h0 h1
 have hc : ∀ j u, c[j]? = some u → w.cell? (ad.add (i.toNat * 2 + j)) = some u := hc0
 obtain rfl := k87_open hK
 exact ⟨ad, e, hc 0 _ rfl, by rw [← add_field _ _ 1 (by omega)]; exact hc 1 _ rfl⟩
structure S62 where
 f0 : Int
 f1 : Int
def z62 : S62 := ⟨(0 : Int), (0 : Int)⟩
def k62 : Kd S62 := Kd.iso (Kd.pair (Kd.int .i64) (Kd.int .i64)) (fun x : S62 => (x.f0, x.f1))
theorem k62_open {w : World} {x : S62} {cs : List Value} (h : k62.K w x cs) : cs = [.int .i64 x.f0, .int .i64 x.f1] := by
 obtain ⟨_, _, rfl, rfl, rfl⟩ := h
 exact rfl
theorem k62_openM {w : World} {base : Nat} {ok : Nat → Prop} {x : S62} {cs : List Value} (h : k62.M w base ok x cs) : cs = [.int .i64 x.f0, .int .i64 x.f1] := by
 obtain ⟨_, _, rfl, rfl, rfl⟩ := h
 exact rfl
theorem k62_mkM (w : World) (base : Nat) (ok : Nat → Prop) (x : S62)  : k62.M w base ok x [.int .i64 x.f0, .int .i64 x.f1] := ⟨[.int .i64 x.f0], [.int .i64 x.f1], rfl, rfl, rfl⟩
def rd_T62 (xs : List S62) (i : Int) : S62 := xs.getD i.toNat z62
theorem at_T62 {w : World} {A : Option Addr} {n : Nat} {xs : List S62} (h : Kd.C k62 w A n xs) (i : Int) (h0 : 0 ≤ i) (h1 : i < n) : ∃ ad , A = some ad ∧ w.cell? (ad.add (i.toNat * 2)) = some (.int .i64 (rd_T62 xs i).f0) ∧ w.cell? ⟨(ad.add (i.toNat * 2)).block, (ad.add (i.toNat * 2)).off + 1, none⟩ = some (.int .i64 (rd_T62 xs i).f1) := by
 obtain ⟨ad, c, e, _, hK, hc0⟩ := Kd.C_get h z62 i h0 h1
 have hc : ∀ j u, c[j]? = some u → w.cell? (ad.add (i.toNat * 2 + j)) = some u := hc0
 obtain rfl := k62_open hK
 exact ⟨ad, e, hc 0 _ rfl, by rw [← add_field _ _ 1 (by omega)]; exact hc 1 _ rfl⟩
structure S30 where
 f0 : Int
 f1 : Int
 f2 : Int
 f3 : Int
 f4 : Int
 f5 : (List S87)
 f6 : (List S87)
 f7 : (List Int)
 f8 : (List Int)
def k30 : Kd S30 := Kd.iso (Kd.pair (Kd.int .i64) (Kd.pair (Kd.int .u64) (Kd.pair (Kd.int .u64) (Kd.pair (Kd.int .u64) (Kd.pair (Kd.int .u64) (Kd.pair (Kd.slice 87 k87) (Kd.pair (Kd.slice 87 k87) (Kd.pair (Kd.slice 2 (Kd.int .i64)) (Kd.slice 2 (Kd.int .i64)))))))))) (fun x : S30 => (x.f0, x.f1, x.f2, x.f3, x.f4, x.f5, x.f6, x.f7, x.f8))
theorem k30_open {w : World} {x : S30} {cs : List Value} (h : k30.K w x cs) : ∃ A5 c5 A6 c6 A7 c7 A8 c8, cs = [.int .i64 x.f0, .int .u64 x.f1, .int .u64 x.f2, .int .u64 x.f3, .int .u64 x.f4, .slice A5 x.f5.length c5, .slice A6 x.f6.length c6, .slice A7 x.f7.length c7, .slice A8 x.f8.length c8] ∧ x.f5.length ≤ c5 ∧ k87.C w A5 x.f5.length x.f5 ∧ x.f6.length ≤ c6 ∧ k87.C w A6 x.f6.length x.f6 ∧ x.f7.length ≤ c7 ∧ (Kd.int .i64).C w A7 x.f7.length x.f7 ∧ x.f8.length ≤ c8 ∧ (Kd.int .i64).C w A8 x.f8.length x.f8 := by
 obtain ⟨_, _, rfl, rfl, ⟨_, _, rfl, rfl, ⟨_, _, rfl, rfl, ⟨_, _, rfl, rfl, ⟨_, _, rfl, rfl, ⟨_, _, rfl, ⟨A5, c5, rfl, l5, g5⟩, ⟨_, _, rfl, ⟨A6, c6, rfl, l6, g6⟩, ⟨_, _, rfl, ⟨A7, c7, rfl, l7, g7⟩, ⟨A8, c8, rfl, l8, g8⟩⟩⟩⟩⟩⟩⟩⟩⟩ := h
 exact ⟨A5, c5, A6, c6, A7, c7, A8, c8, rfl, l5, g5, l6, g6, l7, g7, l8, g8⟩
theorem k30_mk (w : World) (x : S30) {A5 : Option Addr} {c5 : Nat} (l5 : x.f5.length ≤ c5) (g5 : k87.C w A5 x.f5.length x.f5) {A6 : Option Addr} {c6 : Nat} (l6 : x.f6.length ≤ c6) (g6 : k87.C w A6 x.f6.length x.f6) {A7 : Option Addr} {c7 : Nat} (l7 : x.f7.length ≤ c7) (g7 : (Kd.int .i64).C w A7 x.f7.length x.f7) {A8 : Option Addr} {c8 : Nat} (l8 : x.f8.length ≤ c8) (g8 : (Kd.int .i64).C w A8 x.f8.length x.f8) : k30.K w x [.int .i64 x.f0, .int .u64 x.f1, .int .u64 x.f2, .int .u64 x.f3, .int .u64 x.f4, .slice A5 x.f5.length c5, .slice A6 x.f6.length c6, .slice A7 x.f7.length c7, .slice A8 x.f8.length c8] := ⟨[.int .i64 x.f0], [.int .u64 x.f1, .int .u64 x.f2, .int .u64 x.f3, .int .u64 x.f4, .slice A5 x.f5.length c5, .slice A6 x.f6.length c6, .slice A7 x.f7.length c7, .slice A8 x.f8.length c8], rfl, rfl, ⟨[.int .u64 x.f1], [.int .u64 x.f2, .int .u64 x.f3, .int .u64 x.f4, .slice A5 x.f5.length c5, .slice A6 x.f6.length c6, .slice A7 x.f7.length c7, .slice A8 x.f8.length c8], rfl, rfl, ⟨[.int .u64 x.f2], [.int .u64 x.f3, .int .u64 x.f4, .slice A5 x.f5.length c5, .slice A6 x.f6.length c6, .slice A7 x.f7.length c7, .slice A8 x.f8.length c8], rfl, rfl, ⟨[.int .u64 x.f3], [.int .u64 x.f4, .slice A5 x.f5.length c5, .slice A6 x.f6.length c6, .slice A7 x.f7.length c7, .slice A8 x.f8.length c8], rfl, rfl, ⟨[.int .u64 x.f4], [.slice A5 x.f5.length c5, .slice A6 x.f6.length c6, .slice A7 x.f7.length c7, .slice A8 x.f8.length c8], rfl, rfl, ⟨[.slice A5 x.f5.length c5], [.slice A6 x.f6.length c6, .slice A7 x.f7.length c7, .slice A8 x.f8.length c8], rfl, ⟨A5, c5, rfl, l5, g5⟩, ⟨[.slice A6 x.f6.length c6], [.slice A7 x.f7.length c7, .slice A8 x.f8.length c8], rfl, ⟨A6, c6, rfl, l6, g6⟩, ⟨[.slice A7 x.f7.length c7], [.slice A8 x.f8.length c8], rfl, ⟨A7, c7, rfl, l7, g7⟩, ⟨A8, c8, rfl, l8, g8⟩⟩⟩⟩⟩⟩⟩⟩⟩
structure S162 where
 f0 : Int
 f1 : Int
def z162 : S162 := ⟨(0 : Int), (0 : Int)⟩
def k162 : Kd S162 := Kd.iso (Kd.pair (Kd.int .i64) (Kd.int .u64)) (fun x : S162 => (x.f0, x.f1))
theorem k162_open {w : World} {x : S162} {cs : List Value} (h : k162.K w x cs) : cs = [.int .i64 x.f0, .int .u64 x.f1] := by
 obtain ⟨_, _, rfl, rfl, rfl⟩ := h
 exact rfl
theorem k162_openM {w : World} {base : Nat} {ok : Nat → Prop} {x : S162} {cs : List Value} (h : k162.M w base ok x cs) : cs = [.int .i64 x.f0, .int .u64 x.f1] := by
 obtain ⟨_, _, rfl, rfl, rfl⟩ := h
 exact rfl
theorem k162_mkM (w : World) (base : Nat) (ok : Nat → Prop) (x : S162)  : k162.M w base ok x [.int .i64 x.f0, .int .u64 x.f1] := ⟨[.int .i64 x.f0], [.int .u64 x.f1], rfl, rfl, rfl⟩
def rd_T162 (xs : List S162) (i : Int) : S162 := xs.getD i.toNat z162
theorem at_T162 {w : World} {A : Option Addr} {n : Nat} {xs : List S162} (h : Kd.C k162 w A n xs) (i : Int) (h0 : 0 ≤ i) (h1 : i < n) : ∃ ad , A = some ad ∧ w.cell? (ad.add (i.toNat * 2)) = some (.int .i64 (rd_T162 xs i).f0) ∧ w.cell? ⟨(ad.add (i.toNat * 2)).block, (ad.add (i.toNat * 2)).off + 1, none⟩ = some (.int .u64 (rd_T162 xs i).f1) := by
 obtain ⟨ad, c, e, _, hK, hc0⟩ := Kd.C_get h z162 i h0 h1
 have hc : ∀ j u, c[j]? = some u → w.cell? (ad.add (i.toNat * 2 + j)) = some u := hc0
 obtain rfl := k162_open hK
 exact ⟨ad, e, hc 0 _ rfl, by rw [← add_field _ _ 1 (by omega)]; exact hc 1 _ rfl⟩
structure S104 where
 f0 : Int
 f1 : Int
def z104 : S104 := ⟨(0 : Int), (0 : Int)⟩
def k104 : Kd S104 := Kd.iso (Kd.pair (Kd.int .i64) (Kd.int .i64)) (fun x : S104 => (x.f0, x.f1))
theorem k104_open {w : World} {x : S104} {cs : List Value} (h : k104.K w x cs) : cs = [.int .i64 x.f0, .int .i64 x.f1] := by
 obtain ⟨_, _, rfl, rfl, rfl⟩ := h
 exact rfl
theorem k104_mkM (w : World) (base : Nat) (ok : Nat → Prop) (x : S104)  : k104.M w base ok x [.int .i64 x.f0, .int .i64 x.f1] := ⟨[.int .i64 x.f0], [.int .i64 x.f1], rfl, rfl, rfl⟩
def rd_T104 (xs : List S104) (i : Int) : S104 := xs.getD i.toNat z104
theorem at_T104 {w : World} {A : Option Addr} {n : Nat} {xs : List S104} (h : Kd.C k104 w A n xs) (i : Int) (h0 : 0 ≤ i) (h1 : i < n) : ∃ ad , A = some ad ∧ w.cell? (ad.add (i.toNat * 2)) = some (.int .i64 (rd_T104 xs i).f0) ∧ w.cell? ⟨(ad.add (i.toNat * 2)).block, (ad.add (i.toNat * 2)).off + 1, none⟩ = some (.int .i64 (rd_T104 xs i).f1) := by
 obtain ⟨ad, c, e, _, hK, hc0⟩ := Kd.C_get h z104 i h0 h1
 have hc : ∀ j u, c[j]? = some u → w.cell? (ad.add (i.toNat * 2 + j)) = some u := hc0
 obtain rfl := k104_open hK
 exact ⟨ad, e, hc 0 _ rfl, by rw [← add_field _ _ 1 (by omega)]; exact hc 1 _ rfl⟩
end Go.Proofs.Ytgkplhdcafbfbaa.P
namespace Go.Proofs.Ytgkplhdcafbfbaa.P
open Go.RowKit Go.Proofs.YtgkplhdcafbfbaaW.PrintWords Go.Proofs.YtgkplhdcafbfbaaW.PrintLast Go.Proofs.YtgkplhdcafbfbaaW.PrintMore
attribute [local go_sem] max2_int min2_int max_two min_two max_three min_three max_four min_four
structure S46 where
 f0 : Int
 f1 : Int
 f2 : Int
 f3 : Int
 f4 : Int
 f5 : (List S87)
 f6 : (List S87)
 f7 : (List Int)
 f8 : (List Int)
end Go.Proofs.Ytgkplhdcafbfbaa.P
namespace Go.Proofs.Ytgkplhdcafbfbaa.P
open Go.RowKit Go.Proofs.YtgkplhdcafbfbaaW.PrintWords Go.Proofs.YtgkplhdcafbfbaaW.PrintLast Go.Proofs.YtgkplhdcafbfbaaW.PrintMore
attribute [local go_sem] max2_int min2_int max_two min_two max_three min_three max_four min_four
def inI (k : IntKind) (n : Int) : Prop := (Lit.int k n).wf = true
theorem inI_i64 {n : Int} (h : inI .i64 n) : -9223372036854775808 ≤ n ∧ n ≤ 9223372036854775807 := by
 have h2 : (Lit.int .i64 n).wf = true := h
 have e : IntKind.i64.min = -9223372036854775808 := by decide
 simp [Lit.wf, e] at h2
 exact h2
theorem inI_u64 {n : Int} (h : inI .u64 n) : 0 ≤ n ∧ n ≤ 18446744073709551615 := by
 have h2 : (Lit.int .u64 n).wf = true := h
 have e : IntKind.u64.min = 0 := by decide
 simp [Lit.wf, e] at h2
 exact h2
def Opens {α : Type} (P : Program) (t : TypeId) (d : Kd α) (wf : α → Prop) : Prop := ∀ {H : Type} (enc : TypeId × Value → H) (w : World) (base : Nat) (sp : Nat → Bool) (held : Bool) (fuel : Nat) (cs : List Value) (x : DataW H × List MemPlace),
 DataW.trod enc P w base sp held fuel t cs = some x → ∃ y, d.K w y cs ∧ wf y
theorem opens_int {P : Program} {t : TypeId} {k : IntKind} (ht : P.underlying t = some (.int k)) : Opens P t (Kd.int k) (inI k) := by
 intro H enc w base sp held fuel cs x h
 obtain ⟨n, rfl, _, hw⟩ := DataW.trod_int ht h
 exact ⟨n, rfl, hw⟩
theorem opens_slice {α : Type} {P : Program} {t e : TypeId} {d : Kd α} {wf : α → Prop} (ht : P.underlying t = some (.slice e)) (hs : P.cellsOf e = d.sz) (ho : Opens P e d wf) : Opens P t (Kd.slice e d) (fun xs => ∀ x ∈ xs, wf x) := by
 intro H enc w base sp held fuel cs x h
 rcases Deep.open_slice ht h with ⟨rfl, _⟩ | ⟨a, len, cap, m, n, D, Pl, rfl, hb, hl, hm, hmm, _, hx⟩
 ·exact ⟨[], ⟨none, 0, rfl, Nat.le_refl _, Kd.C_nil _ _⟩, fun x hx => by cases hx⟩
 ·have hlm : len ≤ m := by rw [hmm]; split <;> omega
  unfold maxLen at hm
  rw [hs] at hx
  have each : ∀ i, i < len → ∃ y : α, (∃ cs', cs'.length = d.sz ∧ d.K w y cs' ∧ ∀ j u, cs'[j]? = some u → w.cell? (a.add (i * d.sz + j)) = some u) ∧ wf y := by
   intro i hi
   obtain ⟨cs', h1, h2⟩ := hx i (by omega)
   obtain ⟨y, hk, hw⟩ := ho _ _ _ _ _ _ _ _ h2
   obtain ⟨_, hlen, hcell⟩ := World.cells?_some h1
   refine ⟨y, ⟨cs', hlen, hk, fun j u hu => ?_⟩, hw⟩
   have hj : j < cs'.length := (List.getElem?_eq_some_iff.1 hu).1
   have := hcell j (by omega)
   rw [Deep.add_add] at this
   rw [this]; exact hu
  by_cases h0 : len = 0
  ·subst h0
   exact ⟨[], ⟨some a, cap, rfl, Nat.zero_le _, ⟨rfl, by simp, fun h => absurd h (Nat.lt_irrefl 0)⟩⟩, fun x hx => by cases hx⟩
  ·obtain ⟨y0, _⟩ := each 0 (by omega)
   have : Inhabited α := ⟨y0⟩
   obtain ⟨f, hf⟩ := Deep.choose_lt each
   refine ⟨(List.range len).map f, ⟨some a, cap, by simp, by simpa using hl, ⟨by simp, by simp; omega, fun _ => ⟨a, rfl, fun j p hj => ?_⟩⟩⟩, fun x hx => ?_⟩
   ·rw [List.getElem?_map] at hj
    obtain ⟨i, hi, rfl⟩ := Option.map_eq_some_iff.1 hj
    obtain ⟨hlt, rfl⟩ := List.getElem?_eq_some_iff.1 hi
    simp only [List.length_range] at hlt
    simp only [List.getElem_range]
    obtain ⟨cs', h1, h2, h3⟩ := (hf j hlt).1
    exact ⟨cs', h1, h2, h3⟩
   ·obtain ⟨i, hi, rfl⟩ := List.mem_map.1 hx
    exact (hf i (List.mem_range.1 hi)).2
def wf87 (x : S87) : Prop := (inI .i64) x.f0 ∧ (inI .i64) x.f1
set_option maxRecDepth 100000 in
theorem opens87 : Opens Try.prog 87 k87 wf87 := by
 intro H enc w base sp held fuel cs x h
 obtain ⟨xs, n, rfl, _, hl, hxl, hf⟩ := DataW.trod_struct Try.underlying87 h
 have hc : cs.length = 2 := hl.trans (by kernel_rfl)
 match cs, hc with
 | [c0, c1], _ =>
  have g0 : DataW.trod enc Try.prog w base sp held n 3 ((([c0, c1] : List Value).drop 0).take (Try.prog.cellsOf 3)) = xs[0]? := hf 0 _ rfl
  rw [show Try.prog.cellsOf 3 = 1 from by kernel_rfl] at g0
  have e0 : xs[0]? = some (xs[0]'(by rw [hxl]; decide)) := List.getElem?_eq_getElem _
  have g1 : DataW.trod enc Try.prog w base sp held n 3 ((([c0, c1] : List Value).drop 1).take (Try.prog.cellsOf 3)) = xs[1]? := hf 1 _ rfl
  rw [show Try.prog.cellsOf 3 = 1 from by kernel_rfl] at g1
  have e1 : xs[1]? = some (xs[1]'(by rw [hxl]; decide)) := List.getElem?_eq_getElem _
  obtain ⟨y0, hk0, hw0⟩ := (opens_int Try.underlying3) enc w base sp held n [c0] _ (g0.trans e0)
  injection (show [c0] = [Value.int .i64 y0] from hk0) with he0 _
  subst he0
  obtain ⟨y1, hk1, hw1⟩ := (opens_int Try.underlying3) enc w base sp held n [c1] _ (g1.trans e1)
  injection (show [c1] = [Value.int .i64 y1] from hk1) with he1 _
  subst he1
  exact ⟨⟨y0, y1⟩, k87_mk w ⟨y0, y1⟩ , ⟨hw0, hw1⟩⟩
def wf30 (x : S30) : Prop := (inI .i64) x.f0 ∧ (inI .u64) x.f1 ∧ (inI .u64) x.f2 ∧ (inI .u64) x.f3 ∧ (inI .u64) x.f4 ∧ (fun xs_ => ∀ x_ ∈ xs_, wf87 x_) x.f5 ∧ (fun xs_ => ∀ x_ ∈ xs_, wf87 x_) x.f6 ∧ (fun xs_ => ∀ x_ ∈ xs_, (inI .i64) x_) x.f7 ∧ (fun xs_ => ∀ x_ ∈ xs_, (inI .i64) x_) x.f8
set_option maxRecDepth 100000 in
theorem opens30 : Opens Try.prog 30 k30 wf30 := by
 intro H enc w base sp held fuel cs x h
 obtain ⟨xs, n, rfl, _, hl, hxl, hf⟩ := DataW.trod_struct Try.underlying30 h
 have hc : cs.length = 9 := hl.trans (by kernel_rfl)
 match cs, hc with
 | [c0, c1, c2, c3, c4, c5, c6, c7, c8], _ =>
  have g0 : DataW.trod enc Try.prog w base sp held n 3 ((([c0, c1, c2, c3, c4, c5, c6, c7, c8] : List Value).drop 0).take (Try.prog.cellsOf 3)) = xs[0]? := hf 0 _ rfl
  rw [show Try.prog.cellsOf 3 = 1 from by kernel_rfl] at g0
  have e0 : xs[0]? = some (xs[0]'(by rw [hxl]; decide)) := List.getElem?_eq_getElem _
  have g1 : DataW.trod enc Try.prog w base sp held n 26 ((([c0, c1, c2, c3, c4, c5, c6, c7, c8] : List Value).drop 1).take (Try.prog.cellsOf 26)) = xs[1]? := hf 1 _ rfl
  rw [show Try.prog.cellsOf 26 = 1 from by kernel_rfl] at g1
  have e1 : xs[1]? = some (xs[1]'(by rw [hxl]; decide)) := List.getElem?_eq_getElem _
  have g2 : DataW.trod enc Try.prog w base sp held n 26 ((([c0, c1, c2, c3, c4, c5, c6, c7, c8] : List Value).drop 2).take (Try.prog.cellsOf 26)) = xs[2]? := hf 2 _ rfl
  rw [show Try.prog.cellsOf 26 = 1 from by kernel_rfl] at g2
  have e2 : xs[2]? = some (xs[2]'(by rw [hxl]; decide)) := List.getElem?_eq_getElem _
  have g3 : DataW.trod enc Try.prog w base sp held n 26 ((([c0, c1, c2, c3, c4, c5, c6, c7, c8] : List Value).drop 3).take (Try.prog.cellsOf 26)) = xs[3]? := hf 3 _ rfl
  rw [show Try.prog.cellsOf 26 = 1 from by kernel_rfl] at g3
  have e3 : xs[3]? = some (xs[3]'(by rw [hxl]; decide)) := List.getElem?_eq_getElem _
  have g4 : DataW.trod enc Try.prog w base sp held n 26 ((([c0, c1, c2, c3, c4, c5, c6, c7, c8] : List Value).drop 4).take (Try.prog.cellsOf 26)) = xs[4]? := hf 4 _ rfl
  rw [show Try.prog.cellsOf 26 = 1 from by kernel_rfl] at g4
  have e4 : xs[4]? = some (xs[4]'(by rw [hxl]; decide)) := List.getElem?_eq_getElem _
  have g5 : DataW.trod enc Try.prog w base sp held n 27 ((([c0, c1, c2, c3, c4, c5, c6, c7, c8] : List Value).drop 5).take (Try.prog.cellsOf 27)) = xs[5]? := hf 5 _ rfl
  rw [show Try.prog.cellsOf 27 = 1 from by kernel_rfl] at g5
  have e5 : xs[5]? = some (xs[5]'(by rw [hxl]; decide)) := List.getElem?_eq_getElem _
  have g6 : DataW.trod enc Try.prog w base sp held n 27 ((([c0, c1, c2, c3, c4, c5, c6, c7, c8] : List Value).drop 6).take (Try.prog.cellsOf 27)) = xs[6]? := hf 6 _ rfl
  rw [show Try.prog.cellsOf 27 = 1 from by kernel_rfl] at g6
  have e6 : xs[6]? = some (xs[6]'(by rw [hxl]; decide)) := List.getElem?_eq_getElem _
  have g7 : DataW.trod enc Try.prog w base sp held n 28 ((([c0, c1, c2, c3, c4, c5, c6, c7, c8] : List Value).drop 7).take (Try.prog.cellsOf 28)) = xs[7]? := hf 7 _ rfl
  rw [show Try.prog.cellsOf 28 = 1 from by kernel_rfl] at g7
  have e7 : xs[7]? = some (xs[7]'(by rw [hxl]; decide)) := List.getElem?_eq_getElem _
  have g8 : DataW.trod enc Try.prog w base sp held n 28 ((([c0, c1, c2, c3, c4, c5, c6, c7, c8] : List Value).drop 8).take (Try.prog.cellsOf 28)) = xs[8]? := hf 8 _ rfl
  rw [show Try.prog.cellsOf 28 = 1 from by kernel_rfl] at g8
  have e8 : xs[8]? = some (xs[8]'(by rw [hxl]; decide)) := List.getElem?_eq_getElem _
  obtain ⟨y0, hk0, hw0⟩ := (opens_int Try.underlying3) enc w base sp held n [c0] _ (g0.trans e0)
  injection (show [c0] = [Value.int .i64 y0] from hk0) with he0 _
  subst he0
  obtain ⟨y1, hk1, hw1⟩ := (opens_int Try.underlying26) enc w base sp held n [c1] _ (g1.trans e1)
  injection (show [c1] = [Value.int .u64 y1] from hk1) with he1 _
  subst he1
  obtain ⟨y2, hk2, hw2⟩ := (opens_int Try.underlying26) enc w base sp held n [c2] _ (g2.trans e2)
  injection (show [c2] = [Value.int .u64 y2] from hk2) with he2 _
  subst he2
  obtain ⟨y3, hk3, hw3⟩ := (opens_int Try.underlying26) enc w base sp held n [c3] _ (g3.trans e3)
  injection (show [c3] = [Value.int .u64 y3] from hk3) with he3 _
  subst he3
  obtain ⟨y4, hk4, hw4⟩ := (opens_int Try.underlying26) enc w base sp held n [c4] _ (g4.trans e4)
  injection (show [c4] = [Value.int .u64 y4] from hk4) with he4 _
  subst he4
  obtain ⟨y5, hk5, hw5⟩ := (opens_slice (d := k87) Try.underlying27 (by kernel_rfl) opens87) enc w base sp held n [c5] _ (g5.trans e5)
  obtain ⟨A5, d5, he5, hl5, hC5⟩ := hk5
  injection he5 with he5 _
  subst he5
  obtain ⟨y6, hk6, hw6⟩ := (opens_slice (d := k87) Try.underlying27 (by kernel_rfl) opens87) enc w base sp held n [c6] _ (g6.trans e6)
  obtain ⟨A6, d6, he6, hl6, hC6⟩ := hk6
  injection he6 with he6 _
  subst he6
  obtain ⟨y7, hk7, hw7⟩ := (opens_slice (d := (Kd.int .i64)) Try.underlying28 (by kernel_rfl) (opens_int Try.underlying2)) enc w base sp held n [c7] _ (g7.trans e7)
  obtain ⟨A7, d7, he7, hl7, hC7⟩ := hk7
  injection he7 with he7 _
  subst he7
  obtain ⟨y8, hk8, hw8⟩ := (opens_slice (d := (Kd.int .i64)) Try.underlying28 (by kernel_rfl) (opens_int Try.underlying2)) enc w base sp held n [c8] _ (g8.trans e8)
  obtain ⟨A8, d8, he8, hl8, hC8⟩ := hk8
  injection he8 with he8 _
  subst he8
  exact ⟨⟨y0, y1, y2, y3, y4, y5, y6, y7, y8⟩, k30_mk w ⟨y0, y1, y2, y3, y4, y5, y6, y7, y8⟩ hl5 hC5 hl6 hC6 hl7 hC7 hl8 hC8, ⟨hw0, hw1, hw2, hw3, hw4, hw5, hw6, hw7, hw8⟩⟩
end Go.Proofs.Ytgkplhdcafbfbaa.P
namespace Go.Proofs.Ytgkplhdcafbfbaa.P
open Go.RowKit Go.Proofs.YtgkplhdcafbfbaaW.PrintWords Go.Proofs.YtgkplhdcafbfbaaW.PrintLast Go.Proofs.YtgkplhdcafbfbaaW.PrintMore
theorem wrap_id {x : Int} (h0 : -9223372036854775808 ≤ x) (h1 : x ≤ 9223372036854775807) : wrap64 x = x := by unfold wrap64; omega
theorem wrap_succ {i : Nat} (h : i < 9223372036854775807) : wrap64 ((i : Int) + 1) = ((i + 1 : Nat) : Int) := by unfold wrap64; omega
theorem wrap_range (x : Int) : -9223372036854775808 ≤ wrap64 x ∧ wrap64 x ≤ 9223372036854775807 := by unfold wrap64; omega
theorem rd_at {l : List Int} {i : Nat} (h : i < l.length) : rd l (i : Int) = l[i] := by unfold rd; simp [List.getD, h]
theorem drop_at {α : Type} {l : List α} {i : Nat} (h : i < l.length) : l.drop i = l[i] :: l.drop (i + 1) := List.drop_eq_getElem_cons h
theorem take_at {α : Type} {l : List α} {i : Nat} (h : i < l.length) : l.take (i + 1) = l.take i ++ [l[i]] := List.take_succ_eq_append_getElem h
theorem drop_end {α : Type} {l : List α} {i : Nat} (h : l.length ≤ i) : l.drop i = [] := List.drop_eq_nil_of_le h
def i64 (x : Int) : Prop := -9223372036854775808 ≤ x ∧ x ≤ 9223372036854775807
instance (x : Int) : Decidable (i64 x) := by unfold i64; exact inferInstance
def u64 (x : Int) : Prop := 0 ≤ x ∧ x ≤ 18446744073709551615
instance (x : Int) : Decidable (u64 x) := by unfold u64; exact inferInstance
theorem i64_of {x : Int} (h : inI .i64 x) : i64 x := inI_i64 h
theorem u64_of {x : Int} (h : inI .u64 x) : u64 x := inI_u64 h
theorem i64_all {l : List Int} (h : ∀ x ∈ l, inI .i64 x) : ∀ x ∈ l, i64 x := fun x hx => i64_of (h x hx)
theorem wrap_i64 (x : Int) : i64 (wrap64 x) := wrap_range x
theorem wrap_of_i64 {x : Int} (h : i64 x) : wrap64 x = x := wrap_id h.1 h.2
end Go.Proofs.Ytgkplhdcafbfbaa.P
namespace Go.Proofs.Ytgkplhdcafbfbaa.P
open Go.RowKit Go.Shelf Go.Proofs.YtgkplhdcafbfbaaW.PrintWords Go.Proofs.YtgkplhdcafbfbaaW.PrintLast Go.Proofs.YtgkplhdcafbfbaaW.PrintMore
def idxP {α : Type} (p : α → Bool) (l : List α) : Int := match l.findIdx? p with
  | some i => (i : Int)
  | none => -1
theorem idxP_hit {α : Type} (p : α → Bool) (l : List α) (i : Nat) (h : i < l.length) (hp : p l[i] = true) (hb : ∀ j (hj : j < i), p (l[j]'(Nat.lt_trans hj h)) = false) : idxP p l = i := by
  have : l.findIdx? p = some i := by
    rw [List.findIdx?_eq_some_iff_getElem]
    exact ⟨h, hp, fun j hj => by simp [hb j hj]⟩
  unfold idxP; rw [this]
theorem idxP_miss {α : Type} (p : α → Bool) (l : List α) (hb : ∀ j (hj : j < l.length), p l[j] = false) : idxP p l = -1 := by
  have : l.findIdx? p = none := by
    rw [List.findIdx?_eq_none_iff]
    intro x hx
    obtain ⟨j, hj, rfl⟩ := List.getElem_of_mem hx
    exact hb j hj
  unfold idxP; rw [this]
theorem of_ite_some {α : Type} {c : Prop} [Decidable c] {a r : α} (h : (if c then some a else none) = some r) : c ∧ a = r := by
  by_cases hc : c
  · rw [if_pos hc] at h; exact ⟨hc, Option.some.inj h⟩
  · rw [if_neg hc] at h; cases h
theorem find_idx {α : Type} (p : α → Bool) (l : List α) : (idxP p l = -1 ∧ l.find? p = none) ∨ (∃ i : Nat, ∃ h : i < l.length, idxP p l = (i : Int) ∧ l.find? p = some l[i]) := by
  unfold idxP
  cases h : l.findIdx? p with
  | none => exact .inl ⟨rfl, by rw [List.find?_eq_none]; rw [List.findIdx?_eq_none_iff] at h; intro x hx; simp [h x hx]⟩
  | some i =>
    rw [List.findIdx?_eq_some_iff_getElem] at h
    obtain ⟨hi, hp, hb⟩ := h
    exact .inr ⟨i, hi, rfl, by rw [List.find?_eq_some_iff_getElem]; exact ⟨hp, i, hi, rfl, fun j hj => by simpa using hb j hj⟩⟩
theorem R_beyond {α : Type} {d : Kd α} (hM : ∀ w w1 base ok x cs, d.M w base ok x cs → d.M w1 base ok x cs) {e : Nat} {w : World} {base : Nat} {ok : Nat → Prop} {g n cap : Nat} {xs : List α}
    (h : d.R e w base ok (.slice (some ⟨g, 0, none⟩) n cap) xs) (o : Nat) (seg : List Value) (ho : n * d.sz ≤ o) (hs : o + seg.length ≤ cap * d.sz) : d.R e (w.setCells g o seg) base ok (.slice (some ⟨g, 0, none⟩) n cap) xs := by
  obtain ⟨h0, inner, hown, hr⟩ := h
  refine ⟨h0, inner, ⟨hown.1, ?_⟩, hr.imp_ (fun p c hp => hM _ _ _ _ _ _ hp)⟩
  rcases hown.2 with ⟨hv, _⟩ | ⟨g', cap', cur, hv, hb, hh, hnc, hcm, hcs, ht⟩
  · cases hv
  injection hv with ha hn hc
  injection ha with ha
  injection ha with hg'
  subst hg'; subst hc
  obtain ⟨cur', h3, h4, h5⟩ := setCells_row seg o w cur hh (by omega)
  refine .inr ⟨g, cap, cur', by rw [hn], hb, h3, hnc, hcm, by omega, ?_⟩
  rw [← hn] at ht ⊢
  have hl : cur.toList.length = cap * d.sz := by rw [Array.length_toList]; exact hcs
  rw [h5, List.append_assoc, List.take_append_of_le_length (by rw [List.length_take]; omega), List.take_take, Nat.min_eq_left ho]
  exact ht
theorem piece_there {w : World} {g : Nat} {cur : Array Value} {e : TypeId} (hh : w.heap[g]? = some (.cells cur e (0, 0))) (o n : Nat) (h : o + n ≤ cur.size) :
    (∀ j, j < n → (w.cell? ⟨g, o + j, none⟩).isSome = true) ∧ (∀ j, j < n → w.frozen? ⟨g, o + j, none⟩ = false) :=
  ⟨fun j hj => by rw [blk_cell hh]; simp; omega, fun j _ => blk_frozen hh _⟩
theorem run_clear_cells {P : Program} (w : World) (t e ty : TypeId) (z : Value) (ht : P.underlying t = some (.slice e)) (hv : ∀ w, (zeroValue e).run P w = .ok z w) (g o n c : Nat) (hn : 0 < n)
    (hz : ∀ v ∈ (Builtin.zeroCells z.cells n).toList, v.oneCell' = true)
    (hc : ∀ j, j < (Builtin.zeroCells z.cells n).toList.length → (w.cell? ⟨g, o + j, none⟩).isSome = true) (hf : ∀ j, j < (Builtin.zeroCells z.cells n).toList.length → w.frozen? ⟨g, o + j, none⟩ = false) :
    (Builtin.clear_ #[t] ty #[.slice (some ⟨g, o, none⟩) n c]).run P w = .ok (.tuple #[]) (w.setCells g o (Builtin.zeroCells z.cells n).toList) := by
  have hst := run_storeCells_cells (P := P) g o (Builtin.zeroCells z.cells n).toList 0 w (by simpa using hc) (by simpa using hf) hz
  simp only [Nat.add_zero] at hst
  obtain ⟨m, rfl⟩ : ∃ m, n = m + 1 := ⟨n - 1, by omega⟩
  simp [Builtin.clear_, run_underlying ht, hv, hst]
structure DelInv {α : Type} (p : α → Bool) (xs : List α) (i j : Nat) (ys : List α) : Prop where
  len : ys.length = xs.length
  lt : i < j
  le : j ≤ xs.length
  low : ys.take i = (xs.take j).filter (fun x => !p x)
  high : ys.drop j = xs.drop j
theorem DelInv.start {α : Type} {p : α → Bool} {xs : List α} {i : Nat} (h : i < xs.length) (hp : p xs[i] = true) (hb : ∀ j (hj : j < i), p (xs[j]'(Nat.lt_trans hj h)) = false) : DelInv p xs i (i + 1) xs := by
  refine ⟨rfl, Nat.lt_succ_self _, h, ?_, rfl⟩
  rw [List.take_succ_eq_append_getElem h, List.filter_append]
  have h1 : (xs.take i).filter (fun x => !p x) = xs.take i := by
    rw [List.filter_eq_self]
    intro x hx
    obtain ⟨j, hj, rfl⟩ := List.getElem_of_mem hx
    rw [List.length_take] at hj
    rw [List.getElem_take, hb j (by omega)]; rfl
  rw [h1]; simp [hp]
theorem DelInv.at_ {α : Type} {p : α → Bool} {xs ys : List α} {i j : Nat} (h : DelInv p xs i j ys) (hj : j < xs.length) : ∃ h2 : j < ys.length, ys[j] = xs[j] := by
  have h2 : j < ys.length := by rw [h.len]; exact hj
  refine ⟨h2, ?_⟩
  have := congrArg (fun l => l[0]?) h.high
  simp only [List.getElem?_drop, Nat.add_zero, List.getElem?_eq_getElem h2, List.getElem?_eq_getElem hj] at this
  exact Option.some.inj this
theorem DelInv.skip {α : Type} {p : α → Bool} {xs ys : List α} {i j : Nat} (h : DelInv p xs i j ys) (hj : j < xs.length) (hp : p xs[j] = true) : DelInv p xs i (j + 1) ys := by
  refine ⟨h.len, by have := h.lt; omega, hj, ?_, ?_⟩
  · rw [h.low, List.take_succ_eq_append_getElem hj, List.filter_append]; simp [hp]
  · have := congrArg (List.drop 1) h.high
    rwa [List.drop_drop, List.drop_drop] at this
theorem DelInv.keep {α : Type} {p : α → Bool} {xs ys : List α} {i j : Nat} (h : DelInv p xs i j ys) (hj : j < xs.length) (hp : p xs[j] = false) : DelInv p xs (i + 1) (j + 1) (ys.set i xs[j]) := by
  have hlt := h.lt
  have hi : i < ys.length := by rw [h.len]; omega
  refine ⟨by rw [List.length_set]; exact h.len, by omega, hj, ?_, ?_⟩
  · rw [List.take_succ_eq_append_getElem (by rw [List.length_set]; exact hi), List.getElem_set_self, List.take_set_of_le (by omega), h.low, List.take_succ_eq_append_getElem hj, List.filter_append]; simp [hp]
  · rw [List.drop_set_of_lt (by omega)]
    have := congrArg (List.drop 1) h.high
    rwa [List.drop_drop, List.drop_drop] at this
theorem DelInv.done {α : Type} {p : α → Bool} {xs ys : List α} {i : Nat} (h : DelInv p xs i xs.length ys) : ys.take i = xs.filter (fun x => !p x) := by
  rw [h.low, List.take_of_length_le (Nat.le_refl _)]
theorem idxP_cases {α : Type} (p : α → Bool) (l : List α) : (idxP p l = -1 ∧ l.filter (fun x => !p x) = l) ∨ (∃ i : Nat, ∃ h : i < l.length, idxP p l = (i : Int) ∧ p l[i] = true ∧ ∀ j (hj : j < i), p (l[j]'(Nat.lt_trans hj h)) = false) := by
  unfold idxP
  cases h : l.findIdx? p with
  | none =>
    refine .inl ⟨rfl, ?_⟩
    rw [List.findIdx?_eq_none_iff] at h
    rw [List.filter_eq_self]
    intro x hx; simp [h x hx]
  | some i =>
    rw [List.findIdx?_eq_some_iff_getElem] at h
    obtain ⟨hi, hp, hb⟩ := h
    exact .inr ⟨i, hi, rfl, hp, fun j hj => by simpa using hb j hj⟩
end Go.Proofs.Ytgkplhdcafbfbaa.P
namespace Go.Proofs.Ytgkplhdcafbfbaa.P
open Go.RowKit Go.Shelf Go.Proofs.YtgkplhdcafbfbaaW.PrintWords Go.Proofs.YtgkplhdcafbfbaaW.PrintLast Go.Proofs.YtgkplhdcafbfbaaW.PrintMore
def slices_Clone_span.f (l0 : List S87) : Option (List S87) := if l0.length < 8796093022208 then some l0 else none
set_option maxHeartbeats 2000000 in
set_option maxRecDepth 100000 in
theorem slices_Clone_span.calls (A0 : Option Addr) (c0 : Nat) (l0 r : List S87) (w : World) (hr0 : Kd.C k87 w A0 l0.length l0) (hc0 : l0.length ≤ c0) (h : slices_Clone_span.f l0 = some r) :
    Calls Try.prog 80 #[.slice A0 l0.length c0] w fun e w' => ∃ v0_ : Value, e = .returned (v0_) ∧ Kd.R k87 87 w' w.heap.size (fun _ => True) v0_ r ∧ Below w.heap.size w w' := by
  obtain ⟨hm, h2⟩ := of_ite_some h
  subst h2
  clear h
  have hu := Try.underlying27
  have HM := Aside0.mk hm
  clear hm
  cases A0 with
  | none =>
    have hl : l0 = [] := by
      rcases Nat.eq_zero_or_pos l0.length with h | h
      · exact List.length_eq_zero_iff.1 h
      · obtain ⟨ad, e, _⟩ := hr0.2.2 h
        cases e
    subst hl
    have hn : ∀ W n c, (binOp .eql 27 (.slice none n c) (.slice none 0 0)).run Try.prog W = .ok (.bool true) W := fun W n c => by
      exact Lib.run_eql_slice_nil W _ _ none n c 0 0 Try.underlying27
    go_enter Try.func80, Try.ntmps80
    go_wp2
    go_ret
    exact ⟨_, rfl, Kd.R_nil _ _ _ _ _, Below.refl _ _⟩
  | some ad =>
    have hn : ∀ W n c, (binOp .eql 27 (.slice (some ad) n c) (.slice none 0 0)).run Try.prog W = .ok (.bool false) W := fun W n c => by
      exact Lib.run_eql_slice_nil W _ _ (some ad) n c 0 0 Try.underlying27
    have HR := Aside0.mk hr0
    clear hr0
    go_enter Try.func80, Try.ntmps80
    go_wp2_with ((with_reducible refine gate_builtin (b := .append) (xs := #[.tmp 5, .tmp 6]) rfl ?_); at_builtin; refine Kd.R_append_rows k87 (w0 := w) (Rr := k87.K w) w.heap.size rfl (.tmp 5) (.tmp 6) 27 87 _ 16 rfl Try.underlying27 info87 rfl (by decide) (by omega) (.slice (some ⟨w.heap.size, 0, none⟩) 0 0) [] l0 (some ad) l0.length c0 (fun _ => True) (fun _ => False) rfl rfl ?aO ?aR ?aK (fun _ hk => hk.elim) (fun _ _ => trivial) ?aB ?aS ?aL ?_; (case aO => exact ⟨fun _ _ => trivial, [], ⟨rfl, .inr ⟨w.heap.size, 0, #[], rfl, Nat.le_refl _, by simpa using blk_new w _, Nat.le_refl _, by unfold maxLen; omega, rfl, rfl⟩⟩, Reps.none _ _⟩); (case aR => exact HR.out.imp_ (below_alloc (Below.refl _ _) _) (fun _ _ h => h)); (case aK => intro x cs hx; rw [k87_open hx]; exact k87_mkM _ _ _ x); (case aB => exact below_alloc (Below.refl _ _) _); (case aS => simp); (case aL => have := HM.out; simp; omega); intro v1 w1 ho hb hg hat; rw [List.nil_append] at ho; have HO := Aside0.mk ho; have HB := Aside0.mk hb; clear ho hb hg hat)
    go_ret
    exact ⟨_, rfl, HO.out, HB.out⟩
end Go.Proofs.Ytgkplhdcafbfbaa.P
namespace Go.Proofs.Ytgkplhdcafbfbaa.P
open Go.RowKit Go.Proofs.YtgkplhdcafbfbaaW.PrintWords Go.Proofs.YtgkplhdcafbfbaaW.PrintLast Go.Proofs.YtgkplhdcafbfbaaW.PrintMore
attribute [local go_sem] max2_int min2_int max_two min_two max_three min_three max_four min_four
def span_in.f (a0 : Int) : Option (Bool) := if a0 ≥ (-1048576) then (some (decide (a0 ≤ 1048576))) else (some false)
set_option maxHeartbeats 8000000 in
set_option maxRecDepth 100000 in
theorem span_in.calls (a0 : Int) (r : Bool) (w : World) (h : span_in.f a0 = some r) :
  Calls Try.prog 136 #[.int .i64 a0] w fun e w' => e = .returned (.bool r) ∧ Drawn0 w w' := by
 have H : (if a0 ≥ (-1048576) then (some (decide (a0 ≤ 1048576))) else (some false)) = some r := h
 clear h
 by_cases c2 : a0 ≥ (-1048576)
 ·rw [if_pos c2] at H
  have c2b0 : decide ((-1048576) ≤ a0) = true := decide_eq_true c2
  clear c2
  obtain rfl := Option.some.inj H
  go_enter Try.func136, Try.ntmps136
  go_wp2
  go_ret
  exact ⟨by first | rfl | (simp; done) | (simp [*]; done), by repeat (first | exact Drawn0.refl _ | apply Drawn0.step)⟩
 ·rw [if_neg c2] at H
  have c2b0 : decide ((-1048576) ≤ a0) = false := decide_eq_false c2
  clear c2
  obtain rfl := Option.some.inj H
  go_enter Try.func136, Try.ntmps136
  go_wp2
  go_ret
  exact ⟨by first | rfl | (simp; done) | (simp [*]; done), by repeat (first | exact Drawn0.refl _ | apply Drawn0.step)⟩
mutual
def span_right.l0 : Nat → Int → Int → List (S87) → Int → Int → Option (Bool)
 | 0, _, _, _, _, _ => none
 | k + 1, x3, x4, x7, x8, x9 => if x9 < x8 then (if 0 ≤ x9 then (if x9 < (x7.length : Int) then (if ((rd_T87 x7 x9).f0) > 2097152 then (span_right.j1 k x3 x4 x7 x8 x9 true ((rd_T87 x7 x9).f0) ((rd_T87 x7 x9).f1)) else (if ((rd_T87 x7 x9).f1) < 0 then (span_right.j1 k x3 x4 x7 x8 x9 true ((rd_T87 x7 x9).f0) ((rd_T87 x7 x9).f1)) else (if ((rd_T87 x7 x9).f1) > 4096 then (span_right.j1 k x3 x4 x7 x8 x9 true ((rd_T87 x7 x9).f0) ((rd_T87 x7 x9).f1)) else (if ((rd_T87 x7 x9).f0) < 0 then (if x9 > 0 then (span_right.j1 k x3 x4 x7 x8 x9 true ((rd_T87 x7 x9).f0) ((rd_T87 x7 x9).f1)) else ((span_in.f ((rd_T87 x7 x9).f0)).bind fun t103 => (span_right.j1 k x3 x4 x7 x8 x9 (!t103) ((rd_T87 x7 x9).f0) ((rd_T87 x7 x9).f1)))) else (span_right.j1 k x3 x4 x7 x8 x9 false ((rd_T87 x7 x9).f0) ((rd_T87 x7 x9).f1)))))) else (none)) else (none)) else (some true)
def span_right.j1 : Nat → Int → Int → List (S87) → Int → Int → Bool → Int → Int → Option (Bool)
 | 0, _, _, _, _, _, _, _, _ => none
 | k + 1, x3, x4, x7, x8, x9, x41, x103000, x103001 => if x41 = true then (some false) else ((span_in.f (wrap64 (x3 + x103000))).bind fun t104 => (if t104 = true then ((span_in.f (wrap64 ((wrap64 (x3 + x103000)) + (mx (wrap64 (x103001 - 1)) 0)))).bind fun t105 => (if t105 = true then (if (wrap64 (x4 + x103001)) > 4096 then (some false) else (span_right.l0 k (wrap64 ((wrap64 (x3 + x103000)) + x103001)) (wrap64 (x4 + x103001)) x7 x8 (wrap64 (x9 + 1)))) else (some false))) else (some false)))
end
def span_right.f (k : Nat) (l0 : List (S87)) : Option (Bool) := span_right.l0 k 0 0 l0 (l0.length : Int) 0
set_option maxHeartbeats 8000000 in
set_option maxRecDepth 100000 in
theorem span_right.calls (k : Nat) (A0 : Option Addr) (c0 : Nat) (l0 : List (S87)) (r : Bool) (w : World) (hr0 : Kd.C k87 w A0 l0.length l0) (hc0 : l0.length ≤ c0) (h : span_right.f k l0 = some r) :
  Calls Try.prog 133 #[.slice A0 l0.length c0] w fun e w' => e = .returned (.bool r) ∧ Below w.heap.size w w' := by
 have hu87 := Try.underlying87
 have HR0 := Aside0.mk hr0
 have HC0 := Aside0.mk hc0
 clear hr0 hc0
 have HB := Aside0.mk (Below.refl w.heap.size w)
 have H : (span_right.l0 k 0 0 l0 (l0.length : Int) 0) = some r := h
 clear h
 have H' := Aside0.mk H
 clear H
 go_enter Try.func133, Try.ntmps133
 go_wp2
 go_loopg [3, 4, 9] k (fun kq v3 v4 v9 w' => ∃ (x3_1 : Int) (x4_1 : Int) (x9_1 : Int), v3 = .int .i64 x3_1 ∧ v4 = .int .i64 x4_1 ∧ v9 = .int .i64 x9_1 ∧ Aside0 (span_right.l0 kq x3_1 x4_1 l0 (l0.length : Int) x9_1 = some r) ∧ Aside0 (kq ≤ k) ∧ Aside0 (Below w.heap.size w w'))
 case atStart => exact ⟨(0), (0), (0), (by first | rfl | (simp; done) | (simp [*]; done)), (by first | rfl | (simp; done) | (simp [*]; done)), (by first | rfl | (simp; done) | (simp [*]; done)), H', ⟨Nat.le_refl _⟩, ⟨by repeat (first | (with_reducible first | exact HB.out | apply below_alloc | apply pw_below_drewN | apply below_drew1) | exact HB.out)⟩⟩
 case round =>
  clear H'
  try clear c1
  obtain ⟨x3_1, x4_1, x9_1, rfl, rfl, rfl, HA, HK1, HB⟩ := hrel
  cases gk with
  | zero => exact absurd HA.out (by simp [span_right.l0])
  | succ k1 =>
   have H := HA.out
   clear HA
   simp only [span_right.l0] at H
   by_cases c2 : x9_1 < (l0.length : Int)
   ·rw [if_pos c2] at H
    have c2b0 : decide (x9_1 < (l0.length : Int)) = true := decide_eq_true c2
    clear c2
    by_cases c3 : 0 ≤ x9_1
    ·rw [if_pos c3] at H
     have c3b0 : decide (0 ≤ x9_1) = true := decide_eq_true c3
     clear c3
     by_cases c4 : x9_1 < (l0.length : Int)
     ·rw [if_pos c4] at H
      have c4b0 : decide (x9_1 < (l0.length : Int)) = true := decide_eq_true c4
      clear c4
      have HC5 := Aside0.mk H
      clear H
      have p101 : 0 ≤ (x9_1 : Int) := of_decide_eq_true (by first | (with_reducible assumption) | assumption)
      have q101 : x9_1 < (l0.length : Int) := of_decide_eq_true (by first | (with_reducible assumption) | assumption)
      obtain ⟨ad101, e101, hx101_0, hx101_1⟩ := at_T87 HR0.out x9_1 p101 q101
      cases e101
      replace hx101_0 := (HB.out.cell (World.block_lt_of_cell? w _ hx101_0)).trans hx101_0
      replace hx101_1 := (HB.out.cell (World.block_lt_of_cell? w _ hx101_1)).trans hx101_1
      replace p101 := eq_true p101
      replace q101 := eq_true q101
      go_upto_region 5 with (first | ((with_reducible refine gate_dst (N := 6) rfl ?_); (try (refine gate_guard (by rfl) ?_; dsimp only)); refine box_event ?hg (N := 6) ?hd (cs := #[.int .i64 0, .int .i64 0]) (t := 87) ?hr ?_; (case hd => rfl); (case hg => rfl); (case hr => first | (go_simp; done) | (go_simp; rfl)); intro gb102 hg w6 hbox hb; have n0_ := Aside0.mk (below_step (by repeat (first | (with_reducible first | exact HB.out | apply below_alloc | apply pw_below_drewN | apply below_drew1) | exact HB.out)) hb); have n1_ := Aside0.mk (hbox); have n2_ := Aside0.mk ((by rw [hg]; exact (below_size (by repeat (first | (with_reducible first | exact HB.out | apply below_alloc | apply pw_below_drewN | apply below_drew1) | exact HB.out))) : w.heap.size ≤ gb102)); have n3_ := Aside0.mk ((by rw [hg]; exact (below_size (by repeat (first | (with_reducible first | exact HB.out | apply below_alloc | apply pw_below_drewN | apply below_drew1) | exact HB.out))) : w.heap.size ≤ gb102)); clear HB; have HB := n0_; have BK102 := n1_; have GW102 := n2_; have GE102 := n3_; clear n0_ n1_ n2_ n3_; clear hb hbox hg; have hcz7_0 : w6.cell? ⟨gb102, 0, none⟩ = some (.int .i64 0) := (blk_cell BK102.out 0).trans rfl; have hcz7_1 : w6.cell? ⟨gb102, 1, none⟩ = some (.int .i64 0) := (blk_cell BK102.out 1).trans rfl; have hfz7_0 := blk_frozen BK102.out 0; have hfz7_1 := blk_frozen BK102.out 1))
      (try simp only [Act.put, List.setIfInBounds_toArray, List.set_cons_zero, List.set_cons_succ])
      go_cut [41] (fun v41 wc => ∃ (kq : Nat) (x41_4 : Bool), v41 = .bool x41_4 ∧ Aside0 (span_right.j1 kq x3_1 x4_1 l0 (l0.length : Int) x9_1 x41_4 ((rd_T87 l0 x9_1).f0) ((rd_T87 l0 x9_1).f1) = some r) ∧ Aside0 (kq ≤ k1) ∧ Aside0 (wc.heap[gb102]? = some (.cells #[.int .i64 ((rd_T87 l0 x9_1).f0), .int .i64 ((rd_T87 l0 x9_1).f1)] 87 (0, 0))) ∧ Aside0 (Below w.heap.size w wc))
      case first =>
       have H := HC5.out
       clear HC5
       by_cases c8 : ((rd_T87 l0 x9_1).f0) > 2097152
       ·rw [if_pos c8] at H
        have c8b0 : decide (2097152 < ((rd_T87 l0 x9_1).f0)) = true := decide_eq_true c8
        clear c8
        (first | rw [c8b0] | (simp only [i64_w, i32_w]; rw [c8b0]) | skip)
        have H' := Aside0.mk H
        clear H
        have hcz9_0 : w6.cell? ⟨gb102, 0, none⟩ = some (.int .i64 0) := (blk_cell BK102.out 0).trans rfl
        have hcz9_1 : w6.cell? ⟨gb102, 1, none⟩ = some (.int .i64 0) := (blk_cell BK102.out 1).trans rfl
        have hfz9_0 := blk_frozen BK102.out 0
        have hfz9_1 := blk_frozen BK102.out 1
        go_wp2
        go_meet
        case rel => exact ⟨_, (true), (by first | rfl | (simp; done) | (simp [*]; done)), H', ⟨by have := HK1.out; first | omega | exact Nat.le_refl _⟩, ⟨by (with_reducible repeat (first | refine blk_drewN ?_ _ | refine blk_drew ?_ | refine blk_alloc ?_ _)); refine blk_put (cs := #[.int .i64 ((rd_T87 l0 x9_1).f0), .int .i64 0]) ?_ 1 _ rfl; (with_reducible repeat (first | refine blk_drewN ?_ _ | refine blk_drew ?_ | refine blk_alloc ?_ _)); refine blk_put (cs := #[.int .i64 0, .int .i64 0]) ?_ 0 _ rfl; (with_reducible repeat (first | refine blk_drewN ?_ _ | refine blk_drew ?_ | refine blk_alloc ?_ _)); exact BK102.out⟩, ⟨by repeat (first | (with_reducible first | exact HB.out | apply below_alloc | apply pw_below_drewN | apply below_drew1 | refine below_set ?_ GE102.out) | exact HB.out)⟩⟩
       ·rw [if_neg c8] at H
        have c8b0 : decide (2097152 < ((rd_T87 l0 x9_1).f0)) = false := decide_eq_false c8
        clear c8
        (first | rw [c8b0] | (simp only [i64_w, i32_w]; rw [c8b0]) | skip)
        by_cases c10 : ((rd_T87 l0 x9_1).f1) < 0
        ·rw [if_pos c10] at H
         have c10b0 : decide (((rd_T87 l0 x9_1).f1) < 0) = true := decide_eq_true c10
         clear c10
         have H' := Aside0.mk H
         clear H
         have hcz11_0 : w6.cell? ⟨gb102, 0, none⟩ = some (.int .i64 0) := (blk_cell BK102.out 0).trans rfl
         have hcz11_1 : w6.cell? ⟨gb102, 1, none⟩ = some (.int .i64 0) := (blk_cell BK102.out 1).trans rfl
         have hfz11_0 := blk_frozen BK102.out 0
         have hfz11_1 := blk_frozen BK102.out 1
         go_wp2
         go_meet
         case rel => exact ⟨_, (true), (by first | rfl | (simp; done) | (simp [*]; done)), H', ⟨by have := HK1.out; first | omega | exact Nat.le_refl _⟩, ⟨by (with_reducible repeat (first | refine blk_drewN ?_ _ | refine blk_drew ?_ | refine blk_alloc ?_ _)); refine blk_put (cs := #[.int .i64 ((rd_T87 l0 x9_1).f0), .int .i64 0]) ?_ 1 _ rfl; (with_reducible repeat (first | refine blk_drewN ?_ _ | refine blk_drew ?_ | refine blk_alloc ?_ _)); refine blk_put (cs := #[.int .i64 0, .int .i64 0]) ?_ 0 _ rfl; (with_reducible repeat (first | refine blk_drewN ?_ _ | refine blk_drew ?_ | refine blk_alloc ?_ _)); exact BK102.out⟩, ⟨by repeat (first | (with_reducible first | exact HB.out | apply below_alloc | apply pw_below_drewN | apply below_drew1 | refine below_set ?_ GE102.out) | exact HB.out)⟩⟩
        ·rw [if_neg c10] at H
         have c10b0 : decide (((rd_T87 l0 x9_1).f1) < 0) = false := decide_eq_false c10
         clear c10
         by_cases c12 : ((rd_T87 l0 x9_1).f1) > 4096
         ·rw [if_pos c12] at H
          have c12b0 : decide (4096 < ((rd_T87 l0 x9_1).f1)) = true := decide_eq_true c12
          clear c12
          have H' := Aside0.mk H
          clear H
          have hcz13_0 : w6.cell? ⟨gb102, 0, none⟩ = some (.int .i64 0) := (blk_cell BK102.out 0).trans rfl
          have hcz13_1 : w6.cell? ⟨gb102, 1, none⟩ = some (.int .i64 0) := (blk_cell BK102.out 1).trans rfl
          have hfz13_0 := blk_frozen BK102.out 0
          have hfz13_1 := blk_frozen BK102.out 1
          go_wp2
          go_meet
          case rel => exact ⟨_, (true), (by first | rfl | (simp; done) | (simp [*]; done)), H', ⟨by have := HK1.out; first | omega | exact Nat.le_refl _⟩, ⟨by (with_reducible repeat (first | refine blk_drewN ?_ _ | refine blk_drew ?_ | refine blk_alloc ?_ _)); refine blk_put (cs := #[.int .i64 ((rd_T87 l0 x9_1).f0), .int .i64 0]) ?_ 1 _ rfl; (with_reducible repeat (first | refine blk_drewN ?_ _ | refine blk_drew ?_ | refine blk_alloc ?_ _)); refine blk_put (cs := #[.int .i64 0, .int .i64 0]) ?_ 0 _ rfl; (with_reducible repeat (first | refine blk_drewN ?_ _ | refine blk_drew ?_ | refine blk_alloc ?_ _)); exact BK102.out⟩, ⟨by repeat (first | (with_reducible first | exact HB.out | apply below_alloc | apply pw_below_drewN | apply below_drew1 | refine below_set ?_ GE102.out) | exact HB.out)⟩⟩
         ·rw [if_neg c12] at H
          have c12b0 : decide (4096 < ((rd_T87 l0 x9_1).f1)) = false := decide_eq_false c12
          clear c12
          by_cases c14 : ((rd_T87 l0 x9_1).f0) < 0
          ·rw [if_pos c14] at H
           have c14b0 : decide (((rd_T87 l0 x9_1).f0) < 0) = true := decide_eq_true c14
           clear c14
           by_cases c15 : x9_1 > 0
           ·rw [if_pos c15] at H
            have c15b0 : decide (0 < x9_1) = true := decide_eq_true c15
            clear c15
            have H' := Aside0.mk H
            clear H
            have hcz16_0 : w6.cell? ⟨gb102, 0, none⟩ = some (.int .i64 0) := (blk_cell BK102.out 0).trans rfl
            have hcz16_1 : w6.cell? ⟨gb102, 1, none⟩ = some (.int .i64 0) := (blk_cell BK102.out 1).trans rfl
            have hfz16_0 := blk_frozen BK102.out 0
            have hfz16_1 := blk_frozen BK102.out 1
            go_wp2
            go_meet
            case rel => exact ⟨_, (true), (by first | rfl | (simp; done) | (simp [*]; done)), H', ⟨by have := HK1.out; first | omega | exact Nat.le_refl _⟩, ⟨by (with_reducible repeat (first | refine blk_drewN ?_ _ | refine blk_drew ?_ | refine blk_alloc ?_ _)); refine blk_put (cs := #[.int .i64 ((rd_T87 l0 x9_1).f0), .int .i64 0]) ?_ 1 _ rfl; (with_reducible repeat (first | refine blk_drewN ?_ _ | refine blk_drew ?_ | refine blk_alloc ?_ _)); refine blk_put (cs := #[.int .i64 0, .int .i64 0]) ?_ 0 _ rfl; (with_reducible repeat (first | refine blk_drewN ?_ _ | refine blk_drew ?_ | refine blk_alloc ?_ _)); exact BK102.out⟩, ⟨by repeat (first | (with_reducible first | exact HB.out | apply below_alloc | apply pw_below_drewN | apply below_drew1 | refine below_set ?_ GE102.out) | exact HB.out)⟩⟩
           ·rw [if_neg c15] at H
            have c15b0 : decide (0 < x9_1) = false := decide_eq_false c15
            clear c15
            replace H := Option.bind_eq_some_iff.mp H
            obtain ⟨t103, A170, H⟩ := H
            replace H : (span_right.j1 k1 x3_1 x4_1 l0 (l0.length : Int) x9_1 (!t103) ((rd_T87 l0 x9_1).f0) ((rd_T87 l0 x9_1).f1)) = some r := H
            have A17 := Aside0.mk A170
            clear A170
            have H' := Aside0.mk H
            clear H
            have hcz18_0 : w6.cell? ⟨gb102, 0, none⟩ = some (.int .i64 0) := (blk_cell BK102.out 0).trans rfl
            have hcz18_1 : w6.cell? ⟨gb102, 1, none⟩ = some (.int .i64 0) := (blk_cell BK102.out 1).trans rfl
            have hfz18_0 := blk_frozen BK102.out 0
            have hfz18_1 := blk_frozen BK102.out 1
            go_wp2_with (first | (go_at_call 136; (with_reducible refine (span_in.calls ((rd_T87 l0 x9_1).f0) t103 _ A17.out).mono ?_); rintro e w' ⟨rfl, ⟨nd, rfl⟩⟩; clear A17))
            go_meet
            case rel => exact ⟨_, (!t103), (by first | rfl | (simp; done) | (simp [*]; done)), H', ⟨by have := HK1.out; first | omega | exact Nat.le_refl _⟩, ⟨by (with_reducible repeat (first | refine blk_drewN ?_ _ | refine blk_drew ?_ | refine blk_alloc ?_ _)); refine blk_put (cs := #[.int .i64 ((rd_T87 l0 x9_1).f0), .int .i64 0]) ?_ 1 _ rfl; (with_reducible repeat (first | refine blk_drewN ?_ _ | refine blk_drew ?_ | refine blk_alloc ?_ _)); refine blk_put (cs := #[.int .i64 0, .int .i64 0]) ?_ 0 _ rfl; (with_reducible repeat (first | refine blk_drewN ?_ _ | refine blk_drew ?_ | refine blk_alloc ?_ _)); exact BK102.out⟩, ⟨by repeat (first | (with_reducible first | exact HB.out | apply below_alloc | apply pw_below_drewN | apply below_drew1 | refine below_set ?_ GE102.out) | exact HB.out)⟩⟩
          ·rw [if_neg c14] at H
           have c14b0 : decide (((rd_T87 l0 x9_1).f0) < 0) = false := decide_eq_false c14
           clear c14
           have H' := Aside0.mk H
           clear H
           have hcz19_0 : w6.cell? ⟨gb102, 0, none⟩ = some (.int .i64 0) := (blk_cell BK102.out 0).trans rfl
           have hcz19_1 : w6.cell? ⟨gb102, 1, none⟩ = some (.int .i64 0) := (blk_cell BK102.out 1).trans rfl
           have hfz19_0 := blk_frozen BK102.out 0
           have hfz19_1 := blk_frozen BK102.out 1
           go_wp2
           go_meet
           case rel => exact ⟨_, (false), (by first | rfl | (simp; done) | (simp [*]; done)), H', ⟨by have := HK1.out; first | omega | exact Nat.le_refl _⟩, ⟨by (with_reducible repeat (first | refine blk_drewN ?_ _ | refine blk_drew ?_ | refine blk_alloc ?_ _)); refine blk_put (cs := #[.int .i64 ((rd_T87 l0 x9_1).f0), .int .i64 0]) ?_ 1 _ rfl; (with_reducible repeat (first | refine blk_drewN ?_ _ | refine blk_drew ?_ | refine blk_alloc ?_ _)); refine blk_put (cs := #[.int .i64 0, .int .i64 0]) ?_ 0 _ rfl; (with_reducible repeat (first | refine blk_drewN ?_ _ | refine blk_drew ?_ | refine blk_alloc ?_ _)); exact BK102.out⟩, ⟨by repeat (first | (with_reducible first | exact HB.out | apply below_alloc | apply pw_below_drewN | apply below_drew1 | refine below_set ?_ GE102.out) | exact HB.out)⟩⟩
      case rest =>
       clear HC5
       try clear c1
       try clear p1
       try clear q1
       try clear hx1
       try clear c2
       try clear c2b0
       try clear p2
       try clear c3
       try clear c3b0
       try clear c4
       try clear c4b0
       try clear c8
       try clear c8b0
       try clear c10
       try clear c10b0
       try clear p10
       try clear q10
       try clear hx10
       try clear c12
       try clear c12b0
       try clear c13
       try clear c14
       try clear c14b0
       try clear c15
       try clear c15b0
       try clear hcz11_0
       try clear hcz11_1
       try clear hcz13_0
       try clear hcz13_1
       try clear hcz16_0
       try clear hcz16_1
       try clear hcz18_0
       try clear hcz18_1
       try clear hcz19_0
       try clear hcz19_1
       try clear hcz7_0
       try clear hcz7_1
       try clear hcz9_0
       try clear hcz9_1
       try clear hfz11_0
       try clear hfz11_1
       try clear hfz13_0
       try clear hfz13_1
       try clear hfz16_0
       try clear hfz16_1
       try clear hfz18_0
       try clear hfz18_1
       try clear hfz19_0
       try clear hfz19_1
       try clear hfz7_0
       try clear hfz7_1
       try clear hfz9_0
       try clear hfz9_1
       try clear hx101_0
       try clear hx101_1
       try clear p101
       try clear q101
       obtain ⟨kq, x41_4, rfl, HA, HJ4, BK102, HB⟩ := hcut
       cases kq with
       | zero => exact absurd HA.out (by simp [span_right.j1])
       | succ kj4 =>
        have H := HA.out
        clear HA
        simp only [span_right.j1] at H
        by_cases c20 : x41_4 = true
        ·subst c20
         have H1 : (some false) = some r := by rw [if_pos rfl] at H; exact H
         clear H
         have H := H1
         clear H1
         obtain rfl := Option.some.inj H
         go_wp2
         go_ret
         exact ⟨by first | rfl | (simp [errW_none, errW_some] <;> rfl) | (simp [*, errW_none, errW_some] <;> rfl), by repeat (first | (with_reducible first | exact HB.out | apply below_alloc | apply pw_below_drewN | apply below_drew1 | refine below_set ?_ GE102.out) | exact HB.out)⟩
        ·replace c20 := Bool.eq_false_iff.mpr c20
         subst c20
         have H1 : ((span_in.f (wrap64 (x3_1 + ((rd_T87 l0 x9_1).f0)))).bind fun t104 => (if t104 = true then ((span_in.f (wrap64 ((wrap64 (x3_1 + ((rd_T87 l0 x9_1).f0))) + (mx (wrap64 (((rd_T87 l0 x9_1).f1) - 1)) 0)))).bind fun t105 => (if t105 = true then (if (wrap64 (x4_1 + ((rd_T87 l0 x9_1).f1))) > 4096 then (some false) else (span_right.l0 kj4 (wrap64 ((wrap64 (x3_1 + ((rd_T87 l0 x9_1).f0))) + ((rd_T87 l0 x9_1).f1))) (wrap64 (x4_1 + ((rd_T87 l0 x9_1).f1))) l0 (l0.length : Int) (wrap64 (x9_1 + 1)))) else (some false))) else (some false))) = some r := by rw [if_neg (show ¬ (false = true) by decide)] at H; exact H
         clear H
         have H := H1
         clear H1
         replace H := Option.bind_eq_some_iff.mp H
         obtain ⟨t104, A210, H⟩ := H
         replace H : (if t104 = true then ((span_in.f (wrap64 ((wrap64 (x3_1 + ((rd_T87 l0 x9_1).f0))) + (mx (wrap64 (((rd_T87 l0 x9_1).f1) - 1)) 0)))).bind fun t105 => (if t105 = true then (if (wrap64 (x4_1 + ((rd_T87 l0 x9_1).f1))) > 4096 then (some false) else (span_right.l0 kj4 (wrap64 ((wrap64 (x3_1 + ((rd_T87 l0 x9_1).f0))) + ((rd_T87 l0 x9_1).f1))) (wrap64 (x4_1 + ((rd_T87 l0 x9_1).f1))) l0 (l0.length : Int) (wrap64 (x9_1 + 1)))) else (some false))) else (some false)) = some r := H
         have A21 := Aside0.mk A210
         clear A210
         by_cases c22 : t104 = true
         ·subst c22
          have H1 : ((span_in.f (wrap64 ((wrap64 (x3_1 + ((rd_T87 l0 x9_1).f0))) + (mx (wrap64 (((rd_T87 l0 x9_1).f1) - 1)) 0)))).bind fun t105 => (if t105 = true then (if (wrap64 (x4_1 + ((rd_T87 l0 x9_1).f1))) > 4096 then (some false) else (span_right.l0 kj4 (wrap64 ((wrap64 (x3_1 + ((rd_T87 l0 x9_1).f0))) + ((rd_T87 l0 x9_1).f1))) (wrap64 (x4_1 + ((rd_T87 l0 x9_1).f1))) l0 (l0.length : Int) (wrap64 (x9_1 + 1)))) else (some false))) = some r := by rw [if_pos rfl] at H; exact H
          clear H
          have H := H1
          clear H1
          obtain ⟨ji23, hji23⟩ : ∃ j_ : Int, (mx (wrap64 (((rd_T87 l0 x9_1).f1) - 1)) 0) = j_ := ⟨_, rfl⟩
          replace H : ((span_in.f (wrap64 ((wrap64 (x3_1 + ((rd_T87 l0 x9_1).f0))) + (ji23)))).bind fun t105 => (if t105 = true then (if (wrap64 (x4_1 + ((rd_T87 l0 x9_1).f1))) > 4096 then (some false) else (span_right.l0 kj4 (wrap64 ((wrap64 (x3_1 + ((rd_T87 l0 x9_1).f0))) + ((rd_T87 l0 x9_1).f1))) (wrap64 (x4_1 + ((rd_T87 l0 x9_1).f1))) l0 (l0.length : Int) (wrap64 (x9_1 + 1)))) else (some false))) = some r := by first | (rw [hji23] at H; exact H) | (simp only [hji23] at H ⊢; exact H)
          (try rw [hji23] at A21)
          have hji23_ : (if (wrap64 (((rd_T87 l0 x9_1).f1) - 1)) < 0 then 0 else (wrap64 (((rd_T87 l0 x9_1).f1) - 1))) = ji23 := hji23
          replace H := Option.bind_eq_some_iff.mp H
          obtain ⟨t105, A240, H⟩ := H
          replace H : (if t105 = true then (if (wrap64 (x4_1 + ((rd_T87 l0 x9_1).f1))) > 4096 then (some false) else (span_right.l0 kj4 (wrap64 ((wrap64 (x3_1 + ((rd_T87 l0 x9_1).f0))) + ((rd_T87 l0 x9_1).f1))) (wrap64 (x4_1 + ((rd_T87 l0 x9_1).f1))) l0 (l0.length : Int) (wrap64 (x9_1 + 1)))) else (some false)) = some r := H
          have A24 := Aside0.mk A240
          clear A240
          by_cases c25 : t105 = true
          ·subst c25
           have H1 : (if (wrap64 (x4_1 + ((rd_T87 l0 x9_1).f1))) > 4096 then (some false) else (span_right.l0 kj4 (wrap64 ((wrap64 (x3_1 + ((rd_T87 l0 x9_1).f0))) + ((rd_T87 l0 x9_1).f1))) (wrap64 (x4_1 + ((rd_T87 l0 x9_1).f1))) l0 (l0.length : Int) (wrap64 (x9_1 + 1)))) = some r := by rw [if_pos rfl] at H; exact H
           clear H
           have H := H1
           clear H1
           by_cases c26 : (wrap64 (x4_1 + ((rd_T87 l0 x9_1).f1))) > 4096
           ·rw [if_pos c26] at H
            have c26b0 : decide (4096 < (wrap64 (x4_1 + ((rd_T87 l0 x9_1).f1)))) = true := decide_eq_true c26
            clear c26
            obtain rfl := Option.some.inj H
            have hcz27_0 : wc.cell? ⟨gb102, 0, none⟩ = some (.int .i64 ((rd_T87 l0 x9_1).f0)) := (blk_cell BK102.out 0).trans rfl
            have hcz27_1 : wc.cell? ⟨gb102, 1, none⟩ = some (.int .i64 ((rd_T87 l0 x9_1).f1)) := (blk_cell BK102.out 1).trans rfl
            have hfz27_0 := blk_frozen BK102.out 0
            have hfz27_1 := blk_frozen BK102.out 1
            go_wp2_with (first | ((with_reducible refine gate_callee (f := 136) rfl ?_); refine goesL_ (some 51) rfl rfl Try.func136 (by kernel_rfl) rfl #[.int .i64 (wrap64 (x3_1 + ((rd_T87 l0 x9_1).f0)))] rfl (by (try simp only [List.map_toArray, List.map_cons, List.map_nil]); first | done | rfl | (simp only [List.length_drop, List.length_take]; rfl)) ?_; (with_reducible refine (span_in.calls (wrap64 (x3_1 + ((rd_T87 l0 x9_1).f0))) true _ A21.out).mono ?_); rintro e w' ⟨rfl, ⟨nd, rfl⟩⟩; refine ⟨_, rfl, ?_⟩; clear A21) | (go_at_call 136; (with_reducible refine (span_in.calls (wrap64 ((wrap64 (x3_1 + ((rd_T87 l0 x9_1).f0))) + (ji23))) true _ A24.out).mono ?_); rintro e w' ⟨rfl, ⟨nd, rfl⟩⟩; clear A24))
            go_ret
            exact ⟨by first | rfl | (simp [errW_none, errW_some] <;> rfl) | (simp only [← hji23]; first | rfl | (simp [errW_none, errW_some] <;> rfl)) | (simp [*, errW_none, errW_some] <;> rfl), by repeat (first | (with_reducible first | exact HB.out | apply below_alloc | apply pw_below_drewN | apply below_drew1 | refine below_set ?_ GE102.out) | exact HB.out)⟩
           ·rw [if_neg c26] at H
            have c26b0 : decide (4096 < (wrap64 (x4_1 + ((rd_T87 l0 x9_1).f1)))) = false := decide_eq_false c26
            clear c26
            have H' := Aside0.mk H
            clear H
            have hcz28_0 : wc.cell? ⟨gb102, 0, none⟩ = some (.int .i64 ((rd_T87 l0 x9_1).f0)) := (blk_cell BK102.out 0).trans rfl
            have hcz28_1 : wc.cell? ⟨gb102, 1, none⟩ = some (.int .i64 ((rd_T87 l0 x9_1).f1)) := (blk_cell BK102.out 1).trans rfl
            have hfz28_0 := blk_frozen BK102.out 0
            have hfz28_1 := blk_frozen BK102.out 1
            go_wp2_with (first | ((with_reducible refine gate_callee (f := 136) rfl ?_); refine goesL_ (some 51) rfl rfl Try.func136 (by kernel_rfl) rfl #[.int .i64 (wrap64 (x3_1 + ((rd_T87 l0 x9_1).f0)))] rfl (by (try simp only [List.map_toArray, List.map_cons, List.map_nil]); first | done | rfl | (simp only [List.length_drop, List.length_take]; rfl)) ?_; (with_reducible refine (span_in.calls (wrap64 (x3_1 + ((rd_T87 l0 x9_1).f0))) true _ A21.out).mono ?_); rintro e w' ⟨rfl, ⟨nd, rfl⟩⟩; refine ⟨_, rfl, ?_⟩; clear A21) | (go_at_call 136; (with_reducible refine (span_in.calls (wrap64 ((wrap64 (x3_1 + ((rd_T87 l0 x9_1).f0))) + (ji23))) true _ A24.out).mono ?_); rintro e w' ⟨rfl, ⟨nd, rfl⟩⟩; clear A24))
            go_roundg kj4
            case measure => have := HK1.out; have := HJ4.out; omega
            case rel => exact ⟨(wrap64 ((wrap64 (x3_1 + ((rd_T87 l0 x9_1).f0))) + ((rd_T87 l0 x9_1).f1))), (wrap64 (x4_1 + ((rd_T87 l0 x9_1).f1))), (wrap64 (x9_1 + 1)), (by first | rfl | (simp; done) | (simp [*]; done)), (by first | rfl | (simp; done) | (simp [*]; done)), (by first | rfl | (simp; done) | (simp [*]; done)), H', ⟨by have := HK1.out; have := HJ4.out; omega⟩, ⟨by repeat (first | (with_reducible first | exact HB.out | apply below_alloc | apply pw_below_drewN | apply below_drew1 | refine below_set ?_ GE102.out) | exact HB.out)⟩⟩
          ·replace c25 := Bool.eq_false_iff.mpr c25
           subst c25
           have H1 : (some false) = some r := by rw [if_neg (show ¬ (false = true) by decide)] at H; exact H
           clear H
           have H := H1
           clear H1
           obtain rfl := Option.some.inj H
           have hcz29_0 : wc.cell? ⟨gb102, 0, none⟩ = some (.int .i64 ((rd_T87 l0 x9_1).f0)) := (blk_cell BK102.out 0).trans rfl
           have hcz29_1 : wc.cell? ⟨gb102, 1, none⟩ = some (.int .i64 ((rd_T87 l0 x9_1).f1)) := (blk_cell BK102.out 1).trans rfl
           have hfz29_0 := blk_frozen BK102.out 0
           have hfz29_1 := blk_frozen BK102.out 1
           go_wp2_with (first | ((with_reducible refine gate_callee (f := 136) rfl ?_); refine goesL_ (some 51) rfl rfl Try.func136 (by kernel_rfl) rfl #[.int .i64 (wrap64 (x3_1 + ((rd_T87 l0 x9_1).f0)))] rfl (by (try simp only [List.map_toArray, List.map_cons, List.map_nil]); first | done | rfl | (simp only [List.length_drop, List.length_take]; rfl)) ?_; (with_reducible refine (span_in.calls (wrap64 (x3_1 + ((rd_T87 l0 x9_1).f0))) true _ A21.out).mono ?_); rintro e w' ⟨rfl, ⟨nd, rfl⟩⟩; refine ⟨_, rfl, ?_⟩; clear A21) | (go_at_call 136; (with_reducible refine (span_in.calls (wrap64 ((wrap64 (x3_1 + ((rd_T87 l0 x9_1).f0))) + (ji23))) false _ A24.out).mono ?_); rintro e w' ⟨rfl, ⟨nd, rfl⟩⟩; clear A24))
           go_ret
           exact ⟨by first | rfl | (simp [errW_none, errW_some] <;> rfl) | (simp only [← hji23]; first | rfl | (simp [errW_none, errW_some] <;> rfl)) | (simp [*, errW_none, errW_some] <;> rfl), by repeat (first | (with_reducible first | exact HB.out | apply below_alloc | apply pw_below_drewN | apply below_drew1 | refine below_set ?_ GE102.out) | exact HB.out)⟩
         ·replace c22 := Bool.eq_false_iff.mpr c22
          subst c22
          have H1 : (some false) = some r := by rw [if_neg (show ¬ (false = true) by decide)] at H; exact H
          clear H
          have H := H1
          clear H1
          obtain rfl := Option.some.inj H
          have hcz30_0 : wc.cell? ⟨gb102, 0, none⟩ = some (.int .i64 ((rd_T87 l0 x9_1).f0)) := (blk_cell BK102.out 0).trans rfl
          have hcz30_1 : wc.cell? ⟨gb102, 1, none⟩ = some (.int .i64 ((rd_T87 l0 x9_1).f1)) := (blk_cell BK102.out 1).trans rfl
          have hfz30_0 := blk_frozen BK102.out 0
          have hfz30_1 := blk_frozen BK102.out 1
          go_wp2_with (first | ((with_reducible refine gate_callee (f := 136) rfl ?_); refine goesL_ (some 51) rfl rfl Try.func136 (by kernel_rfl) rfl #[.int .i64 (wrap64 (x3_1 + ((rd_T87 l0 x9_1).f0)))] rfl (by (try simp only [List.map_toArray, List.map_cons, List.map_nil]); first | done | rfl | (simp only [List.length_drop, List.length_take]; rfl)) ?_; (with_reducible refine (span_in.calls (wrap64 (x3_1 + ((rd_T87 l0 x9_1).f0))) false _ A21.out).mono ?_); rintro e w' ⟨rfl, ⟨nd, rfl⟩⟩; refine ⟨_, rfl, ?_⟩; clear A21))
          go_ret
          exact ⟨by first | rfl | (simp [errW_none, errW_some] <;> rfl) | (simp [*, errW_none, errW_some] <;> rfl), by repeat (first | (with_reducible first | exact HB.out | apply below_alloc | apply pw_below_drewN | apply below_drew1 | refine below_set ?_ GE102.out) | exact HB.out)⟩
     ·rw [if_neg c4] at H
      exact absurd H (by simp)
    ·rw [if_neg c3] at H
     exact absurd H (by simp)
   ·rw [if_neg c2] at H
    have c2b0 : decide (x9_1 < (l0.length : Int)) = false := decide_eq_false c2
    clear c2
    obtain rfl := Option.some.inj H
    go_wp2
    go_ret
    exact ⟨by first | rfl | (simp [errW_none, errW_some] <;> rfl) | (simp [*, errW_none, errW_some] <;> rfl), by repeat (first | (with_reducible first | exact HB.out | apply below_alloc | apply pw_below_drewN | apply below_drew1) | exact HB.out)⟩
def span_Check.f (k : Nat) (l0 : List (S87)) : Option (Int) := if (l0.length : Int) > 1024 then (some 12) else ((span_right.f k l0).bind fun t101 => (if t101 = true then (some 0) else (some 20)))
set_option maxHeartbeats 8000000 in
set_option maxRecDepth 100000 in
theorem span_Check.calls (k : Nat) (A0 : Option Addr) (c0 : Nat) (l0 : List (S87)) (r : Int) (w : World) (hr0 : Kd.C k87 w A0 l0.length l0) (hc0 : l0.length ≤ c0) (h : span_Check.f k l0 = some r) :
  Calls Try.prog 118 #[.slice A0 l0.length c0] w fun e w' => e = .returned (.int .i64 r) ∧ Below w.heap.size w w' := by
 have HR0 := Aside0.mk hr0
 have HC0 := Aside0.mk hc0
 clear hr0 hc0
 have HB := Aside0.mk (Below.refl w.heap.size w)
 have H : (if (l0.length : Int) > 1024 then (some 12) else ((span_right.f k l0).bind fun t101 => (if t101 = true then (some 0) else (some 20)))) = some r := h
 clear h
 by_cases c2 : (l0.length : Int) > 1024
 ·rw [if_pos c2] at H
  have c2b0 : decide (1024 < (l0.length : Int)) = true := decide_eq_true c2
  have c2b1 : decide (1024 < l0.length) = true := decide_eq_true (by omega)
  clear c2
  obtain rfl := Option.some.inj H
  go_enter Try.func118, Try.ntmps118
  go_wp2
  go_ret
  exact ⟨by first | rfl | (simp [errW_none, errW_some] <;> rfl) | (simp [*, errW_none, errW_some] <;> rfl), by repeat (first | (with_reducible first | exact HB.out | apply below_alloc | apply pw_below_drewN | apply below_drew1) | exact HB.out)⟩
 ·rw [if_neg c2] at H
  have c2b0 : decide (1024 < (l0.length : Int)) = false := decide_eq_false c2
  have c2b1 : decide (1024 < l0.length) = false := decide_eq_false (by omega)
  clear c2
  replace H := Option.bind_eq_some_iff.mp H
  obtain ⟨t101, A30, H⟩ := H
  replace H : (if t101 = true then (some 0) else (some 20)) = some r := H
  have A3 := Aside0.mk A30
  clear A30
  by_cases c4 : t101 = true
  ·subst c4
   have H1 : (some 0) = some r := by rw [if_pos rfl] at H; exact H
   clear H
   have H := H1
   clear H1
   obtain rfl := Option.some.inj H
   go_enter Try.func118, Try.ntmps118
   go_wp2_with (first | ((with_reducible refine gate_callee (f := 133) rfl ?_); refine goesL_ (some 9) rfl rfl Try.func133 (by kernel_rfl) rfl #[.slice A0 l0.length c0] rfl (by (try simp only [List.map_toArray, List.map_cons, List.map_nil]); first | done | rfl | (simp only [List.length_drop, List.length_take]; rfl)) ?_; (with_reducible refine (span_right.calls k _ _ l0 true _ ?side1 ?side2 A3.out).mono ?_); (case side1 => repeat (first | exact HR0.out | (with_reducible refine Kd.C_alloc ?_ _) | (with_reducible refine Kd.C_drewN ?_ _) | (with_reducible refine Kd.C_drew ?_))); (case side2 => exact HC0.out); rintro e w5 ⟨rfl, hb⟩; refine ⟨_, rfl, ?_⟩; have n0_ := Aside0.mk (below_step (by repeat (first | (with_reducible first | exact HB.out | apply below_alloc | apply pw_below_drewN | apply below_drew1) | exact HB.out)) hb); clear HB; have HB := n0_; clear n0_; (try clear hb); (try clear hb2); (try clear hk); (try clear hi); clear A3))
   go_ret
   exact ⟨by first | rfl | (simp [errW_none, errW_some] <;> rfl) | (simp [*, errW_none, errW_some] <;> rfl), by repeat (first | (with_reducible first | exact HB.out | apply below_alloc | apply pw_below_drewN | apply below_drew1) | exact HB.out)⟩
  ·replace c4 := Bool.eq_false_iff.mpr c4
   subst c4
   have H1 : (some 20) = some r := by rw [if_neg (show ¬ (false = true) by decide)] at H; exact H
   clear H
   have H := H1
   clear H1
   obtain rfl := Option.some.inj H
   go_enter Try.func118, Try.ntmps118
   go_wp2_with (first | ((with_reducible refine gate_callee (f := 133) rfl ?_); refine goesL_ (some 9) rfl rfl Try.func133 (by kernel_rfl) rfl #[.slice A0 l0.length c0] rfl (by (try simp only [List.map_toArray, List.map_cons, List.map_nil]); first | done | rfl | (simp only [List.length_drop, List.length_take]; rfl)) ?_; (with_reducible refine (span_right.calls k _ _ l0 false _ ?side1 ?side2 A3.out).mono ?_); (case side1 => repeat (first | exact HR0.out | (with_reducible refine Kd.C_alloc ?_ _) | (with_reducible refine Kd.C_drewN ?_ _) | (with_reducible refine Kd.C_drew ?_))); (case side2 => exact HC0.out); rintro e w6 ⟨rfl, hb⟩; refine ⟨_, rfl, ?_⟩; have n0_ := Aside0.mk (below_step (by repeat (first | (with_reducible first | exact HB.out | apply below_alloc | apply pw_below_drewN | apply below_drew1) | exact HB.out)) hb); clear HB; have HB := n0_; clear n0_; (try clear hb); (try clear hb2); (try clear hk); (try clear hi); clear A3))
   go_ret
   exact ⟨by first | rfl | (simp [errW_none, errW_some] <;> rfl) | (simp [*, errW_none, errW_some] <;> rfl), by repeat (first | (with_reducible first | exact HB.out | apply below_alloc | apply pw_below_drewN | apply below_drew1) | exact HB.out)⟩
def span_Count.l0 : Nat → Int → List (S87) → Int → Int → Option (Int)
 | 0, _, _, _, _ => none
 | k + 1, x3, x9, x10, x11 => if x11 < x10 then (if 0 ≤ x11 then (if x11 < (x9.length : Int) then (span_Count.l0 k (wrap64 (x3 + ((rd_T87 x9 x11).f1))) x9 x10 (wrap64 (x11 + 1))) else (none)) else (none)) else (some x3)
def span_Count.f (k : Nat) (l0 : List (S87)) : Option (Int) := (span_Check.f k l0).bind fun t101 => (if t101 = 0 then (span_Count.l0 k 0 l0 (l0.length : Int) 0) else (some 0))
set_option maxHeartbeats 8000000 in
set_option maxRecDepth 100000 in
theorem span_Count.calls (k : Nat) (A0 : Option Addr) (c0 : Nat) (l0 : List (S87)) (r : Int) (w : World) (hr0 : Kd.C k87 w A0 l0.length l0) (hc0 : l0.length ≤ c0) (h : span_Count.f k l0 = some r) :
  Calls Try.prog 119 #[.slice A0 l0.length c0] w fun e w' => e = .returned (.int .i64 r) ∧ Below w.heap.size w w' := by
 have hu87 := Try.underlying87
 have HR0 := Aside0.mk hr0
 have HC0 := Aside0.mk hc0
 clear hr0 hc0
 have HB := Aside0.mk (Below.refl w.heap.size w)
 have H : ((span_Check.f k l0).bind fun t101 => (if t101 = 0 then (span_Count.l0 k 0 l0 (l0.length : Int) 0) else (some 0))) = some r := h
 clear h
 replace H := Option.bind_eq_some_iff.mp H
 obtain ⟨t101, A20, H⟩ := H
 replace H : (if t101 = 0 then (span_Count.l0 k 0 l0 (l0.length : Int) 0) else (some 0)) = some r := H
 have A2 := Aside0.mk A20
 clear A20
 by_cases c3 : t101 = 0
 ·rw [if_pos c3] at H
  have c3b0 : (t101 == 0) = true := beq_iff_eq.mpr c3
  have c3b1 : (t101 != 0) = false := bne_eq_false_iff_eq.mpr c3
  clear c3
  have H' := Aside0.mk H
  clear H
  go_enter Try.func119, Try.ntmps119
  go_wp2_with (first | ((with_reducible refine gate_callee (f := 118) rfl ?_); refine goesL_ (some 7) rfl rfl Try.func118 (by kernel_rfl) rfl #[.slice A0 l0.length c0] rfl (by (try simp only [List.map_toArray, List.map_cons, List.map_nil]); first | done | rfl | (simp only [List.length_drop, List.length_take]; rfl)) ?_; (with_reducible refine (span_Check.calls k _ _ l0 t101 _ ?side1 ?side2 A2.out).mono ?_); (case side1 => repeat (first | exact HR0.out | (with_reducible refine Kd.C_alloc ?_ _) | (with_reducible refine Kd.C_drewN ?_ _) | (with_reducible refine Kd.C_drew ?_))); (case side2 => exact HC0.out); rintro e w4 ⟨rfl, hb⟩; refine ⟨_, rfl, ?_⟩; have n0_ := Aside0.mk (below_step (by repeat (first | (with_reducible first | exact HB.out | apply below_alloc | apply pw_below_drewN | apply below_drew1) | exact HB.out)) hb); clear HB; have HB := n0_; clear n0_; (try clear hb); (try clear hb2); (try clear hk); (try clear hi); clear A2))
  go_loopg [3, 11] k (fun kq v3 v11 w' => ∃ (x3_1 : Int) (x11_1 : Int), v3 = .int .i64 x3_1 ∧ v11 = .int .i64 x11_1 ∧ Aside0 (span_Count.l0 kq x3_1 l0 (l0.length : Int) x11_1 = some r) ∧ Aside0 (kq ≤ k) ∧ Aside0 (Below w.heap.size w w'))
  case atStart => exact ⟨(0), (0), (by first | rfl | (simp; done) | (simp [*]; done)), (by first | rfl | (simp; done) | (simp [*]; done)), H', ⟨Nat.le_refl _⟩, ⟨by repeat (first | (with_reducible first | exact HB.out | apply below_alloc | apply pw_below_drewN | apply below_drew1) | exact HB.out)⟩⟩
  case round =>
   clear H'
   try clear c1
   try clear p2
   try clear c3
   try clear c3b0
   try clear c3b1
   obtain ⟨x3_1, x11_1, rfl, rfl, HA, HK1, HB⟩ := hrel
   cases gk with
   | zero => exact absurd HA.out (by simp [span_Count.l0])
   | succ k1 =>
    have H := HA.out
    clear HA
    simp only [span_Count.l0] at H
    by_cases c5 : x11_1 < (l0.length : Int)
    ·rw [if_pos c5] at H
     have c5b0 : decide (x11_1 < (l0.length : Int)) = true := decide_eq_true c5
     clear c5
     by_cases c6 : 0 ≤ x11_1
     ·rw [if_pos c6] at H
      have c6b0 : decide (0 ≤ x11_1) = true := decide_eq_true c6
      clear c6
      by_cases c7 : x11_1 < (l0.length : Int)
      ·rw [if_pos c7] at H
       have c7b0 : decide (x11_1 < (l0.length : Int)) = true := decide_eq_true c7
       clear c7
       have H' := Aside0.mk H
       clear H
       have p102 : 0 ≤ (x11_1 : Int) := of_decide_eq_true (by first | (with_reducible assumption) | assumption)
       have q102 : x11_1 < (l0.length : Int) := of_decide_eq_true (by first | (with_reducible assumption) | assumption)
       obtain ⟨ad102, e102, hx102_0, hx102_1⟩ := at_T87 HR0.out x11_1 p102 q102
       cases e102
       replace hx102_0 := (HB.out.cell (World.block_lt_of_cell? w _ hx102_0)).trans hx102_0
       replace hx102_1 := (HB.out.cell (World.block_lt_of_cell? w _ hx102_1)).trans hx102_1
       replace p102 := eq_true p102
       replace q102 := eq_true q102
       go_wp2_with (first | ((with_reducible refine gate_dst (N := 5) rfl ?_); refine box_event ?hg (N := 5) ?hd (cs := #[.int .i64 0, .int .i64 0]) (t := 87) ?hr ?_; (case hd => rfl); (case hg => rfl); (case hr => first | (go_simp; done) | (go_simp; rfl)); intro gb103 hg w8 hbox hb; have n0_ := Aside0.mk (below_step (by repeat (first | (with_reducible first | exact HB.out | apply below_alloc | apply pw_below_drewN | apply below_drew1) | exact HB.out)) hb); have n1_ := Aside0.mk (hbox); have n2_ := Aside0.mk ((by rw [hg]; exact (below_size (by repeat (first | (with_reducible first | exact HB.out | apply below_alloc | apply pw_below_drewN | apply below_drew1) | exact HB.out))) : w.heap.size ≤ gb103)); have n3_ := Aside0.mk ((by rw [hg]; exact (below_size (by repeat (first | (with_reducible first | exact HB.out | apply below_alloc | apply pw_below_drewN | apply below_drew1) | exact HB.out))) : w.heap.size ≤ gb103)); clear HB; have HB := n0_; have BK103 := n1_; have GW103 := n2_; have GE103 := n3_; clear n0_ n1_ n2_ n3_; clear hb hbox hg; have hcz9_0 : w8.cell? ⟨gb103, 0, none⟩ = some (.int .i64 0) := (blk_cell BK103.out 0).trans rfl; have hcz9_1 : w8.cell? ⟨gb103, 1, none⟩ = some (.int .i64 0) := (blk_cell BK103.out 1).trans rfl; have hfz9_0 := blk_frozen BK103.out 0; have hfz9_1 := blk_frozen BK103.out 1))
       go_roundg k1
       case measure => have := HK1.out; omega
       case rel => exact ⟨(wrap64 (x3_1 + ((rd_T87 l0 x11_1).f1))), (wrap64 (x11_1 + 1)), (by first | rfl | (simp; done) | (simp [*]; done)), (by first | rfl | (simp; done) | (simp [*]; done)), H', ⟨by have := HK1.out; omega⟩, ⟨by repeat (first | (with_reducible first | exact HB.out | apply below_alloc | apply pw_below_drewN | apply below_drew1 | refine below_set ?_ GE103.out) | exact HB.out)⟩⟩
      ·rw [if_neg c7] at H
       exact absurd H (by simp)
     ·rw [if_neg c6] at H
      exact absurd H (by simp)
    ·rw [if_neg c5] at H
     have c5b0 : decide (x11_1 < (l0.length : Int)) = false := decide_eq_false c5
     clear c5
     obtain rfl := Option.some.inj H
     go_wp2
     go_ret
     exact ⟨by first | rfl | (simp [errW_none, errW_some] <;> rfl) | (simp [*, errW_none, errW_some] <;> rfl), by repeat (first | (with_reducible first | exact HB.out | apply below_alloc | apply pw_below_drewN | apply below_drew1) | exact HB.out)⟩
 ·rw [if_neg c3] at H
  have c3b0 : (t101 == 0) = false := beq_eq_false_iff_ne.mpr c3
  have c3b1 : (t101 != 0) = true := bne_iff_ne.mpr c3
  obtain rfl := Option.some.inj H
  go_enter Try.func119, Try.ntmps119
  go_wp2_with (first | ((with_reducible refine gate_callee (f := 118) rfl ?_); refine goesL_ (some 7) rfl rfl Try.func118 (by kernel_rfl) rfl #[.slice A0 l0.length c0] rfl (by (try simp only [List.map_toArray, List.map_cons, List.map_nil]); first | done | rfl | (simp only [List.length_drop, List.length_take]; rfl)) ?_; (with_reducible refine (span_Check.calls k _ _ l0 t101 _ ?side1 ?side2 A2.out).mono ?_); (case side1 => repeat (first | exact HR0.out | (with_reducible refine Kd.C_alloc ?_ _) | (with_reducible refine Kd.C_drewN ?_ _) | (with_reducible refine Kd.C_drew ?_))); (case side2 => exact HC0.out); rintro e w10 ⟨rfl, hb⟩; refine ⟨_, rfl, ?_⟩; have n0_ := Aside0.mk (below_step (by repeat (first | (with_reducible first | exact HB.out | apply below_alloc | apply pw_below_drewN | apply below_drew1) | exact HB.out)) hb); clear HB; have HB := n0_; clear n0_; (try clear hb); (try clear hb2); (try clear hk); (try clear hi); clear A2))
  go_ret
  exact ⟨by first | rfl | (simp [errW_none, errW_some] <;> rfl) | (simp [*, errW_none, errW_some] <;> rfl), by repeat (first | (with_reducible first | exact HB.out | apply below_alloc | apply pw_below_drewN | apply below_drew1) | exact HB.out)⟩
mutual
def span_From.l0 : Nat → List Int → List (S87) → Int → List Int → Int → Int → Option ((List (S87)) × Int)
 | 0, _, _, _, _, _, _ => none
 | k + 1, x0, x4, x5, x8, x9, x10 => if x10 < x9 then (if 0 ≤ x10 then (if x10 < (x8.length : Int) then ((span_in.f (rd x8 x10)).bind fun t102 => (if t102 = true then (if x10 > 0 then (span_From.j1 k x0 x4 x5 x10 (rd x8 x10) x8 x9 x10 (decide ((rd x8 x10) < x5))) else (span_From.j1 k x0 x4 x5 x10 (rd x8 x10) x8 x9 x10 false)) else (span_From.j1 k x0 x4 x5 x10 (rd x8 x10) x8 x9 x10 true))) else (none)) else (none)) else (if (x0.length : Int) > 4096 then (some (([] : List (S87)), 12)) else (if (x4.length : Int) > 1024 then (some (([] : List (S87)), 12)) else (some (x4, 0))))
def span_From.j1 : Nat → List Int → List (S87) → Int → Int → Int → List Int → Int → Int → Bool → Option ((List (S87)) × Int)
 | 0, _, _, _, _, _, _, _, _, _ => none
 | k + 1, x0, x4, x5, x6, x7, x8, x9, x10, x26 => if x26 = true then (some (([] : List (S87)), 11)) else (if x6 = 0 then (if x4.length < 8796093022208 then ((some (x4 ++ [(⟨wrap64 (x7 - x5), 0⟩ : S87)] : List (S87))).bind fun y103 => (if 0 ≤ (wrap64 ((y103.length : Int) - 1)) then (if (wrap64 ((y103.length : Int) - 1)) < (y103.length : Int) then (span_From.l0 k x0 (y103.set ((wrap64 ((y103.length : Int) - 1)) : Int).toNat (⟨(rd_T87 y103 (wrap64 ((y103.length : Int) - 1))).f0, wrap64 (((rd_T87 y103 (wrap64 ((y103.length : Int) - 1))).f1) + 1)⟩ : S87)) (wrap64 (x7 + 1)) x8 x9 (wrap64 (x10 + 1))) else (none)) else (none))) else (none)) else (if x7 > x5 then (if x4.length < 8796093022208 then ((some (x4 ++ [(⟨wrap64 (x7 - x5), 0⟩ : S87)] : List (S87))).bind fun y108 => (if 0 ≤ (wrap64 ((y108.length : Int) - 1)) then (if (wrap64 ((y108.length : Int) - 1)) < (y108.length : Int) then (span_From.l0 k x0 (y108.set ((wrap64 ((y108.length : Int) - 1)) : Int).toNat (⟨(rd_T87 y108 (wrap64 ((y108.length : Int) - 1))).f0, wrap64 (((rd_T87 y108 (wrap64 ((y108.length : Int) - 1))).f1) + 1)⟩ : S87)) (wrap64 (x7 + 1)) x8 x9 (wrap64 (x10 + 1))) else (none)) else (none))) else (none)) else (if 0 ≤ (wrap64 ((x4.length : Int) - 1)) then (if (wrap64 ((x4.length : Int) - 1)) < (x4.length : Int) then (span_From.l0 k x0 (x4.set ((wrap64 ((x4.length : Int) - 1)) : Int).toNat (⟨(rd_T87 x4 (wrap64 ((x4.length : Int) - 1))).f0, wrap64 (((rd_T87 x4 (wrap64 ((x4.length : Int) - 1))).f1) + 1)⟩ : S87)) (wrap64 (x7 + 1)) x8 x9 (wrap64 (x10 + 1))) else (none)) else (none))))
end
def span_From.f (k : Nat) (l0 : List Int) : Option ((List (S87)) × Int) := span_From.l0 k l0 ([] : List (S87)) 0 l0 (l0.length : Int) 0
set_option maxHeartbeats 8000000 in
set_option maxRecDepth 100000 in
theorem span_From.calls (k : Nat) (A0 : Option Addr) (c0 : Nat) (l0 : List Int) (r1 : List (S87)) (r2 : Int) (w : World) (hr0 : Kd.C (Kd.int .i64) w A0 l0.length l0) (hc0 : l0.length ≤ c0) (h : span_From.f k l0 = some (r1, r2)) :
  Calls Try.prog 124 #[.slice A0 l0.length c0] w fun e w' => ∃ v0_ : Value, e = .returned (.tuple #[v0_, .int .i64 r2]) ∧ Kd.R k87 87 w' w.heap.size (fun _ => True) v0_ r1 ∧ Below w.heap.size w w' := by
 have hu87 := Try.underlying87
 have HR0 := Aside0.mk hr0
 have HC0 := Aside0.mk hc0
 clear hr0 hc0
 have HB := Aside0.mk (Below.refl w.heap.size w)
 have H : (span_From.l0 k l0 ([] : List (S87)) 0 l0 (l0.length : Int) 0) = some (r1, r2) := h
 clear h
 have H' := Aside0.mk H
 clear H
 go_enter Try.func124, Try.ntmps124
 go_wp2
 go_loopg [4, 5, 10] k (fun kq v4 v5 v10 w' => ∃ (x4_1 : List (S87)) (x5_1 : Int) (x10_1 : Int), v5 = .int .i64 x5_1 ∧ v10 = .int .i64 x10_1 ∧ Aside0 (span_From.l0 kq l0 x4_1 x5_1 l0 (l0.length : Int) x10_1 = some (r1, r2)) ∧ Aside0 (kq ≤ k) ∧ Aside0 (Kd.R k87 87 w' w.heap.size (fun _ => True) v4 x4_1) ∧ Aside0 (Below w.heap.size w w'))
 case atStart => exact ⟨(([] : List (S87))), (0), (0), (by first | rfl | (simp; done) | (simp [*]; done)), (by first | rfl | (simp; done) | (simp [*]; done)), H', ⟨Nat.le_refl _⟩, ⟨by first | exact Kd.R_nil _ _ _ _ _ | exact Kd.N_nil _ _ _ _ _ | exact Kd.V_nil _ _ _ _ _ | exact Kd.Q_nil _ _ _ _ _ | exact Kd.S_nil _ _ _ _ _⟩, ⟨by repeat (first | (with_reducible first | exact HB.out | apply below_alloc | apply pw_below_drewN | apply below_drew1) | exact HB.out)⟩⟩
 case round =>
  clear H'
  try clear c1
  obtain ⟨x4_1, x5_1, x10_1, rfl, rfl, HA, HK1, HO_4, HB⟩ := hrel
  cases gk with
  | zero => exact absurd HA.out (by simp [span_From.l0])
  | succ k1 =>
   have H := HA.out
   clear HA
   simp only [span_From.l0] at H
   by_cases c2 : x10_1 < (l0.length : Int)
   ·rw [if_pos c2] at H
    have c2b0 : decide (x10_1 < (l0.length : Int)) = true := decide_eq_true c2
    clear c2
    by_cases c3 : 0 ≤ x10_1
    ·rw [if_pos c3] at H
     have c3b0 : decide (0 ≤ x10_1) = true := decide_eq_true c3
     clear c3
     by_cases c4 : x10_1 < (l0.length : Int)
     ·rw [if_pos c4] at H
      have c4b0 : decide (x10_1 < (l0.length : Int)) = true := decide_eq_true c4
      clear c4
      have HC5 := Aside0.mk H
      clear H
      have p101 : 0 ≤ (x10_1 : Int) := of_decide_eq_true (by first | (with_reducible assumption) | assumption)
      have q101 : x10_1 < (l0.length : Int) := of_decide_eq_true (by first | (with_reducible assumption) | assumption)
      obtain ⟨ad101, e101, hx101_0⟩ := Kd.at_int HR0.out x10_1 p101 q101
      cases e101
      replace hx101_0 := (HB.out.cell (World.block_lt_of_cell? w _ hx101_0)).trans hx101_0
      replace p101 := eq_true p101
      replace q101 := eq_true q101
      go_upto_region 6 with (fail)
      go_cut [26] (fun v26 wc => ∃ (kq : Nat) (x26_4 : Bool), v26 = .bool x26_4 ∧ Aside0 (span_From.j1 kq l0 x4_1 x5_1 x10_1 (rd l0 x10_1) l0 (l0.length : Int) x10_1 x26_4 = some (r1, r2)) ∧ Aside0 (kq ≤ k1) ∧ Aside0 (Kd.R k87 87 wc w.heap.size (fun _ => True) u4 x4_1) ∧ Aside0 (Below w.heap.size w wc))
      case first =>
       have H := HC5.out
       clear HC5
       replace H := Option.bind_eq_some_iff.mp H
       obtain ⟨t102, A60, H⟩ := H
       replace H : (if t102 = true then (if x10_1 > 0 then (span_From.j1 k1 l0 x4_1 x5_1 x10_1 (rd l0 x10_1) l0 (l0.length : Int) x10_1 (decide ((rd l0 x10_1) < x5_1))) else (span_From.j1 k1 l0 x4_1 x5_1 x10_1 (rd l0 x10_1) l0 (l0.length : Int) x10_1 false)) else (span_From.j1 k1 l0 x4_1 x5_1 x10_1 (rd l0 x10_1) l0 (l0.length : Int) x10_1 true)) = some (r1, r2) := H
       have A6 := Aside0.mk A60
       clear A60
       by_cases c7 : t102 = true
       ·subst c7
        have H1 : (if x10_1 > 0 then (span_From.j1 k1 l0 x4_1 x5_1 x10_1 (rd l0 x10_1) l0 (l0.length : Int) x10_1 (decide ((rd l0 x10_1) < x5_1))) else (span_From.j1 k1 l0 x4_1 x5_1 x10_1 (rd l0 x10_1) l0 (l0.length : Int) x10_1 false)) = some (r1, r2) := by rw [if_pos rfl] at H; exact H
        clear H
        have H := H1
        clear H1
        by_cases c8 : x10_1 > 0
        ·rw [if_pos c8] at H
         have c8b0 : decide (0 < x10_1) = true := decide_eq_true c8
         clear c8
         (first | rw [c8b0] | (simp only [i64_w, i32_w]; rw [c8b0]) | skip)
         have H' := Aside0.mk H
         clear H
         go_wp2_with (first | ((with_reducible refine gate_callee (f := 136) rfl ?_); refine goesL_ (some 16) rfl rfl Try.func136 (by kernel_rfl) rfl #[.int .i64 (rd l0 x10_1)] rfl (by (try simp only [List.map_toArray, List.map_cons, List.map_nil]); first | done | rfl | (simp only [List.length_drop, List.length_take]; rfl)) ?_; (with_reducible refine (span_in.calls (rd l0 x10_1) true _ A6.out).mono ?_); rintro e w' ⟨rfl, ⟨nd, rfl⟩⟩; refine ⟨_, rfl, ?_⟩; clear A6))
         go_meet
         case rel => exact ⟨_, (decide ((rd l0 x10_1) < x5_1)), (by first | rfl | (simp; done) | (simp [*]; done)), H', ⟨by have := HK1.out; first | omega | exact Nat.le_refl _⟩, ⟨by (with_reducible repeat (first | apply Kd.R_alloc | apply Kd.R_drewN | apply Kd.R_drew)); exact HO_4.out⟩, ⟨by repeat (first | (with_reducible first | exact HB.out | apply below_alloc | apply pw_below_drewN | apply below_drew1) | exact HB.out)⟩⟩
        ·rw [if_neg c8] at H
         have c8b0 : decide (0 < x10_1) = false := decide_eq_false c8
         clear c8
         (first | rw [c8b0] | (simp only [i64_w, i32_w]; rw [c8b0]) | skip)
         have H' := Aside0.mk H
         clear H
         go_wp2_with (first | ((with_reducible refine gate_callee (f := 136) rfl ?_); refine goesL_ (some 16) rfl rfl Try.func136 (by kernel_rfl) rfl #[.int .i64 (rd l0 x10_1)] rfl (by (try simp only [List.map_toArray, List.map_cons, List.map_nil]); first | done | rfl | (simp only [List.length_drop, List.length_take]; rfl)) ?_; (with_reducible refine (span_in.calls (rd l0 x10_1) true _ A6.out).mono ?_); rintro e w' ⟨rfl, ⟨nd, rfl⟩⟩; refine ⟨_, rfl, ?_⟩; clear A6))
         go_meet
         case rel => exact ⟨_, (false), (by first | rfl | (simp; done) | (simp [*]; done)), H', ⟨by have := HK1.out; first | omega | exact Nat.le_refl _⟩, ⟨by (with_reducible repeat (first | apply Kd.R_alloc | apply Kd.R_drewN | apply Kd.R_drew)); exact HO_4.out⟩, ⟨by repeat (first | (with_reducible first | exact HB.out | apply below_alloc | apply pw_below_drewN | apply below_drew1) | exact HB.out)⟩⟩
       ·replace c7 := Bool.eq_false_iff.mpr c7
        subst c7
        have H1 : (span_From.j1 k1 l0 x4_1 x5_1 x10_1 (rd l0 x10_1) l0 (l0.length : Int) x10_1 true) = some (r1, r2) := by rw [if_neg (show ¬ (false = true) by decide)] at H; exact H
        clear H
        have H := H1
        clear H1
        have H' := Aside0.mk H
        clear H
        go_wp2_with (first | ((with_reducible refine gate_callee (f := 136) rfl ?_); refine goesL_ (some 16) rfl rfl Try.func136 (by kernel_rfl) rfl #[.int .i64 (rd l0 x10_1)] rfl (by (try simp only [List.map_toArray, List.map_cons, List.map_nil]); first | done | rfl | (simp only [List.length_drop, List.length_take]; rfl)) ?_; (with_reducible refine (span_in.calls (rd l0 x10_1) false _ A6.out).mono ?_); rintro e w' ⟨rfl, ⟨nd, rfl⟩⟩; refine ⟨_, rfl, ?_⟩; clear A6))
        go_meet
        case rel => exact ⟨_, (true), (by first | rfl | (simp; done) | (simp [*]; done)), H', ⟨by have := HK1.out; first | omega | exact Nat.le_refl _⟩, ⟨by (with_reducible repeat (first | apply Kd.R_alloc | apply Kd.R_drewN | apply Kd.R_drew)); exact HO_4.out⟩, ⟨by repeat (first | (with_reducible first | exact HB.out | apply below_alloc | apply pw_below_drewN | apply below_drew1) | exact HB.out)⟩⟩
      case rest =>
       clear HC5
       try clear c1
       try clear p1
       try clear q1
       try clear hx1
       try clear c2
       try clear c2b0
       try clear p2
       try clear c3
       try clear c3b0
       try clear c4
       try clear c4b0
       try clear c7
       try clear c8
       try clear c8b0
       try clear hx101_0
       try clear p101
       try clear q101
       obtain ⟨kq, x26_4, rfl, HA, HJ4, HO_4, HB⟩ := hcut
       cases kq with
       | zero => exact absurd HA.out (by simp [span_From.j1])
       | succ kj4 =>
        have H := HA.out
        clear HA
        simp only [span_From.j1] at H
        by_cases c9 : x26_4 = true
        ·subst c9
         have H1 : (some (([] : List (S87)), 11)) = some (r1, r2) := by rw [if_pos rfl] at H; exact H
         clear H
         have H := H1
         clear H1
         simp only [Option.some.injEq, Prod.mk.injEq] at H
         obtain ⟨rfl, rfl⟩ := H
         go_wp2
         go_ret2
         exact ⟨_, by first | rfl | (simp [errW_none, errW_some] <;> rfl) | (simp [*, errW_none, errW_some] <;> rfl), by first | exact Kd.R_nil _ _ _ _ _ | exact Kd.N_nil _ _ _ _ _ | exact Kd.V_nil _ _ _ _ _ | exact Kd.Q_nil _ _ _ _ _ | exact Kd.S_nil _ _ _ _ _, by repeat (first | (with_reducible first | exact HB.out | apply below_alloc | apply pw_below_drewN | apply below_drew1) | exact HB.out)⟩
        ·replace c9 := Bool.eq_false_iff.mpr c9
         subst c9
         have H1 : (if x10_1 = 0 then (if x4_1.length < 8796093022208 then ((some (x4_1 ++ [(⟨wrap64 ((rd l0 x10_1) - x5_1), 0⟩ : S87)] : List (S87))).bind fun y103 => (if 0 ≤ (wrap64 ((y103.length : Int) - 1)) then (if (wrap64 ((y103.length : Int) - 1)) < (y103.length : Int) then (span_From.l0 kj4 l0 (y103.set ((wrap64 ((y103.length : Int) - 1)) : Int).toNat (⟨(rd_T87 y103 (wrap64 ((y103.length : Int) - 1))).f0, wrap64 (((rd_T87 y103 (wrap64 ((y103.length : Int) - 1))).f1) + 1)⟩ : S87)) (wrap64 ((rd l0 x10_1) + 1)) l0 (l0.length : Int) (wrap64 (x10_1 + 1))) else (none)) else (none))) else (none)) else (if (rd l0 x10_1) > x5_1 then (if x4_1.length < 8796093022208 then ((some (x4_1 ++ [(⟨wrap64 ((rd l0 x10_1) - x5_1), 0⟩ : S87)] : List (S87))).bind fun y108 => (if 0 ≤ (wrap64 ((y108.length : Int) - 1)) then (if (wrap64 ((y108.length : Int) - 1)) < (y108.length : Int) then (span_From.l0 kj4 l0 (y108.set ((wrap64 ((y108.length : Int) - 1)) : Int).toNat (⟨(rd_T87 y108 (wrap64 ((y108.length : Int) - 1))).f0, wrap64 (((rd_T87 y108 (wrap64 ((y108.length : Int) - 1))).f1) + 1)⟩ : S87)) (wrap64 ((rd l0 x10_1) + 1)) l0 (l0.length : Int) (wrap64 (x10_1 + 1))) else (none)) else (none))) else (none)) else (if 0 ≤ (wrap64 ((x4_1.length : Int) - 1)) then (if (wrap64 ((x4_1.length : Int) - 1)) < (x4_1.length : Int) then (span_From.l0 kj4 l0 (x4_1.set ((wrap64 ((x4_1.length : Int) - 1)) : Int).toNat (⟨(rd_T87 x4_1 (wrap64 ((x4_1.length : Int) - 1))).f0, wrap64 (((rd_T87 x4_1 (wrap64 ((x4_1.length : Int) - 1))).f1) + 1)⟩ : S87)) (wrap64 ((rd l0 x10_1) + 1)) l0 (l0.length : Int) (wrap64 (x10_1 + 1))) else (none)) else (none)))) = some (r1, r2) := by rw [if_neg (show ¬ (false = true) by decide)] at H; exact H
         clear H
         have H := H1
         clear H1
         by_cases c10 : x10_1 = 0
         ·rw [if_pos c10] at H
          have c10b0 : (x10_1 == 0) = true := beq_iff_eq.mpr c10
          have c10b1 : (x10_1 != 0) = false := bne_eq_false_iff_eq.mpr c10
          clear c10
          by_cases c11 : x4_1.length < 8796093022208
          ·rw [if_pos c11] at H
           have LMc11 := Aside0.mk c11
           clear c11
           obtain ⟨y103, hy103⟩ : ∃ y_ : List (S87), y_ = (x4_1 ++ [(⟨wrap64 ((rd l0 x10_1) - x5_1), 0⟩ : S87)]) := ⟨_, rfl⟩
           replace H : (if 0 ≤ (wrap64 ((y103.length : Int) - 1)) then (if (wrap64 ((y103.length : Int) - 1)) < (y103.length : Int) then (span_From.l0 kj4 l0 (y103.set ((wrap64 ((y103.length : Int) - 1)) : Int).toNat (⟨(rd_T87 y103 (wrap64 ((y103.length : Int) - 1))).f0, wrap64 (((rd_T87 y103 (wrap64 ((y103.length : Int) - 1))).f1) + 1)⟩ : S87)) (wrap64 ((rd l0 x10_1) + 1)) l0 (l0.length : Int) (wrap64 (x10_1 + 1))) else (none)) else (none)) = some (r1, r2) := by first | (rw [hy103]; with_reducible exact H) | (have H2_ := (Option.bind_some _ _).symm.trans H; rw [hy103]; with_reducible exact H2_) | (have H2_ := (Option.bind_some _ _).symm.trans H; with_reducible exact H2_) | with_reducible exact H | (rw [hy103]; exact H) | exact H
           have Ny103 := Aside0.mk hy103
           clear hy103
           obtain ⟨ji12, hji12⟩ : ∃ j_ : Int, (wrap64 ((y103.length : Int) - 1)) = j_ := ⟨_, rfl⟩
           replace H : (if 0 ≤ (ji12) then (if (ji12) < (y103.length : Int) then (span_From.l0 kj4 l0 (y103.set ((ji12) : Int).toNat (⟨(rd_T87 y103 (ji12)).f0, wrap64 (((rd_T87 y103 (ji12)).f1) + 1)⟩ : S87)) (wrap64 ((rd l0 x10_1) + 1)) l0 (l0.length : Int) (wrap64 (x10_1 + 1))) else (none)) else (none)) = some (r1, r2) := by first | (rw [hji12] at H; exact H) | (simp only [hji12] at H ⊢; exact H)
           have hji12w : (IntKind.i64.wrap ((y103.length : Int) - 1)) = ji12 := (i64_w _).trans hji12
           by_cases c13 : 0 ≤ (ji12)
           ·rw [if_pos c13] at H
            have c13b0 : decide (0 ≤ (ji12)) = true := decide_eq_true c13
            clear c13
            by_cases c14 : (ji12) < (y103.length : Int)
            ·rw [if_pos c14] at H
             have c14b0 : decide ((ji12) < (y103.length : Int)) = true := decide_eq_true c14
             clear c14
             obtain ⟨y107, hy107⟩ : ∃ y_ : List (S87), y_ = (y103.set ((ji12) : Int).toNat (⟨(rd_T87 y103 (ji12)).f0, wrap64 (((rd_T87 y103 (ji12)).f1) + 1)⟩ : S87)) := ⟨_, rfl⟩
             replace H : (span_From.l0 kj4 l0 y107 (wrap64 ((rd l0 x10_1) + 1)) l0 (l0.length : Int) (wrap64 (x10_1 + 1))) = some (r1, r2) := by first | (rw [hy107]; with_reducible exact H) | (have H2_ := (Option.bind_some _ _).symm.trans H; rw [hy107]; with_reducible exact H2_) | (have H2_ := (Option.bind_some _ _).symm.trans H; with_reducible exact H2_) | with_reducible exact H | (rw [hy107]; exact H) | exact H
             have Ny107 := Aside0.mk hy107
             clear hy107
             have H' := Aside0.mk H
             clear H
             go_wp2_with (first | ((with_reducible refine gate_builtin (b := .append) (xs := #[.tmp 34, .tmp 39]) rfl ?_); (try (refine gate_guard (by rfl) ?_; dsimp only)); at_builtin; refine Kd.R_append k87 (w0 := w) w.heap.size rfl (.tmp 34) (.tmp 39) 27 87 (.agg #[(.int .i64 0), (.int .i64 0)]) 16 rfl Try.underlying27 info87 rfl (by decide) (by omega) u4 x4_1 (⟨wrap64 ((rd l0 x10_1) - x5_1), 0⟩ : S87) [.int .i64 (wrap64 ((rd l0 x10_1) - x5_1)), .int .i64 0] (fun _ => True) (fun _ => False) rfl rfl ?aP (fun _ hk => hk.elim) ?aF ?aO ?aB ?aS ?aL ?_; (case aP => exact k87_mkM _ _ _ (⟨wrap64 ((rd l0 x10_1) - x5_1), 0⟩ : S87)); (case aB => exact (by repeat (first | (with_reducible first | exact HB.out | apply below_alloc | apply pw_below_drewN | apply below_drew1) | exact HB.out))); (case aF => exact (fun _ _ => trivial)); (case aO => exact (by (with_reducible repeat (first | apply Kd.R_alloc | apply Kd.R_drewN | apply Kd.R_drew)); exact HO_4.out)); (case aS => exact (below_size (by repeat (first | (with_reducible first | exact HB.out | apply below_alloc | apply pw_below_drewN | apply below_drew1) | exact HB.out)))); (case aL => have := LMc11.out; omega); intro v104 w16 ho hb hg hat; rw [← Ny103.out] at ho; have n0_ := Aside0.mk (hb); have n1_ := Aside0.mk (ho); clear HB; clear HO_4; have HB := n0_; have HO105 := n1_; clear n0_ n1_; clear ho hb hg hat; obtain ⟨Ao17, co17, eo17⟩ := Kd.R_slice HO105.out; subst eo17; have p106 : 0 ≤ ((ji12) : Int) := of_decide_eq_true (by first | (with_reducible assumption) | assumption); have q106 : (ji12) < (y103.length : Int) := of_decide_eq_true (by first | (with_reducible assumption) | assumption); obtain ⟨ad106, e106, hx106_0, hx106_1⟩ := at_T87 (Kd.R_reads' HO105.out).2.2 (ji12) p106 q106; cases e106; replace p106 := eq_true p106; replace q106 := eq_true q106; have p15 : 0 ≤ ((ji12) : Int) := of_decide_eq_true (by first | (with_reducible assumption) | assumption); have q15 : ((ji12) : Int) < ((y103.length : Int) : Int) := of_decide_eq_true (by first | (with_reducible assumption) | assumption); obtain ⟨go15, co15, eo15, gb15, gl15, cl15, HG15⟩ := Kd.R_form HO105.out (by omega); (first | cases eo15 | (injection eo15 with ea_ en_ ec_; (first | subst ea_ | (injection ea_ with ea_; subst ea_)); subst ec_; clear en_)); have GB15 := Aside0.mk gb15; have GG15 := Aside0.mk HG15; clear gb15 gl15 HG15; (first | simp only [add_plain] at hx106_0 | skip); (first | simp only [add_plain] at hx106_1 | skip); obtain ⟨ce15, hcl15, hM15, hcc15, hfr15⟩ := Kd.R_elem HO105.out z87 ((ji12) : Int) p15 q15; obtain rfl := k87_openM hM15; have hx15_0 : w16.cell? ⟨go15, ((ji12) : Int).toNat * 2, none⟩ = some (.int .i64 ((rd_T87 y103 (ji12)).f0)) := hcc15 0 _ rfl; have hx15_1 : w16.cell? ⟨go15, ((ji12) : Int).toNat * 2 + 1, none⟩ = some (.int .i64 ((rd_T87 y103 (ji12)).f1)) := hcc15 1 _ rfl; have hf15_0 : w16.frozen? ⟨go15, ((ji12) : Int).toNat * 2, none⟩ = false := hfr15 0; have hf15_1 : w16.frozen? ⟨go15, ((ji12) : Int).toNat * 2 + 1, none⟩ = false := hfr15 1; clear hcl15 hcc15 hfr15 hM15; replace p15 := eq_true p15; replace q15 := eq_true q15; have HX18 := Aside0.mk (show Kd.R k87 87 w16 w.heap.size (fun _ => True) (.slice (some ⟨go15, 0, none⟩) y103.length co17) y103 from (by (with_reducible repeat (first | apply Kd.R_alloc | apply Kd.R_drewN | apply Kd.R_drew)); exact HO105.out)); obtain ⟨ce18, hcl18, hM18, hcc18, hfr18⟩ := Kd.R_elem HX18.out z87 ((ji12) : Int) (of_decide_eq_true (by first | (with_reducible assumption) | assumption)) (by have h_ : ((ji12) : Int) < ((y103.length : Int) : Int) := of_decide_eq_true (by first | (with_reducible assumption) | assumption); first | exact h_ | (have e_ := (Kd.R_reads' HO105.out).1; omega) | simpa using h_); obtain rfl := k87_openM hM18; have HP18 := Kd.R_seg HX18.out ((ji12) : Int) (of_decide_eq_true (by first | (with_reducible assumption) | assumption)) (by have h_ : ((ji12) : Int) < ((y103.length : Int) : Int) := of_decide_eq_true (by first | (with_reducible assumption) | assumption); first | exact h_ | (have e_ := (Kd.R_reads' HO105.out).1; omega) | simpa using h_) (seg := [.int .i64 (wrap64 (((rd_T87 y103 (ji12)).f1) + 1))]) (j := 1) hcl18 hcc18 (show 2 ≤ 2 from by decide) (x' := (⟨(rd_T87 y103 (ji12)).f0, wrap64 (((rd_T87 y103 (ji12)).f1) + 1)⟩ : S87)) (k87_mkM _ _ _ (⟨(rd_T87 y103 (ji12)).f0, wrap64 (((rd_T87 y103 (ji12)).f1) + 1)⟩ : S87) ) (fun _ hk => hk); have hx18_1 := hcc18 1 _ rfl; (try simp only [show (k87).sz = 2 from rfl, Nat.mul_one, Nat.add_zero] at hx18_1); have hf18_1 := hfr18 1; (try simp only [show (k87).sz = 2 from rfl, Nat.mul_one, Nat.add_zero] at hf18_1); clear hcl18 hcc18 hfr18 hM18) | ((with_reducible refine gate_store (t := 3) (p := 50) rfl ?_); refine store_event (t := 3) (p := 50) (v := ?vo_w19) (w1 := (w16.setCell ⟨go15, ((ji12) : Int).toNat * 2 + 1, none⟩ (.int .i64 (wrap64 (((rd_T87 y103 (ji12)).f1) + 1))))) ?hg ?ho ?hn ?hr ?_; (case ho => rfl); (case hg => rfl); (case hn => rfl); (case hr => first | (go_simp; done) | (go_simp; rfl)); intro w19 hw; have hg : w16.grownBy w19 (some go15) := (by rw [hw]; exact HP18.2); have hp_ : Kd.R k87 87 w19 w.heap.size (fun _ => True) (.slice (some ⟨go15, 0, none⟩) y103.length co17) y107 := (by rw [hw, Ny107.out]; exact HP18.1); clear HP18; have n0_ := Aside0.mk (hp_); have n1_ := Aside0.mk ((by rw [hw]; exact below_set (HB.out) GB15.out : Below w.heap.size w w19)); clear HO105; clear HB; have HO105 := n0_; have HB := n1_; clear n0_ n1_; clear hg hw hp_))
             go_roundg kj4
             case measure => have := HK1.out; have := HJ4.out; omega
             case rel => exact ⟨(y107), (wrap64 ((rd l0 x10_1) + 1)), (wrap64 (x10_1 + 1)), (by first | rfl | (simp; done) | (simp [*]; done)), (by first | rfl | (simp; done) | (simp [*]; done)), H', ⟨by have := HK1.out; have := HJ4.out; omega⟩, ⟨by (with_reducible repeat (first | apply Kd.R_alloc | apply Kd.R_drewN | apply Kd.R_drew)); exact HO105.out⟩, ⟨by repeat (first | (with_reducible first | exact HB.out | apply below_alloc | apply pw_below_drewN | apply below_drew1) | exact HB.out)⟩⟩
            ·rw [if_neg c14] at H
             exact absurd H (by simp)
           ·rw [if_neg c13] at H
            exact absurd H (by simp)
          ·rw [if_neg c11] at H
           exact absurd H (by simp)
         ·rw [if_neg c10] at H
          have c10b0 : (x10_1 == 0) = false := beq_eq_false_iff_ne.mpr c10
          have c10b1 : (x10_1 != 0) = true := bne_iff_ne.mpr c10
          by_cases c20 : (rd l0 x10_1) > x5_1
          ·rw [if_pos c20] at H
           have c20b0 : decide (x5_1 < (rd l0 x10_1)) = true := decide_eq_true c20
           clear c20
           by_cases c21 : x4_1.length < 8796093022208
           ·rw [if_pos c21] at H
            have LMc21 := Aside0.mk c21
            clear c21
            obtain ⟨y108, hy108⟩ : ∃ y_ : List (S87), y_ = (x4_1 ++ [(⟨wrap64 ((rd l0 x10_1) - x5_1), 0⟩ : S87)]) := ⟨_, rfl⟩
            replace H : (if 0 ≤ (wrap64 ((y108.length : Int) - 1)) then (if (wrap64 ((y108.length : Int) - 1)) < (y108.length : Int) then (span_From.l0 kj4 l0 (y108.set ((wrap64 ((y108.length : Int) - 1)) : Int).toNat (⟨(rd_T87 y108 (wrap64 ((y108.length : Int) - 1))).f0, wrap64 (((rd_T87 y108 (wrap64 ((y108.length : Int) - 1))).f1) + 1)⟩ : S87)) (wrap64 ((rd l0 x10_1) + 1)) l0 (l0.length : Int) (wrap64 (x10_1 + 1))) else (none)) else (none)) = some (r1, r2) := by first | (rw [hy108]; with_reducible exact H) | (have H2_ := (Option.bind_some _ _).symm.trans H; rw [hy108]; with_reducible exact H2_) | (have H2_ := (Option.bind_some _ _).symm.trans H; with_reducible exact H2_) | with_reducible exact H | (rw [hy108]; exact H) | exact H
            have Ny108 := Aside0.mk hy108
            clear hy108
            obtain ⟨ji22, hji22⟩ : ∃ j_ : Int, (wrap64 ((y108.length : Int) - 1)) = j_ := ⟨_, rfl⟩
            replace H : (if 0 ≤ (ji22) then (if (ji22) < (y108.length : Int) then (span_From.l0 kj4 l0 (y108.set ((ji22) : Int).toNat (⟨(rd_T87 y108 (ji22)).f0, wrap64 (((rd_T87 y108 (ji22)).f1) + 1)⟩ : S87)) (wrap64 ((rd l0 x10_1) + 1)) l0 (l0.length : Int) (wrap64 (x10_1 + 1))) else (none)) else (none)) = some (r1, r2) := by first | (rw [hji22] at H; exact H) | (simp only [hji22] at H ⊢; exact H)
            have hji22w : (IntKind.i64.wrap ((y108.length : Int) - 1)) = ji22 := (i64_w _).trans hji22
            by_cases c23 : 0 ≤ (ji22)
            ·rw [if_pos c23] at H
             have c23b0 : decide (0 ≤ (ji22)) = true := decide_eq_true c23
             clear c23
             by_cases c24 : (ji22) < (y108.length : Int)
             ·rw [if_pos c24] at H
              have c24b0 : decide ((ji22) < (y108.length : Int)) = true := decide_eq_true c24
              clear c24
              obtain ⟨y112, hy112⟩ : ∃ y_ : List (S87), y_ = (y108.set ((ji22) : Int).toNat (⟨(rd_T87 y108 (ji22)).f0, wrap64 (((rd_T87 y108 (ji22)).f1) + 1)⟩ : S87)) := ⟨_, rfl⟩
              replace H : (span_From.l0 kj4 l0 y112 (wrap64 ((rd l0 x10_1) + 1)) l0 (l0.length : Int) (wrap64 (x10_1 + 1))) = some (r1, r2) := by first | (rw [hy112]; with_reducible exact H) | (have H2_ := (Option.bind_some _ _).symm.trans H; rw [hy112]; with_reducible exact H2_) | (have H2_ := (Option.bind_some _ _).symm.trans H; with_reducible exact H2_) | with_reducible exact H | (rw [hy112]; exact H) | exact H
              have Ny112 := Aside0.mk hy112
              clear hy112
              have H' := Aside0.mk H
              clear H
              go_wp2_with (first | ((with_reducible refine gate_builtin (b := .append) (xs := #[.tmp 34, .tmp 39]) rfl ?_); (try (refine gate_guard (by rfl) ?_; dsimp only)); at_builtin; refine Kd.R_append k87 (w0 := w) w.heap.size rfl (.tmp 34) (.tmp 39) 27 87 (.agg #[(.int .i64 0), (.int .i64 0)]) 16 rfl Try.underlying27 info87 rfl (by decide) (by omega) u4 x4_1 (⟨wrap64 ((rd l0 x10_1) - x5_1), 0⟩ : S87) [.int .i64 (wrap64 ((rd l0 x10_1) - x5_1)), .int .i64 0] (fun _ => True) (fun _ => False) rfl rfl ?aP (fun _ hk => hk.elim) ?aF ?aO ?aB ?aS ?aL ?_; (case aP => exact k87_mkM _ _ _ (⟨wrap64 ((rd l0 x10_1) - x5_1), 0⟩ : S87)); (case aB => exact (by repeat (first | (with_reducible first | exact HB.out | apply below_alloc | apply pw_below_drewN | apply below_drew1) | exact HB.out))); (case aF => exact (fun _ _ => trivial)); (case aO => exact (by (with_reducible repeat (first | apply Kd.R_alloc | apply Kd.R_drewN | apply Kd.R_drew)); exact HO_4.out)); (case aS => exact (below_size (by repeat (first | (with_reducible first | exact HB.out | apply below_alloc | apply pw_below_drewN | apply below_drew1) | exact HB.out)))); (case aL => have := LMc21.out; omega); intro v109 w26 ho hb hg hat; rw [← Ny108.out] at ho; have n0_ := Aside0.mk (hb); have n1_ := Aside0.mk (ho); clear HB; clear HO_4; have HB := n0_; have HO110 := n1_; clear n0_ n1_; clear ho hb hg hat; obtain ⟨Ao27, co27, eo27⟩ := Kd.R_slice HO110.out; subst eo27; have p111 : 0 ≤ ((ji22) : Int) := of_decide_eq_true (by first | (with_reducible assumption) | assumption); have q111 : (ji22) < (y108.length : Int) := of_decide_eq_true (by first | (with_reducible assumption) | assumption); obtain ⟨ad111, e111, hx111_0, hx111_1⟩ := at_T87 (Kd.R_reads' HO110.out).2.2 (ji22) p111 q111; cases e111; replace p111 := eq_true p111; replace q111 := eq_true q111; have p25 : 0 ≤ ((ji22) : Int) := of_decide_eq_true (by first | (with_reducible assumption) | assumption); have q25 : ((ji22) : Int) < ((y108.length : Int) : Int) := of_decide_eq_true (by first | (with_reducible assumption) | assumption); obtain ⟨go25, co25, eo25, gb25, gl25, cl25, HG25⟩ := Kd.R_form HO110.out (by omega); (first | cases eo25 | (injection eo25 with ea_ en_ ec_; (first | subst ea_ | (injection ea_ with ea_; subst ea_)); subst ec_; clear en_)); have GB25 := Aside0.mk gb25; have GG25 := Aside0.mk HG25; clear gb25 gl25 HG25; (first | simp only [add_plain] at hx111_0 | skip); (first | simp only [add_plain] at hx111_1 | skip); obtain ⟨ce25, hcl25, hM25, hcc25, hfr25⟩ := Kd.R_elem HO110.out z87 ((ji22) : Int) p25 q25; obtain rfl := k87_openM hM25; have hx25_0 : w26.cell? ⟨go25, ((ji22) : Int).toNat * 2, none⟩ = some (.int .i64 ((rd_T87 y108 (ji22)).f0)) := hcc25 0 _ rfl; have hx25_1 : w26.cell? ⟨go25, ((ji22) : Int).toNat * 2 + 1, none⟩ = some (.int .i64 ((rd_T87 y108 (ji22)).f1)) := hcc25 1 _ rfl; have hf25_0 : w26.frozen? ⟨go25, ((ji22) : Int).toNat * 2, none⟩ = false := hfr25 0; have hf25_1 : w26.frozen? ⟨go25, ((ji22) : Int).toNat * 2 + 1, none⟩ = false := hfr25 1; clear hcl25 hcc25 hfr25 hM25; replace p25 := eq_true p25; replace q25 := eq_true q25; have HX28 := Aside0.mk (show Kd.R k87 87 w26 w.heap.size (fun _ => True) (.slice (some ⟨go25, 0, none⟩) y108.length co27) y108 from (by (with_reducible repeat (first | apply Kd.R_alloc | apply Kd.R_drewN | apply Kd.R_drew)); exact HO110.out)); obtain ⟨ce28, hcl28, hM28, hcc28, hfr28⟩ := Kd.R_elem HX28.out z87 ((ji22) : Int) (of_decide_eq_true (by first | (with_reducible assumption) | assumption)) (by have h_ : ((ji22) : Int) < ((y108.length : Int) : Int) := of_decide_eq_true (by first | (with_reducible assumption) | assumption); first | exact h_ | (have e_ := (Kd.R_reads' HO110.out).1; omega) | simpa using h_); obtain rfl := k87_openM hM28; have HP28 := Kd.R_seg HX28.out ((ji22) : Int) (of_decide_eq_true (by first | (with_reducible assumption) | assumption)) (by have h_ : ((ji22) : Int) < ((y108.length : Int) : Int) := of_decide_eq_true (by first | (with_reducible assumption) | assumption); first | exact h_ | (have e_ := (Kd.R_reads' HO110.out).1; omega) | simpa using h_) (seg := [.int .i64 (wrap64 (((rd_T87 y108 (ji22)).f1) + 1))]) (j := 1) hcl28 hcc28 (show 2 ≤ 2 from by decide) (x' := (⟨(rd_T87 y108 (ji22)).f0, wrap64 (((rd_T87 y108 (ji22)).f1) + 1)⟩ : S87)) (k87_mkM _ _ _ (⟨(rd_T87 y108 (ji22)).f0, wrap64 (((rd_T87 y108 (ji22)).f1) + 1)⟩ : S87) ) (fun _ hk => hk); have hx28_1 := hcc28 1 _ rfl; (try simp only [show (k87).sz = 2 from rfl, Nat.mul_one, Nat.add_zero] at hx28_1); have hf28_1 := hfr28 1; (try simp only [show (k87).sz = 2 from rfl, Nat.mul_one, Nat.add_zero] at hf28_1); clear hcl28 hcc28 hfr28 hM28) | ((with_reducible refine gate_store (t := 3) (p := 50) rfl ?_); refine store_event (t := 3) (p := 50) (v := ?vo_w29) (w1 := (w26.setCell ⟨go25, ((ji22) : Int).toNat * 2 + 1, none⟩ (.int .i64 (wrap64 (((rd_T87 y108 (ji22)).f1) + 1))))) ?hg ?ho ?hn ?hr ?_; (case ho => rfl); (case hg => rfl); (case hn => rfl); (case hr => first | (go_simp; done) | (go_simp; rfl)); intro w29 hw; have hg : w26.grownBy w29 (some go25) := (by rw [hw]; exact HP28.2); have hp_ : Kd.R k87 87 w29 w.heap.size (fun _ => True) (.slice (some ⟨go25, 0, none⟩) y108.length co27) y112 := (by rw [hw, Ny112.out]; exact HP28.1); clear HP28; have n0_ := Aside0.mk (hp_); have n1_ := Aside0.mk ((by rw [hw]; exact below_set (HB.out) GB25.out : Below w.heap.size w w29)); clear HO110; clear HB; have HO110 := n0_; have HB := n1_; clear n0_ n1_; clear hg hw hp_))
              go_roundg kj4
              case measure => have := HK1.out; have := HJ4.out; omega
              case rel => exact ⟨(y112), (wrap64 ((rd l0 x10_1) + 1)), (wrap64 (x10_1 + 1)), (by first | rfl | (simp; done) | (simp [*]; done)), (by first | rfl | (simp; done) | (simp [*]; done)), H', ⟨by have := HK1.out; have := HJ4.out; omega⟩, ⟨by (with_reducible repeat (first | apply Kd.R_alloc | apply Kd.R_drewN | apply Kd.R_drew)); exact HO110.out⟩, ⟨by repeat (first | (with_reducible first | exact HB.out | apply below_alloc | apply pw_below_drewN | apply below_drew1) | exact HB.out)⟩⟩
             ·rw [if_neg c24] at H
              exact absurd H (by simp)
            ·rw [if_neg c23] at H
             exact absurd H (by simp)
           ·rw [if_neg c21] at H
            exact absurd H (by simp)
          ·rw [if_neg c20] at H
           have c20b0 : decide (x5_1 < (rd l0 x10_1)) = false := decide_eq_false c20
           clear c20
           obtain ⟨ji30, hji30⟩ : ∃ j_ : Int, (wrap64 ((x4_1.length : Int) - 1)) = j_ := ⟨_, rfl⟩
           replace H : (if 0 ≤ (ji30) then (if (ji30) < (x4_1.length : Int) then (span_From.l0 kj4 l0 (x4_1.set ((ji30) : Int).toNat (⟨(rd_T87 x4_1 (ji30)).f0, wrap64 (((rd_T87 x4_1 (ji30)).f1) + 1)⟩ : S87)) (wrap64 ((rd l0 x10_1) + 1)) l0 (l0.length : Int) (wrap64 (x10_1 + 1))) else (none)) else (none)) = some (r1, r2) := by first | (rw [hji30] at H; exact H) | (simp only [hji30] at H ⊢; exact H)
           have hji30w : (IntKind.i64.wrap ((x4_1.length : Int) - 1)) = ji30 := (i64_w _).trans hji30
           by_cases c31 : 0 ≤ (ji30)
           ·rw [if_pos c31] at H
            have c31b0 : decide (0 ≤ (ji30)) = true := decide_eq_true c31
            clear c31
            by_cases c32 : (ji30) < (x4_1.length : Int)
            ·rw [if_pos c32] at H
             have c32b0 : decide ((ji30) < (x4_1.length : Int)) = true := decide_eq_true c32
             clear c32
             obtain ⟨y114, hy114⟩ : ∃ y_ : List (S87), y_ = (x4_1.set ((ji30) : Int).toNat (⟨(rd_T87 x4_1 (ji30)).f0, wrap64 (((rd_T87 x4_1 (ji30)).f1) + 1)⟩ : S87)) := ⟨_, rfl⟩
             replace H : (span_From.l0 kj4 l0 y114 (wrap64 ((rd l0 x10_1) + 1)) l0 (l0.length : Int) (wrap64 (x10_1 + 1))) = some (r1, r2) := by first | (rw [hy114]; with_reducible exact H) | (have H2_ := (Option.bind_some _ _).symm.trans H; rw [hy114]; with_reducible exact H2_) | (have H2_ := (Option.bind_some _ _).symm.trans H; with_reducible exact H2_) | with_reducible exact H | (rw [hy114]; exact H) | exact H
             have Ny114 := Aside0.mk hy114
             clear hy114
             have H' := Aside0.mk H
             clear H
             obtain ⟨Ao34, co34, eo34⟩ := Kd.R_slice HO_4.out
             subst eo34
             have p113 : 0 ≤ ((ji30) : Int) := of_decide_eq_true (by first | (with_reducible assumption) | assumption)
             have q113 : (ji30) < (x4_1.length : Int) := of_decide_eq_true (by first | (with_reducible assumption) | assumption)
             obtain ⟨ad113, e113, hx113_0, hx113_1⟩ := at_T87 (Kd.R_reads' HO_4.out).2.2 (ji30) p113 q113
             cases e113
             replace p113 := eq_true p113
             replace q113 := eq_true q113
             have p33 : 0 ≤ ((ji30) : Int) := of_decide_eq_true (by first | (with_reducible assumption) | assumption)
             have q33 : ((ji30) : Int) < ((x4_1.length : Int) : Int) := of_decide_eq_true (by first | (with_reducible assumption) | assumption)
             obtain ⟨go33, co33, eo33, gb33, gl33, cl33, HG33⟩ := Kd.R_form HO_4.out (by omega)
             (first | cases eo33 | (injection eo33 with ea_ en_ ec_; (first | subst ea_ | (injection ea_ with ea_; subst ea_)); subst ec_; clear en_))
             have GB33 := Aside0.mk gb33
             have GG33 := Aside0.mk HG33
             clear gb33 gl33 HG33
             (first | simp only [add_plain] at hx113_0 | skip)
             (first | simp only [add_plain] at hx113_1 | skip)
             obtain ⟨ce33, hcl33, hM33, hcc33, hfr33⟩ := Kd.R_elem HO_4.out z87 ((ji30) : Int) p33 q33
             obtain rfl := k87_openM hM33
             have hx33_0 : wc.cell? ⟨go33, ((ji30) : Int).toNat * 2, none⟩ = some (.int .i64 ((rd_T87 x4_1 (ji30)).f0)) := hcc33 0 _ rfl
             have hx33_1 : wc.cell? ⟨go33, ((ji30) : Int).toNat * 2 + 1, none⟩ = some (.int .i64 ((rd_T87 x4_1 (ji30)).f1)) := hcc33 1 _ rfl
             have hf33_0 : wc.frozen? ⟨go33, ((ji30) : Int).toNat * 2, none⟩ = false := hfr33 0
             have hf33_1 : wc.frozen? ⟨go33, ((ji30) : Int).toNat * 2 + 1, none⟩ = false := hfr33 1
             clear hcl33 hcc33 hfr33 hM33
             replace p33 := eq_true p33
             replace q33 := eq_true q33
             have HX35 := Aside0.mk (show Kd.R k87 87 wc w.heap.size (fun _ => True) (.slice (some ⟨go33, 0, none⟩) x4_1.length co34) x4_1 from (by (with_reducible repeat (first | apply Kd.R_alloc | apply Kd.R_drewN | apply Kd.R_drew)); exact HO_4.out))
             obtain ⟨ce35, hcl35, hM35, hcc35, hfr35⟩ := Kd.R_elem HX35.out z87 ((ji30) : Int) (of_decide_eq_true (by first | (with_reducible assumption) | assumption)) (by have h_ : ((ji30) : Int) < ((x4_1.length : Int) : Int) := of_decide_eq_true (by first | (with_reducible assumption) | assumption); first | exact h_ | (have e_ := (Kd.R_reads' HO_4.out).1; omega) | simpa using h_)
             obtain rfl := k87_openM hM35
             have HP35 := Kd.R_seg HX35.out ((ji30) : Int) (of_decide_eq_true (by first | (with_reducible assumption) | assumption)) (by have h_ : ((ji30) : Int) < ((x4_1.length : Int) : Int) := of_decide_eq_true (by first | (with_reducible assumption) | assumption); first | exact h_ | (have e_ := (Kd.R_reads' HO_4.out).1; omega) | simpa using h_) (seg := [.int .i64 (wrap64 (((rd_T87 x4_1 (ji30)).f1) + 1))]) (j := 1) hcl35 hcc35 (show 2 ≤ 2 from by decide) (x' := (⟨(rd_T87 x4_1 (ji30)).f0, wrap64 (((rd_T87 x4_1 (ji30)).f1) + 1)⟩ : S87)) (k87_mkM _ _ _ (⟨(rd_T87 x4_1 (ji30)).f0, wrap64 (((rd_T87 x4_1 (ji30)).f1) + 1)⟩ : S87) ) (fun _ hk => hk)
             have hx35_1 := hcc35 1 _ rfl
             (try simp only [show (k87).sz = 2 from rfl, Nat.mul_one, Nat.add_zero] at hx35_1)
             have hf35_1 := hfr35 1
             (try simp only [show (k87).sz = 2 from rfl, Nat.mul_one, Nat.add_zero] at hf35_1)
             clear hcl35 hcc35 hfr35 hM35
             go_wp2_with (first | ((with_reducible refine gate_store (t := 3) (p := 50) rfl ?_); refine store_event (t := 3) (p := 50) (v := ?vo_w36) (w1 := (wc.setCell ⟨go33, ((ji30) : Int).toNat * 2 + 1, none⟩ (.int .i64 (wrap64 (((rd_T87 x4_1 (ji30)).f1) + 1))))) ?hg ?ho ?hn ?hr ?_; (case ho => rfl); (case hg => rfl); (case hn => rfl); (case hr => first | (go_simp; done) | (go_simp; rfl)); intro w36 hw; have hg : wc.grownBy w36 (some go33) := (by rw [hw]; exact HP35.2); have hp_ : Kd.R k87 87 w36 w.heap.size (fun _ => True) (.slice (some ⟨go33, 0, none⟩) x4_1.length co34) y114 := (by rw [hw, Ny114.out]; exact HP35.1); clear HP35; have n0_ := Aside0.mk (hp_); have n1_ := Aside0.mk ((by rw [hw]; exact below_set (HB.out) GB33.out : Below w.heap.size w w36)); clear HO_4; clear HB; have HO_4 := n0_; have HB := n1_; clear n0_ n1_; clear hg hw hp_))
             go_roundg kj4
             case measure => have := HK1.out; have := HJ4.out; omega
             case rel => exact ⟨(y114), (wrap64 ((rd l0 x10_1) + 1)), (wrap64 (x10_1 + 1)), (by first | rfl | (simp; done) | (simp [*]; done)), (by first | rfl | (simp; done) | (simp [*]; done)), H', ⟨by have := HK1.out; have := HJ4.out; omega⟩, ⟨by (with_reducible repeat (first | apply Kd.R_alloc | apply Kd.R_drewN | apply Kd.R_drew)); exact HO_4.out⟩, ⟨by repeat (first | (with_reducible first | exact HB.out | apply below_alloc | apply pw_below_drewN | apply below_drew1) | exact HB.out)⟩⟩
            ·rw [if_neg c32] at H
             exact absurd H (by simp)
           ·rw [if_neg c31] at H
            exact absurd H (by simp)
     ·rw [if_neg c4] at H
      exact absurd H (by simp)
    ·rw [if_neg c3] at H
     exact absurd H (by simp)
   ·rw [if_neg c2] at H
    have c2b0 : decide (x10_1 < (l0.length : Int)) = false := decide_eq_false c2
    clear c2
    by_cases c37 : (l0.length : Int) > 4096
    ·rw [if_pos c37] at H
     have c37b0 : decide (4096 < (l0.length : Int)) = true := decide_eq_true c37
     have c37b1 : decide (4096 < l0.length) = true := decide_eq_true (by omega)
     clear c37
     simp only [Option.some.injEq, Prod.mk.injEq] at H
     obtain ⟨rfl, rfl⟩ := H
     go_wp2
     go_ret2
     exact ⟨_, by first | rfl | (simp [errW_none, errW_some] <;> rfl) | (simp [*, errW_none, errW_some] <;> rfl), by first | exact Kd.R_nil _ _ _ _ _ | exact Kd.N_nil _ _ _ _ _ | exact Kd.V_nil _ _ _ _ _ | exact Kd.Q_nil _ _ _ _ _ | exact Kd.S_nil _ _ _ _ _, by repeat (first | (with_reducible first | exact HB.out | apply below_alloc | apply pw_below_drewN | apply below_drew1) | exact HB.out)⟩
    ·rw [if_neg c37] at H
     have c37b0 : decide (4096 < (l0.length : Int)) = false := decide_eq_false c37
     have c37b1 : decide (4096 < l0.length) = false := decide_eq_false (by omega)
     clear c37
     by_cases c38 : (x4_1.length : Int) > 1024
     ·rw [if_pos c38] at H
      have c38b0 : decide (1024 < (x4_1.length : Int)) = true := decide_eq_true c38
      have c38b1 : decide (1024 < x4_1.length) = true := decide_eq_true (by omega)
      clear c38
      simp only [Option.some.injEq, Prod.mk.injEq] at H
      obtain ⟨rfl, rfl⟩ := H
      obtain ⟨Ao39, co39, eo39⟩ := Kd.R_slice HO_4.out
      subst eo39
      go_wp2
      go_ret2
      exact ⟨_, by first | rfl | (simp [errW_none, errW_some] <;> rfl) | (simp [*, errW_none, errW_some] <;> rfl), by first | exact Kd.R_nil _ _ _ _ _ | exact Kd.N_nil _ _ _ _ _ | exact Kd.V_nil _ _ _ _ _ | exact Kd.Q_nil _ _ _ _ _ | exact Kd.S_nil _ _ _ _ _, by repeat (first | (with_reducible first | exact HB.out | apply below_alloc | apply pw_below_drewN | apply below_drew1) | exact HB.out)⟩
     ·rw [if_neg c38] at H
      have c38b0 : decide (1024 < (x4_1.length : Int)) = false := decide_eq_false c38
      have c38b1 : decide (1024 < x4_1.length) = false := decide_eq_false (by omega)
      clear c38
      simp only [Option.some.injEq, Prod.mk.injEq] at H
      obtain ⟨rfl, rfl⟩ := H
      obtain ⟨Ao40, co40, eo40⟩ := Kd.R_slice HO_4.out
      subst eo40
      go_wp2
      go_ret2
      exact ⟨_, by first | rfl | (simp [errW_none, errW_some] <;> rfl) | (simp [*, errW_none, errW_some] <;> rfl), by (with_reducible repeat (first | apply Kd.R_alloc | apply Kd.R_drewN | apply Kd.R_drew)); exact HO_4.out, by repeat (first | (with_reducible first | exact HB.out | apply below_alloc | apply pw_below_drewN | apply below_drew1) | exact HB.out)⟩
end Go.Proofs.Ytgkplhdcafbfbaa.P
namespace Go.Proofs.Ytgkplhdcafbfbaa.P
open Go.RowKit Go.Shelf Go.Proofs.YtgkplhdcafbfbaaW.PrintWords Go.Proofs.YtgkplhdcafbfbaaW.PrintLast Go.Proofs.YtgkplhdcafbfbaaW.PrintMore
attribute [local go_sem] Oper.semAt_some
def runAt : Int → Nat → List Int
  | _, 0 => []
  | a, n + 1 => a :: runAt (wrap64 (a + 1)) n
def runEnd : Int → Nat → Int
  | a, 0 => a
  | a, n + 1 => runEnd (wrap64 (a + 1)) n
theorem runAt_snoc : ∀ (n : Nat) (a : Int), runAt a (n + 1) = runAt a n ++ [runEnd a n]
  | 0, _ => rfl
  | n + 1, a => by
    show a :: runAt (wrap64 (a + 1)) (n + 1) = a :: runAt (wrap64 (a + 1)) n ++ [runEnd (wrap64 (a + 1)) n]
    rw [runAt_snoc n]; rfl
theorem runEnd_snoc : ∀ (n : Nat) (a : Int), runEnd a (n + 1) = wrap64 (runEnd a n + 1)
  | 0, _ => rfl
  | n + 1, a => by
    show runEnd (wrap64 (a + 1)) (n + 1) = wrap64 (runEnd (wrap64 (a + 1)) n + 1)
    rw [runEnd_snoc n]
theorem runAt_length : ∀ (n : Nat) (a : Int), (runAt a n).length = n
  | 0, _ => rfl
  | n + 1, a => by show (runAt (wrap64 (a + 1)) n).length + 1 = n + 1; rw [runAt_length n]
def placesAt : Int → List S87 → List Int
  | _, [] => []
  | a, s :: r => runAt (wrap64 (a + s.f0)) s.f1.toNat ++ placesAt (runEnd (wrap64 (a + s.f0)) s.f1.toNat) r
def endAt : Int → List S87 → Int
  | a, [] => a
  | a, s :: r => endAt (runEnd (wrap64 (a + s.f0)) s.f1.toNat) r
theorem placesAt_snoc (s : S87) : ∀ (l : List S87) (a : Int), placesAt a (l ++ [s]) = placesAt a l ++ runAt (wrap64 (endAt a l + s.f0)) s.f1.toNat
  | [], a => by simp [placesAt, endAt]
  | x :: l, a => by simp [placesAt, endAt, placesAt_snoc s l]
theorem endAt_snoc (s : S87) : ∀ (l : List S87) (a : Int), endAt a (l ++ [s]) = runEnd (wrap64 (endAt a l + s.f0)) s.f1.toNat
  | [], a => by simp [endAt]
  | x :: l, a => by simp [endAt, endAt_snoc s l]
theorem placesAt_take_le (l : List S87) (k : Nat) : (placesAt 0 (l.take k)).length ≤ (placesAt 0 l).length := by
  have : ∀ (l r : List S87) (a : Int), (placesAt a l).length ≤ (placesAt a (l ++ r)).length := by
    intro l
    induction l with
    | nil => intro r a; simp [placesAt]
    | cons x l ih => intro r a; simp [placesAt]; exact ih _ _
  have h := this (l.take k) (l.drop k) 0
  rwa [List.take_append_drop] at h
theorem placesAt_prefix (l r : List S87) : placesAt 0 l <+: placesAt 0 (l ++ r) := by
  have : ∀ (l r : List S87) (a : Int), placesAt a l <+: placesAt a (l ++ r) := by
    intro l
    induction l with
    | nil => intro r a; simp [placesAt]
    | cons x l ih => intro r a; simp only [placesAt, List.cons_append]; exact (List.prefix_append_right_inj _).2 (ih _ _)
  exact this l r 0
def numd (ps : List Int) : List (Int × Int) := ps.zipIdx.map fun p => (((p.2 : Nat) : Int), p.1)
theorem numd_snoc (ps : List Int) (p : Int) : numd (ps ++ [p]) = numd ps ++ [((ps.length : Int), p)] := by
  simp [numd, List.zipIdx_append]
theorem numd_length (ps : List Int) : (numd ps).length = ps.length := by simp [numd]
theorem numd_prefix {a b : List Int} (h : a <+: b) : numd a <+: numd b := by
  obtain ⟨c, rfl⟩ := h
  unfold numd
  rw [List.zipIdx_append, List.map_append]
  exact List.prefix_append _ _
def KeepR (n0 n1 : Nat) (W W' : World) : Prop := W.heap.size ≤ W'.heap.size ∧ ∀ k, n0 ≤ k → k < n1 → W'.heap[k]? = W.heap[k]?
theorem KeepR.refl (n0 n1 : Nat) (W : World) : KeepR n0 n1 W W := ⟨Nat.le_refl _, fun _ _ _ => rfl⟩
theorem KeepR.trans {n0 n1 : Nat} {A B C : World} (h : KeepR n0 n1 A B) (k : KeepR n0 n1 B C) : KeepR n0 n1 A C := ⟨Nat.le_trans h.1 k.1, fun i h0 h1 => (k.2 i h0 h1).trans (h.2 i h0 h1)⟩
theorem KeepR.put {n0 n1 : Nat} {w : World} (hn : n1 ≤ w.heap.size) (W : World) (l : Nat) (o o' : Obj) (hl : w.heap.size ≤ l) (h : W.heap[l]? = some o) (_ : o.isCells = false) (_ : o.isWalk = false) : KeepR n0 n1 W (W.putObj l o') := by
  have hg := grownBy_putObj' W l o'
  refine ⟨hg.size, fun k h0 h1 => hg.block k ?_ (fun e => by injection e with e; omega)⟩
  have := (Array.getElem?_eq_some_iff.1 h).1
  omega
theorem KeepR.of_below {n0 n1 : Nat} {B : Nat} {W W' : World} (h : Below B W W') (hn : n1 ≤ B) : KeepR n0 n1 W W' := ⟨h.size, fun k _ h1 => h.block k (by omega)⟩
def HoldsSp (n0 n1 Bn : Nat) (v : Value) (l : List S87) (W : World) : Prop :=
  (n0 ≤ Bn ∧ Bn < n1) ∧ n1 ≤ W.heap.size ∧ W.heap[Bn]? = some (.cells #[v] 27 (0, 0)) ∧ Kd.R k87 87 W n0 (fun k => n0 ≤ k ∧ k < n1) v l
theorem HoldsSp.keep {n0 n1 Bn : Nat} {v : Value} {l : List S87} {W W' : World} (h : HoldsSp n0 n1 Bn v l W) (k : KeepR n0 n1 W W') : HoldsSp n0 n1 Bn v l W' :=
  ⟨h.1, Nat.le_trans h.2.1 k.1, (k.2 Bn h.1.1 h.1.2).trans h.2.2.1, Kd.R_move h.2.2.2 (fun q hq => k.2 q hq.1 hq.2)⟩
set_option maxRecDepth 100000 in
set_option maxHeartbeats 4000000 in
theorem all1_in (n : Nat) (hn : 1 ≤ n) (L n0 n1 Bn : Nat) (v : Value) (l : List S87) (k : Nat) (hck : span_Check.f k l = some 0) (hN : (placesAt 0 l).length ≤ 4611686018427387904) (J Jx : List (Int × Int) → World → Prop)
    (hJ : ∀ s W W', J s W → W.grownBy W' none → J s W')
    (hY : ∀ pre x W, J pre W → pre.length < (placesAt 0 l).length → YieldAt Fence.wide (n - 1) Try.prog L #[.int .i64 x.1, .int .i64 x.2] W fun e W' =>
      (e = .returned (.bool true) ∧ J (pre ++ [x]) W' ∧ KeepR n0 n1 W W') ∨ (e = .returned (.bool false) ∧ Jx (pre ++ [x]) W'))
    (W : World) (hS : HoldsSp n0 n1 Bn v l W) (h0 : J [] W) :
    CallsIn Fence.wide n Try.prog 141 #[.func (.yield L) #[] #[], .pointer (some ⟨Bn, 0, none⟩)] W fun e W' => (∃ v, e = .returned v) ∧
      ((∃ ys, ys = numd (placesAt 0 l) ∧ J ys W') ∨ (∃ pre, pre <+: numd (placesAt 0 l) ∧ Jx pre W')) := by
  have hu := Try.underlying87
  have hf : Fence.wide.fn 118 := trivial
  obtain ⟨A, c, rfl, hlc, hC⟩ := Kd.R_reads hS.2.2.2
  have hcell : W.cell? ⟨Bn, 0, none⟩ = some (.slice A l.length c) := by
    have := blk_cell (i := 0) hS.2.2.1
    rw [this]; rfl
  have hm : l.length ≤ 9223372036854775807 := hC.2.1
  have HCk := Aside0.mk (span_Check.calls k A c l 0 W hC hlc hck)
  have HJ := Aside0.mk hJ
  have HY := Aside0.mk hY
  have HS := Aside0.mk hS
  have H0 := Aside0.mk h0
  clear hJ hY hS h0 hC
  refine callsIn_of_wp Try.func141 rfl trivial ?_ rfl
  simp only [Try.ntmps141, List.size_toArray, List.length_cons, List.length_nil, Nat.reduceAdd, Nat.reduceSub, Array.replicate_succ, Array.replicate_zero, List.push_toArray, List.append_toArray, List.nil_append, List.cons_append]
  gi_wp2_with (gi_at_call 118; refine (callsIn_wide.2 HCk.out).mono ?_; rintro e w1 ⟨rfl, hb⟩; have HB := Aside0.mk hb; have hcell1 := (hb.cell (World.block_lt_of_cell? W _ hcell)).trans hcell; clear hb hcell)
  have HS1 := Aside0.mk (HS.out.keep (KeepR.of_below HB.out HS.out.2.1))
  have H1 := Aside0.mk (HJ.out _ _ _ H0.out (grown_of_below HB.out none))
  clear HS H0 HB HCk
  gi_loopw [3, 4, 12] (fun s3 s4 s12 wr => ∃ kk : Nat, kk ≤ l.length ∧ s12 = .int .i64 kk ∧ s3 = .int .i64 (endAt 0 (l.take kk)) ∧ s4 = .int .i64 ((placesAt 0 (l.take kk)).length : Int) ∧ Aside0 (HoldsSp n0 n1 Bn (.slice A l.length c) l wr) ∧ Aside0 (J (numd (placesAt 0 (l.take kk))) wr)) (fun _ _ s12 _ => l.length - (intOf s12).toNat)
  case atStart => exact ⟨0, Nat.zero_le _, rfl, by simp [endAt], by simp [placesAt], HS1, by simpa [placesAt, numd] using H1⟩
  case round =>
    obtain ⟨kk, hkk, rfl, rfl, rfl, HS, HJ0⟩ := hrel
    clear HS1 H1
    by_cases hlt : kk < l.length
    · have hlti : (kk : Int) < (l.length : Int) := by omega
      have hC := (Kd.R_reads' HS.out.2.2.2).2.2
      obtain ⟨ad, e1, hx0, hx1⟩ := at_T87 hC kk (by omega) (by omega)
      cases e1
      clear hC
      have hrd : rd_T87 l (kk : Int) = l[kk] := by unfold rd_T87; simp [List.getD, hlt]
      rw [hrd, Int.toNat_natCast] at hx0 hx1
      have HT := Aside0.mk (List.take_succ_eq_append_getElem hlt)
      generalize l[kk] = y at hx0 hx1 HT hrd
      clear hrd
      obtain ⟨wo, rfl⟩ : ∃ wo : World, wo = wr := ⟨_, rfl⟩
      have hple : (placesAt 0 (l.take kk)).length ≤ 4611686018427387904 := Nat.le_trans (placesAt_take_le l kk) hN
      have HP1 := Aside0.mk (placesAt_snoc y (l.take kk) 0)
      have HE1 := Aside0.mk (endAt_snoc y (l.take kk) 0)
      have HLE : Aside0 ((placesAt 0 (l.take kk)).length + y.f1.toNat ≤ (placesAt 0 l).length ∧ placesAt 0 (l.take kk) ++ runAt (wrap64 (endAt 0 (l.take kk) + y.f0)) y.f1.toNat <+: placesAt 0 l) := by
        have h := placesAt_prefix (l.take (kk + 1)) (l.drop (kk + 1))
        rw [List.take_append_drop, HT.out, HP1.out] at h
        refine ⟨⟨?_, h⟩⟩
        have := h.length_le
        rwa [List.length_append, runAt_length] at this
      rw [← HT.out] at HP1 HE1
      clear HT
      generalize endAt 0 (l.take kk) = at0 at HP1 HE1 HLE
      generalize placesAt 0 (l.take kk) = ps at HP1 HLE HJ0 hple
      have HS0 := Aside0.mk (HS.out.keep (KeepR.of_below (below_alloc (Below.refl _ wo) (.cells #[.int .i64 y.f0, .int .i64 y.f1] 87)) HS.out.2.1))
      have HJ1 := Aside0.mk (HJ.out _ _ _ HJ0.out (grown_of_below (below_alloc (Below.refl _ wo) (.cells #[.int .i64 y.f0, .int .i64 y.f1] 87)) none))
      clear HS HJ0
      gi_wp2
      gi_loopw [3, 4, 22] (fun s3 s4 s22 wr => ∃ i : Nat, i ≤ y.f1.toNat ∧ s22 = .int .i64 i ∧ s3 = .int .i64 (runEnd (wrap64 (at0 + y.f0)) i) ∧ s4 = .int .i64 ((ps.length : Int) + (i : Int)) ∧ Aside0 (HoldsSp n0 n1 Bn (.slice (some ad) l.length c) l wr) ∧ Aside0 (J (numd (ps ++ runAt (wrap64 (at0 + y.f0)) i)) wr)) (fun _ _ s22 _ => (y.f1 - intOf s22).toNat)
      case atStart => exact ⟨0, Nat.zero_le _, rfl, rfl, by simp, HS0, by simpa [runAt] using HJ1⟩
      case round =>
        obtain ⟨i, hi, rfl, rfl, rfl, HS, HJ0⟩ := hrel
        clear HS0 HJ1
        by_cases hli : (i : Int) < y.f1
        · have hlen : (ps ++ runAt (wrap64 (at0 + y.f0)) i).length = ps.length + i := by rw [List.length_append, runAt_length]
          have hlt2 : ps.length + i < (placesAt 0 l).length := by have := HLE.out.1; omega
          have hnx : (ps.length : Int) + (i : Int) + 1 ≤ 4611686018427387904 := by omega
          have hn0 : 0 ≤ (ps.length : Int) + (i : Int) := by omega
          have hy1 : y.f1 ≤ 4611686018427387904 := by have := HLE.out.1; omega
          obtain ⟨fn, tmps, assign, body, hy, hR⟩ := HY.out (numd (ps ++ runAt (wrap64 (at0 + y.f0)) i)) ((ps.length : Int) + (i : Int), runEnd (wrap64 (at0 + y.f0)) i) wr HJ0.out (by rw [numd_length, hlen]; exact hlt2)
          dsimp only at hy
          have HA := Aside0.mk (runAt_snoc i (wrap64 (at0 + y.f0)))
          have HE := Aside0.mk (runEnd_snoc i (wrap64 (at0 + y.f0)))
          have HNS := Aside0.mk (numd_snoc (ps ++ runAt (wrap64 (at0 + y.f0)) i) (runEnd (wrap64 (at0 + y.f0)) i))
          have HL := Aside0.mk hlen
          have HRR := Aside0.mk hR
          clear hR hlen HJ0
          gi_wp2
          refine HRR.out.mono ?_
          rintro e W3 (⟨rfl, hJ3, hk3⟩ | ⟨rfl, hJx3⟩)
          · have HJ3 := Aside0.mk hJ3
            have HS3 := Aside0.mk (HS.out.keep hk3)
            clear hJ3 hk3
            gi_wp2
            go_roundw
            case rel => 
              refine ⟨i + 1, by omega, by go_num, by rw [HE.out], by go_num, HS3, ⟨?_⟩⟩
              rw [HA.out, ← List.append_assoc, HNS.out, HL.out]
              exact HJ3.out
            case measure => simp [intOf]; omega
          · have HX := Aside0.mk hJx3
            clear hJx3
            gi_wp2
            refine bodyPost_ret (results_none rfl _ _ _) rfl ?_
            refine ⟨⟨_, rfl⟩, .inr ⟨_, ?_, HX.out⟩⟩
            have h1 := numd_prefix HLE.out.2
            have hi1 : i + 1 ≤ y.f1.toNat := by omega
            have h2 : ps ++ runAt (wrap64 (at0 + y.f0)) (i + 1) <+: ps ++ runAt (wrap64 (at0 + y.f0)) y.f1.toNat := by
              refine (List.prefix_append_right_inj _).2 ?_
              have : ∀ (m j : Nat) (a : Int), j ≤ m → runAt a j <+: runAt a m := by
                intro m
                induction m with
                | zero => intro j a hj; obtain rfl : j = 0 := by omega
                          exact List.prefix_rfl
                | succ m ih =>
                  intro j a hj
                  cases j with
                  | zero => exact List.nil_prefix
                  | succ j => exact (List.cons_prefix_cons).2 ⟨rfl, ih j _ (by omega)⟩
              exact this _ _ _ hi1
            have h3 := (numd_prefix h2).trans h1
            rw [HA.out, ← List.append_assoc, HNS.out, HL.out] at h3
            exact h3
        · have hie : i = y.f1.toNat := by omega
          have hli' : ¬ (i : Int) < y.f1 := hli
          gi_wp2
          go_roundw
          case rel =>
            refine ⟨kk + 1, by omega, by go_num, ?_, ?_, HS, ?_⟩
            · rw [HE1.out, hie]
            · rw [HP1.out, List.length_append, runAt_length, hie]; go_num
            · rw [HP1.out, ← hie]; exact HJ0
          case measure => simp [intOf]; omega
    · have hlti : ¬ (kk : Int) < (l.length : Int) := by omega
      have hk : l.take kk = l := List.take_of_length_le (by omega)
      have HK := Aside0.mk hk
      clear hk
      gi_wp2
      go_end0
      have hj := HJ0.out
      rw [HK.out] at hj
      exact ⟨⟨_, rfl⟩, .inl hj⟩
theorem all_in (n : Nat) (hn : 1 ≤ n) (A0 : Option Addr) (c0 : Nat) (l0 : List S87) (w : World) (hr0 : Kd.C k87 w A0 l0.length l0) (hc0 : l0.length ≤ c0) (hm : l0.length < 8796093022208) :
    CallsIn Fence.wide n Try.prog 140 #[.slice A0 l0.length c0] w fun e w' => ∃ (Bn : Nat) (v : Value), e = .returned (.func (.func 141) #[] #[.pointer (some ⟨Bn, 0, none⟩)]) ∧ HoldsSp w.heap.size w'.heap.size Bn v l0 w' ∧ Below w.heap.size w w' := by
  have hf : Fence.wide.fn 80 := trivial
  have HC := Aside0.mk (slices_Clone_span.calls A0 c0 l0 l0 w hr0 hc0 (by unfold slices_Clone_span.f; rw [if_pos hm]))
  clear hr0 hc0 hm
  refine callsIn_of_wp Try.func140 rfl trivial ?_ rfl
  simp only [Try.ntmps140, List.size_toArray, List.length_cons, List.length_nil, Nat.reduceAdd, Nat.reduceSub, Array.replicate_succ, Array.replicate_zero, List.push_toArray, List.append_toArray, List.nil_append, List.cons_append]
  gi_wp2_with (gi_at_call 80; refine (callsIn_wide.2 HC.out).mono ?_; rintro e w1 ⟨v, rfl, ho, hb⟩; have HO := Aside0.mk ho; have HB := Aside0.mk hb; obtain ⟨A1, c1, rfl⟩ := Kd.R_slice ho; clear ho hb)
  go_ret
  refine ⟨w1.heap.size, .slice A1 l0.length c1, rfl, ⟨⟨HB.out.size, by simp⟩, by simp, ?_, ?_⟩, below_then HB.out HB.out.size (below_alloc (Below.refl _ _) _)⟩
  · simpa using blk_new w1 (.cells #[.slice A1 l0.length c1] 27)
  · refine Kd.R_mono (Kd.R_bound (Kd.R_below HO.out (below_alloc (Below.refl _ _) _))) (fun k hk => ⟨hk.2.1, hk.2.2.1⟩)
theorem all_stops (n : Nat) (hn : 1 ≤ n) (n0 Bn : Nat) (v : Value) (l : List S87) (k : Nat) (hck : span_Check.f k l = some 0) (hN : (placesAt 0 l).length ≤ 4611686018427387904) (w : World) (hS : HoldsSp n0 w.heap.size Bn v l w) :
    SeqStopsK Fence.wide n Try.prog 141 #[.pointer (some ⟨Bn, 0, none⟩)] (fun x : Int × Int => #[Value.int .i64 x.1, .int .i64 x.2]) (KeepR n0 w.heap.size) (fun ys => ys = numd (placesAt 0 l)) (fun pre => pre <+: numd (placesAt 0 l)) (placesAt 0 l).length w := fun L J Jx W hW hJ _ hY h0 =>
  all1_in n hn L n0 w.heap.size Bn v l k hck hN J Jx (fun s A B hs hg => hJ s A B none hs hg (fun r e => by cases e)) hY W (hS.keep (KeepR.of_below hW (Nat.le_refl _))) h0
end Go.Proofs.Ytgkplhdcafbfbaa.P
namespace Go.Proofs.Ytgkplhdcafbfbaa.P
open Go.RowKit Go.Shelf Go.Proofs.YtgkplhdcafbfbaaW.PrintWords Go.Proofs.YtgkplhdcafbfbaaW.PrintLast Go.Proofs.YtgkplhdcafbfbaaW.PrintMore
attribute [local go_sem] Oper.semAt_some
def span_Places.f (k : Nat) (l0 : List S87) : Option (List Int × Int) :=
  (span_Check.f k l0).bind fun e => if e = 0 then (if l0.length < 8796093022208 ∧ (placesAt 0 l0).length < 17592186044416 then some (placesAt 0 l0, 0) else none) else some ([], e)
theorem numd_map (ps : List Int) : (numd ps).map (fun x => Value.int .i64 x.2) = encs (Value.int .i64) ps := by
  unfold numd encs
  rw [List.map_map]
  have : ∀ (ps : List Int) (i : Nat), (ps.zipIdx i).map ((fun x : Int × Int => Value.int .i64 x.2) ∘ fun p : Int × Nat => (((p.2 : Nat) : Int), p.1)) = ps.map (Value.int .i64) := by
    intro ps
    induction ps with
    | nil => intro i; rfl
    | cons p ps ih => intro i; simp only [List.zipIdx_cons, List.map_cons, ih, Function.comp]
  exact this ps 0
theorem keepR_appended {n0 n1 B : Nat} {W w1 : World} {e : TypeId} {size k : Nat} {v v' : Value} {xs : List Value} {tmp : Obj} (hB : B < n0) (hn : n1 ≤ W.heap.size)
    (hrow : W.ownsRow n1 e size v k xs) (hgrow : (W.alloc tmp).grownBy w1 v.ownBlock) : KeepR n0 n1 W (w1.setCell ⟨B, 0, none⟩ v') := by
  have hs := hgrow.size
  simp at hs
  refine ⟨by simp [World.setCell]; omega, fun q h0 h1 => ?_⟩
  rw [Below.heap_setCell w1 ⟨B, 0, none⟩ v' q (by show q ≠ B; omega), hgrow.block q (by simp; omega) (fun e' => ?_), Below.heap_alloc W tmp q (by omega)]
  have := own_base hrow q e'.symm
  omega
set_option maxRecDepth 100000 in
set_option maxHeartbeats 4000000 in
theorem span_Places.calls (k : Nat) (A0 : Option Addr) (c0 : Nat) (l0 : List S87) (r1 : List Int) (r2 : Int) (w : World) (hr0 : Kd.C k87 w A0 l0.length l0) (hc0 : l0.length ≤ c0) (h : span_Places.f k l0 = some (r1, r2)) :
    Calls Try.prog 135 #[.slice A0 l0.length c0] w fun e w' => ∃ v0_ : Value, e = .returned (.tuple #[v0_, .int .i64 r2]) ∧ Kd.R (Kd.int .i64) 3 w' w.heap.size (fun _ => True) v0_ r1 ∧ Below w.heap.size w w' := by
  obtain ⟨e0, hck, h2⟩ := Option.bind_eq_some_iff.1 h
  clear h
  have HCk := Aside0.mk (span_Check.calls k A0 c0 l0 e0 w hr0 hc0 hck)
  by_cases he : e0 = 0
  · subst he
    rw [if_pos rfl] at h2
    obtain ⟨hm, h3⟩ := of_ite_some h2
    injection h3 with h4 h5
    subst h4; subst h5
    clear h2
    refine (callsIn_wide (n := 5)).1 ?_
    have hf0 : Fence.wide.fn 118 := trivial
    have hf1 : Fence.wide.fn 140 := trivial
    have HR := Aside0.mk hr0
    have HM := Aside0.mk hm
    obtain ⟨i0, hi, hz0, hz1, hz2⟩ := info_parts info3
    clear hr0 hm
    refine callsIn_of_wp_marks Try.func135 rfl trivial ?_ rfl
    simp only [Try.ntmps135, List.size_toArray, List.length_cons, List.length_nil, Nat.reduceAdd, Nat.reduceSub, Array.replicate_succ, Array.replicate_zero, List.push_toArray, List.append_toArray, List.nil_append, List.cons_append]
    gi_wp2_with (first | (gi_at_call 118; refine (callsIn_wide.2 HCk.out).mono ?_; rintro e w1 ⟨rfl, hb⟩; have HB := Aside0.mk hb; clear hb HCk) | (gi_at_call 140; refine (all_in _ (by omega) A0 c0 l0 _ (Kd.C_below (Kd.C_below HR.out HB.out) (below_alloc (Below.refl _ _) _)) hc0 HM.out.1).mono ?_; rintro e w2 ⟨Bn, v, rfl, hS, hb2⟩; have HS := Aside0.mk hS; have HB2 := Aside0.mk hb2; clear hS hb2))
    have hsz : w1.heap.size + 1 ≤ w2.heap.size := by have := HB2.out.size; simpa using this
    have hB2 : w2.heap[w1.heap.size]? = some (.cells #[.slice none 0 0] 95 (0, 0)) := (HB2.out.block _ (by simp)).trans (by simpa using blk_new w1 (.cells #[.slice none 0 0] 95))
    have hBW : Below w.heap.size w w2 := below_then (below_then HB.out HB.out.size (below_alloc (Below.refl _ _) _)) (by have := HB.out.size; simp; omega) HB2.out
    have hS2 : HoldsSp (w1.heap.size + 1) w2.heap.size Bn v l0 w2 := by simpa using HS.out
    refine wpIn_rangeFunc_ownG rfl (by omega) (gf := 141) (lb := #[.pointer (some ⟨Bn, 0, none⟩)]) rfl trivial (enters_of Try.func141 (by kernel_rfl) rfl)
      (all_stops _ (by omega) (w1.heap.size + 1) Bn v l0 k hck (by have := HM.out.2; omega) w2 hS2) KeepR.trans (KeepR.put (Nat.le_refl _)) (Below.refl _ _) (fun _ => rfl)
      (fun pre W => (∃ v, Boxed W w1.heap.size 95 v ∧ W.ownsRow w2.heap.size 3 1 v pre.length (pre.map fun x => Value.int .i64 x.2) ∧ True) ∧ (Below w.heap.size w W ∧ w2.heap.size ≤ W.heap.size))
      (fun _ _ _ => False)
      (OwnFrom.and (Own.from (holdsRow_own w2.heap.size w1.heap.size 95 3 1 (fun pre : List (Int × Int) => pre.length) (fun pre => pre.map fun x => Value.int .i64 x.2) (fun pre v => True)) _) (OwnFrom.and (ownFrom_below (Nat.le_refl _) (by have := HB.out.size; omega)) (fun s A B row hs hg hr => Nat.le_trans hs hg.size)))
      (fun _ _ _ _ _ hs _ _ => hs)
      ⟨⟨_, hB2, World.ownsRow_nil _ _ _ _, trivial⟩, hBW, Nat.le_refl _⟩
      (fun x => { tmps := #[.slice A0 l0.length c0, undef, .slice none 0 0, .int .i64 0, .int .i64 0, .pointer (some ⟨w1.heap.size, 0, none⟩), undef, .int .i64 x.2, .slice A0 l0.length c0, .int .i64 0, .int .i64 0, .bool false, undef, .slice A0 l0.length c0, .func (.func 141) #[] #[.pointer (some ⟨Bn, 0, none⟩)], .int .i64 x.1, .int .i64 x.2, undef, undef, undef, undef, undef], defers := [] }) ?assign ?body ?done ?stop
    case assign =>
      intro l x W K hK
      gi_wp2
      exact hK
    case body =>
      rintro l pre x W ⟨⟨v, hv, hrow, _⟩, hB, hW2⟩ hlt
      have hc := hv.cell
      have hL := HM.out.2
      gi_wp2_with (gi_at_builtin; refine wpListIn_append_own _ rfl _ _ 95 rfl w2.heap.size 3 i0 (.int .i64 0) 1 8 Try.underlying95 hi hz0 hz1 hz2 rfl (by decide) _ _ _ rfl (hrow.alloc _) ⟨W.heap.size, 0, none⟩ 1 1 [.int .i64 x.2] rfl rfl (cell_one_new _ _ _) (by simp [Value.oneCell']) (by unfold maxLen; omega) (by omega) (by simp; omega) ?_; intro v' w3 hown' hgrow _; obtain ⟨g', cap', rfl⟩ := ownsRow_succ hown'; have hkr := keepR_appended (v' := .slice (some ⟨g', 0, none⟩) (pre.length + 1) cap') (B := w1.heap.size) (n0 := w1.heap.size + 1) (Nat.lt_succ_self _) hW2 hrow hgrow; obtain ⟨hv1, hv2, hr2, hk2, hb2⟩ := hv.appended (n₀ := w1.heap.size) (by decide) (own_weaken hrow (by omega)) (by omega) (Nat.le_refl _) (own_weaken hown' (by omega)) hgrow; have hr3 := hown'.kept (grownBy_setCell' w3 w1.heap.size (.slice (some ⟨g', 0, none⟩) (pre.length + 1) cap')) (.inr (hv1.not_row (by decide) hown').symm); have hc1 := hv1.cell; have hf1 := hv1.frozen)
      exact ⟨hk2.from _, hkr, ⟨⟨_, hv2, by simpa using hr3, trivial⟩, hB.trans (hb2.mono HB.out.size), Nat.le_trans hW2 hkr.1⟩⟩
    case done =>
      rintro D ys W hD rfl ⟨⟨v, hv, hrow, _⟩, hB, hW2⟩ hK
      have hc := hv.cell
      gi_wp2
      refine ⟨by simp, .inl ⟨_, _, rfl, run_takeDeferred hK, ?_⟩⟩
      have hr2 := ownsRow_putObj hrow (.deferred none) hK rfl
      refine ⟨_, results_tmp2 rfl _ _ _, v, rfl, ?_, hB.trans (belowK_b (w := w2) (by have := HB.out.size; omega) W D _ _ hD hK rfl rfl)⟩
      rw [numd_length, numd_map] at hr2
      exact Kd.R_lower (Kd.R_of_own (enc := Value.int .i64) (h1 := fun _ => rfl) hr2 (fun _ _ => trivial)) (by have := HB.out.size; omega)
    case stop =>
      rintro D c pre W _ _ h _
      exact h.elim
  · rw [if_neg he] at h2
    have h3 := Option.some.inj h2
    injection h3 with h4 h5
    subst h4; subst h5
    clear h2
    have he1 : (e0 == 0) = false := beq_eq_false_iff_ne.2 he
    have he2 : (e0 != 0) = true := bne_iff_ne.2 he
    go_enter Try.func135, Try.ntmps135
    go_wp2_with (go_at_call 118; refine HCk.out.mono ?_; rintro e w1 ⟨rfl, hb⟩; have HB := Aside0.mk hb; clear hb)
    go_ret2
    exact ⟨_, rfl, Kd.R_nil _ _ _ _ _, HB.out⟩
end Go.Proofs.Ytgkplhdcafbfbaa.P
namespace Go.Proofs.Ytgkplhdcafbfbaa.P
open Go.RowKit Go.Proofs.YtgkplhdcafbfbaaW.PrintWords Go.Proofs.YtgkplhdcafbfbaaW.PrintLast Go.Proofs.YtgkplhdcafbfbaaW.PrintMore
abbrev Sp := S87
abbrev Rsp := S104
def wfSp (s : Sp) : Prop := i64 s.f0 ∧ i64 s.f1
def wfSps (l : List Sp) : Prop := ∀ s ∈ l, wfSp s
theorem wfSps_of {l : List Sp} (h : ∀ s ∈ l, wf87 s) : wfSps l := fun s hs => ⟨i64_of (h s hs).1, i64_of (h s hs).2⟩
theorem rdSp_at {l : List Sp} {i : Nat} (h : i < l.length) : rd_T87 l (i : Int) = l[i] := by unfold rd_T87; simp [List.getD, h]
def toR (s : Sp) : Rsp := ⟨s.f0, s.f1⟩
theorem in_eq (p : Int) : span_in.f p = some (decide (-1048576 ≤ p ∧ p ≤ 1048576)) := by
  unfold span_in.f
  by_cases h : p ≥ -1048576
  · rw [if_pos h]; congr 1; rw [decide_eq_decide]; omega
  · rw [if_neg h, decide_eq_false (by omega)]
def oneRight (first : Bool) (a n : Int) (s : Sp) : Prop :=
  0 ≤ s.f1 ∧ s.f1 ≤ 4096 ∧ s.f0 ≤ 2097152 ∧ (if first = true then -1048576 ≤ s.f0 else 0 ≤ s.f0) ∧ -1048576 ≤ a + s.f0 ∧ a + s.f0 ≤ 1048576 ∧ a + s.f0 + max (s.f1 - 1) 0 ≤ 1048576 ∧ n + s.f1 ≤ 4096
instance (f : Bool) (a n : Int) (s : Sp) : Decidable (oneRight f a n s) := by unfold oneRight; exact inferInstance
def spRight : Bool → Int → Int → List Sp → Bool
  | _, _, _, [] => true
  | f, a, n, s :: r => decide (oneRight f a n s) && spRight false (a + s.f0 + s.f1) (n + s.f1) r
theorem mx_max (a b : Int) : mx a b = max a b := by unfold mx; omega
theorem right_j1 (k : Nat) (a n x0 x1 : Int) (l : List Sp) (L i : Int) (ha : -1048576 ≤ a ∧ a ≤ 1048577) (hn : 0 ≤ n ∧ n ≤ 4096) (h0 : -1048576 ≤ x0 ∧ x0 ≤ 2097152) (h1 : 0 ≤ x1 ∧ x1 ≤ 4096) :
    span_right.j1 (k + 1) a n l L i false x0 x1 = if -1048576 ≤ a + x0 ∧ a + x0 ≤ 1048576 ∧ a + x0 + max (x1 - 1) 0 ≤ 1048576 ∧ n + x1 ≤ 4096 then span_right.l0 k (a + x0 + x1) (n + x1) l L (wrap64 (i + 1)) else some false := by
  simp only [span_right.j1]
  rw [if_neg (by decide), wrap_id (x := a + x0) (by omega) (by omega), in_eq]
  simp only [Option.bind_some]
  by_cases c1 : -1048576 ≤ a + x0 ∧ a + x0 ≤ 1048576
  · rw [if_pos (by simpa using c1), wrap_id (x := x1 - 1) (by omega) (by omega), mx_max, wrap_id (x := a + x0 + max (x1 - 1) 0) (by omega) (by omega), in_eq]
    simp only [Option.bind_some]
    by_cases c2 : a + x0 + max (x1 - 1) 0 ≤ 1048576
    · rw [if_pos (by simp; omega), wrap_id (x := n + x1) (by omega) (by omega)]
      by_cases c3 : n + x1 ≤ 4096
      · rw [if_neg (by omega), if_pos ⟨c1.1, c1.2, c2, c3⟩, wrap_id (x := a + x0 + x1) (by omega) (by omega)]
      · rw [if_pos (by omega), if_neg (by omega)]
    · rw [if_neg (by simp; omega), if_neg (by omega)]
  · rw [if_neg (by simpa using c1), if_neg (by omega)]
theorem right_loop (l : List Sp) (hw : wfSps l) (hm : l.length ≤ 4611686018427387904) : ∀ (d k i : Nat) (a n : Int), l.length - i = d → 2 * d < k → i ≤ l.length → -1048576 ≤ a ∧ a ≤ 1048577 → 0 ≤ n ∧ n ≤ 4096 →
    span_right.l0 k a n l (l.length : Int) (i : Int) = some (spRight (decide (i = 0)) a n (l.drop i)) := by
  intro d
  induction d with
  | zero =>
    intro k i a n hd hk hi ha hn
    obtain ⟨k, rfl⟩ : ∃ m, k = m + 1 := ⟨k - 1, by omega⟩
    simp only [span_right.l0]
    rw [if_neg (by omega), drop_end (by omega)]; rfl
  | succ d ih =>
    intro k i a n hd hk hi ha hn
    obtain ⟨k, rfl⟩ : ∃ m, k = m + 2 := ⟨k - 2, by omega⟩
    have hlt : i < l.length := by omega
    have hs := hw _ (List.getElem_mem hlt)
    simp only [span_right.l0]
    rw [if_pos (by omega), if_pos (by omega), if_pos (by omega), rdSp_at hlt, drop_at hlt]
    generalize l[i] = s at hs
    have hbad : ¬ oneRight (decide (i = 0)) a n s → some false = some (spRight (decide (i = 0)) a n (s :: l.drop (i + 1))) := fun h => by simp only [spRight, decide_eq_false h, Bool.false_and]
    have hf : ∀ L' : Int, span_right.j1 (k + 1) a n l (l.length : Int) (i : Int) true s.f0 s.f1 = some false := fun _ => by simp only [span_right.j1]; simp
    have hf := hf 0
    have hgo : (-1048576 ≤ s.f0 ∧ s.f0 ≤ 2097152) → (0 ≤ s.f1 ∧ s.f1 ≤ 4096) → (if decide (i = 0) = true then -1048576 ≤ s.f0 else 0 ≤ s.f0) → span_right.j1 (k + 1) a n l (l.length : Int) (i : Int) false s.f0 s.f1 = some (spRight (decide (i = 0)) a n (s :: l.drop (i + 1))) := by
      intro h0 h1 h2
      rw [right_j1 k a n s.f0 s.f1 l _ _ ha hn h0 h1]
      by_cases c : -1048576 ≤ a + s.f0 ∧ a + s.f0 ≤ 1048576 ∧ a + s.f0 + max (s.f1 - 1) 0 ≤ 1048576 ∧ n + s.f1 ≤ 4096
      · rw [if_pos c, wrap_succ (by omega), ih k (i + 1) _ _ (by omega) (by omega) (by omega) (by omega) (by omega)]
        have : oneRight (decide (i = 0)) a n s := ⟨h1.1, h1.2, h0.2, h2, c.1, c.2.1, c.2.2.1, c.2.2.2⟩
        simp only [spRight, decide_eq_true this, Bool.true_and]
        rfl
      · rw [if_neg c]; exact hbad (fun h => c ⟨h.2.2.2.2.1, h.2.2.2.2.2.1, h.2.2.2.2.2.2.1, h.2.2.2.2.2.2.2⟩)
    by_cases c1 : s.f0 > 2097152
    · rw [if_pos c1, hf]; exact hbad (fun h => by have := h.2.2.1; omega)
    rw [if_neg c1]
    by_cases c2 : s.f1 < 0
    · rw [if_pos c2, hf]; exact hbad (fun h => by have := h.1; omega)
    rw [if_neg c2]
    by_cases c3 : s.f1 > 4096
    · rw [if_pos c3, hf]; exact hbad (fun h => by have := h.2.1; omega)
    rw [if_neg c3]
    by_cases c4 : s.f0 < 0
    · rw [if_pos c4]
      by_cases c5 : i = 0
      · subst c5
        rw [if_neg (by omega), in_eq]
        simp only [Option.bind_some]
        by_cases c6 : -1048576 ≤ s.f0 ∧ s.f0 ≤ 1048576
        · rw [decide_eq_true c6, Bool.not_true]; exact hgo (by omega) (by omega) (by simp; exact c6.1)
        · rw [decide_eq_false c6, Bool.not_false, hf]; exact hbad (fun h => by have h4 := h.2.2.2.1; rw [if_pos (by simp)] at h4; omega)
      · rw [if_pos (by omega), hf]; exact hbad (fun h => by have h4 := h.2.2.2.1; rw [if_neg (by simp [c5])] at h4; omega)
    · rw [if_neg c4]; exact hgo (by omega) (by omega) (by split <;> omega)
theorem right_eq (l : List Sp) (hw : wfSps l) (hm : l.length ≤ 4611686018427387904) (k : Nat) (hk : 2 * l.length < k) : span_right.f k l = some (spRight true 0 0 l) := by
  unfold span_right.f
  have := right_loop l hw hm l.length k 0 0 0 (by omega) hk (by omega) (by omega) (by omega)
  simpa using this
def spCheck (l : List Sp) : Int := if l.length > 1024 then 12 else if spRight true 0 0 l = true then 0 else 20
theorem check_eq (l : List Sp) (hw : wfSps l) (k : Nat) (hk : 2048 < k) : span_Check.f k l = some (spCheck l) := by
  unfold span_Check.f spCheck
  by_cases h : l.length > 1024
  · rw [if_pos (by omega), if_pos h]
  · rw [if_neg (by omega), if_neg h, right_eq l hw (by omega) k (by omega)]
    simp only [Option.bind_some]
    split <;> rfl
end Go.Proofs.Ytgkplhdcafbfbaa.P
namespace Go.Proofs.Ytgkplhdcafbfbaa.P
open Go.RowKit Go.Proofs.YtgkplhdcafbfbaaW.PrintWords Go.Proofs.YtgkplhdcafbfbaaW.PrintLast Go.Proofs.YtgkplhdcafbfbaaW.PrintMore
def run : Int → Nat → List Int
  | _, 0 => []
  | a, n + 1 => a :: run (a + 1) n
theorem run_length : ∀ (n : Nat) (a : Int), (run a n).length = n
  | 0, _ => rfl
  | n + 1, a => by show (run (a + 1) n).length + 1 = n + 1; rw [run_length n]
theorem run_snoc : ∀ (n : Nat) (a : Int), run a (n + 1) = run a n ++ [a + n]
  | 0, a => by simp [run]
  | n + 1, a => by
    show a :: run (a + 1) (n + 1) = a :: run (a + 1) n ++ [a + ((n + 1 : Nat) : Int)]
    rw [run_snoc n]; simp; omega
def plN : Int → List Sp → List Int
  | _, [] => []
  | a, s :: r => run (a + s.f0) s.f1.toNat ++ plN (a + s.f0 + s.f1) r
def enN : Int → List Sp → Int
  | a, [] => a
  | a, s :: r => enN (a + s.f0 + s.f1) r
def cntN : List Sp → Int
  | [] => 0
  | s :: r => s.f1 + cntN r
theorem plN_snoc (s : Sp) : ∀ (l : List Sp) (a : Int), plN a (l ++ [s]) = plN a l ++ run (enN a l + s.f0) s.f1.toNat
  | [], a => by simp [plN, enN]
  | x :: l, a => by simp [plN, enN, plN_snoc s l]
theorem enN_snoc (s : Sp) : ∀ (l : List Sp) (a : Int), enN a (l ++ [s]) = enN a l + s.f0 + s.f1
  | [], a => by simp [enN]
  | x :: l, a => by simp [enN, enN_snoc s l]
theorem cntN_snoc (s : Sp) : ∀ (l : List Sp), cntN (l ++ [s]) = cntN l + s.f1
  | [] => by simp [cntN]
  | x :: l => by simp [cntN, cntN_snoc s l]; omega
theorem spRight_snoc (s : Sp) : ∀ (l : List Sp) (f : Bool) (a n : Int), spRight f a n (l ++ [s]) = (spRight f a n l && decide (oneRight (f && l.isEmpty) (enN a l) (n + cntN l) s))
  | [], f, a, n => by simp [spRight, enN, cntN]
  | x :: l, f, a, n => by
    simp only [List.cons_append, spRight, enN, cntN, spRight_snoc s l, List.isEmpty_cons, Bool.false_and, Bool.and_false, Bool.and_assoc, Int.add_assoc]
theorem spRight_pos : ∀ (l : List Sp) (f : Bool) (a n : Int), spRight f a n l = true → ∀ s ∈ l, 0 ≤ s.f1 ∧ s.f1 ≤ 4096
  | [], _, _, _, _, s, hs => by simp at hs
  | x :: l, f, a, n, h, s, hs => by
    simp only [spRight, Bool.and_eq_true, decide_eq_true_eq] at h
    rcases List.mem_cons.1 hs with rfl | hs
    · exact ⟨h.1.1, h.1.2.1⟩
    · exact spRight_pos l _ _ _ h.2 s hs
theorem plN_length : ∀ (l : List Sp) (a : Int), (∀ s ∈ l, 0 ≤ s.f1) → ((plN a l).length : Int) = cntN l
  | [], _, _ => rfl
  | s :: l, a, h => by
    have := plN_length l (a + s.f0 + s.f1) (fun x hx => h x (List.mem_cons_of_mem _ hx))
    have := h s (List.mem_cons_self ..)
    simp only [plN, cntN, List.length_append, run_length]
    omega
theorem runAt_run : ∀ (n : Nat) (a : Int), -4611686018427387904 ≤ a → a + n ≤ 4611686018427387904 → runAt a n = run a n ∧ runEnd a n = a + n
  | 0, a, _, _ => ⟨rfl, by simp [runEnd]⟩
  | n + 1, a, h0, h1 => by
    have h2 : a + 1 + (n : Int) ≤ 4611686018427387904 := by omega
    obtain ⟨e1, e2⟩ := runAt_run n (a + 1) (by omega) h2
    simp only [runAt, runEnd, run]
    rw [wrap_id (by omega) (by omega), e1, e2]
    exact ⟨rfl, by omega⟩
theorem placesAt_plN : ∀ (l : List Sp) (f : Bool) (a n : Int), spRight f a n l = true → placesAt a l = plN a l
  | [], _, _, _, _ => rfl
  | s :: l, f, a, n, h => by
    simp only [spRight, Bool.and_eq_true, decide_eq_true_eq] at h
    obtain ⟨h1, h2, h3, h4, h5, h6, h7, h8⟩ := h.1
    have he : ((s.f1.toNat : Nat) : Int) = s.f1 := by omega
    have hb := runAt_run s.f1.toNat (a + s.f0) (by omega) (by omega)
    simp only [placesAt, plN]
    rw [wrap_id (by omega) (by omega), hb.1, hb.2, he, placesAt_plN l _ _ _ h.2]
theorem cntN_le : ∀ (l : List Sp) (f : Bool) (a n : Int), spRight f a n l = true → n ≤ 4096 → n + cntN l ≤ 4096
  | [], _, _, _, _, h => by simp [cntN]; exact h
  | s :: l, f, a, n, h, _ => by
    simp only [spRight, Bool.and_eq_true, decide_eq_true_eq] at h
    have := cntN_le l _ _ _ h.2 h.1.2.2.2.2.2.2.2
    simp only [cntN]; omega
def rises : Int → List Int → Bool
  | _, [] => true
  | e, p :: r => decide (e ≤ p ∧ p ≤ 1048576) && rises (p + 1) r
def lowB (e : Int) (l : List Int) : Int := match l.getLast? with | none => e | some q => q + 1
theorem lowB_none {e : Int} {l : List Int} (h : l.getLast? = none) : lowB e l = e := by unfold lowB; rw [h]
theorem lowB_some {e q : Int} {l : List Int} (h : l.getLast? = some q) : lowB e l = q + 1 := by unfold lowB; rw [h]
theorem rises_snoc (p : Int) : ∀ (l : List Int) (e : Int), rises e (l ++ [p]) = (rises e l && decide (lowB e l ≤ p ∧ p ≤ 1048576))
  | [], e => (show (decide (e ≤ p ∧ p ≤ 1048576) && true) = (true && decide (e ≤ p ∧ p ≤ 1048576)) from Bool.and_comm _ _)
  | x :: l, e => by
    simp only [List.cons_append, rises, rises_snoc p l, Bool.and_assoc]
    congr 3
    cases l with
    | nil => rfl
    | cons y l => cases h : (y :: l).getLast? with
      | none => simp at h
      | some q => rw [lowB_some h, lowB_some (by rw [List.getLast?_cons_cons]; exact h)]
theorem rises_take_false {l : List Int} {i : Nat} (h : i < l.length) (hb : ¬ (lowB (-1048576) (l.take i) ≤ l[i] ∧ l[i] ≤ 1048576)) : rises (-1048576) l = false := by
  have e : l = l.take (i + 1) ++ l.drop (i + 1) := (List.take_append_drop _ _).symm
  have happ : ∀ (a b : List Int) (e : Int), rises e a = false → rises e (a ++ b) = false := by
    intro a
    induction a with
    | nil => intro b e h; simp [rises] at h
    | cons x a ih => intro b e h; simp only [List.cons_append, rises] at h ⊢; rcases Bool.and_eq_false_iff.1 h with h | h
                     · rw [h]; rfl
                     · rw [ih b _ h]; simp
  rw [e]
  apply happ
  rw [take_at h, rises_snoc, decide_eq_false hb]
  simp
def stepF (c : List Sp × Int) (p : Int) : List Sp × Int :=
  (if c.1 = [] ∨ p > c.2 then c.1 ++ [⟨p - c.2, 1⟩] else c.1.dropLast ++ (c.1.getLast?.map fun s => (⟨s.f0, s.f1 + 1⟩ : Sp)).toList, p + 1)
def foldF (l : List Int) : List Sp × Int := l.foldl stepF ([], 0)
def spansOf (l : List Int) : List Sp := (foldF l).1
theorem foldF_snoc (l : List Int) (p : Int) : foldF (l ++ [p]) = stepF (foldF l) p := by simp [foldF]
def canonOne (first : Bool) (s : Sp) : Prop := s.f1 ≠ 0 ∧ (first = false → s.f0 ≠ 0)
instance (f : Bool) (s : Sp) : Decidable (canonOne f s) := by unfold canonOne; exact inferInstance
def canonB : Bool → List Sp → Bool
  | _, [] => true
  | f, s :: r => decide (canonOne f s) && canonB false r
theorem canonB_snoc (s : Sp) : ∀ (l : List Sp) (f : Bool), canonB f (l ++ [s]) = (canonB f l && decide (canonOne (f && l.isEmpty) s))
  | [], f => by simp [canonB]
  | x :: l, f => by simp only [List.cons_append, canonB, canonB_snoc s l, List.isEmpty_cons, Bool.false_and, Bool.and_false, Bool.and_assoc]
structure SpInv (l : List Int) (c : List Sp) (e : Int) : Prop where
  pl : plN 0 c = l
  en : enN 0 c = e
  cnt : cntN c = l.length
  can : canonB true c = true
  pos : ∀ s ∈ c, 1 ≤ s.f1 ∧ s.f1 ≤ l.length ∧ -1048576 ≤ s.f0 ∧ s.f0 ≤ 2097152
  right : (l.length : Int) ≤ 4096 → spRight true 0 0 c = true
  nil : c = [] ↔ l = []
  last : ∀ q, l.getLast? = some q → e = q + 1 ∧ -1048576 ≤ q ∧ q ≤ 1048576
  first : l = [] → e = 0
  len : c.length ≤ l.length
theorem spInv_step {l : List Int} {p : Int} (h : SpInv l (foldF l).1 (foldF l).2) (hp : lowB (-1048576) l ≤ p ∧ p ≤ 1048576) : SpInv (l ++ [p]) (foldF (l ++ [p])).1 (foldF (l ++ [p])).2 := by
  rw [foldF_snoc]
  generalize foldF l = g at h
  obtain ⟨c, e⟩ := g
  obtain ⟨hpl, hen, hcnt, hcan, hpos, hright, hnil, hlast, hfirst, hlen⟩ := h
  simp only at hpl hen hcnt hcan hpos hright hnil hlast hfirst hlen
  have hpb : -1048576 ≤ p := by
    cases hl : l.getLast? with
    | none => rw [lowB_none hl] at hp; exact hp.1
    | some q => rw [lowB_some hl] at hp; have := hlast q hl; have := hp.1; omega
  have heb : -1048576 ≤ e ∧ e ≤ 1048577 := by
    cases hl : l.getLast? with
    | none => have := hfirst (List.getLast?_eq_none_iff.1 hl); omega
    | some q => have := hlast q hl; omega
  have hlast' : ∀ q, (l ++ [p]).getLast? = some q → p + 1 = q + 1 ∧ -1048576 ≤ q ∧ q ≤ 1048576 := by
    intro q hq; simp at hq; subst hq; exact ⟨rfl, hpb, hp.2⟩
  unfold stepF
  simp only
  by_cases hc : c = [] ∨ p > e
  · rw [if_pos hc]
    have hemp : c ≠ [] → 0 < p - e := by intro hne; rcases hc with hc | hc; exact absurd hc hne; omega
    have hlo : -1048576 ≤ p - e := by
      by_cases hne : c = []
      · have := hfirst (hnil.1 hne); omega
      · have := hemp hne; omega
    refine ⟨?_, ?_, ?_, ?_, ?_, ?_, ?_, hlast', by simp, by simp; exact hlen⟩
    · rw [plN_snoc, hpl, hen]; simp [run]; omega
    · rw [enN_snoc, hen]; simp; omega
    · rw [cntN_snoc, hcnt]; simp
    · rw [canonB_snoc, hcan]
      simp only [Bool.true_and, decide_eq_true_eq]
      refine ⟨by simp, fun hf => ?_⟩
      have : c ≠ [] := by rintro rfl; simp at hf
      have := hemp this
      simp only; omega
    · intro s hs
      rcases List.mem_append.1 hs with hs | hs
      · have := hpos s hs; simp; omega
      · simp at hs; subst hs; simp; omega
    · intro hl
      have hl' : (l.length : Int) ≤ 4096 := by simp at hl; omega
      rw [spRight_snoc, hright hl', hen, hcnt]
      simp only [Bool.true_and, decide_eq_true_eq]
      refine ⟨by simp, by simp, by simp; omega, ?_, by simp; omega, by simp; omega, by simp; omega, by simp at hl ⊢; omega⟩
      by_cases hne : c = []
      · subst hne; simp; have := hfirst (hnil.1 rfl); omega
      · have := hemp hne
        rw [if_neg (by simp [hne])]
        simp only; omega
    · simp
  · rw [if_neg hc]
    have hne : c ≠ [] := fun h => hc (Or.inl h)
    obtain ⟨c', s, rfl⟩ : ∃ c' s, c = c' ++ [s] := ⟨c.dropLast, c.getLast hne, (List.dropLast_concat_getLast hne).symm⟩
    have hle : l ≠ [] := fun h => hne (hnil.2 h)
    obtain ⟨q, hq⟩ : ∃ q, l.getLast? = some q := by cases hl : l.getLast? with
      | none => exact absurd (List.getLast?_eq_none_iff.1 hl) hle
      | some q => exact ⟨q, rfl⟩
    have hpe : p = e := by
      rw [lowB_some hq] at hp
      have := hlast q hq
      have := hp.1
      have : ¬ p > e := fun h => hc (Or.inr h)
      omega
    subst hpe
    have hs1 := hpos s (by simp)
    rw [plN_snoc] at hpl
    rw [enN_snoc] at hen
    rw [cntN_snoc] at hcnt
    rw [canonB_snoc] at hcan
    simp only [Bool.and_eq_true, decide_eq_true_eq] at hcan
    simp only [List.dropLast_concat, List.getLast?_concat, Option.map_some, Option.toList_some]
    have het : (s.f1 + 1).toNat = s.f1.toNat + 1 := by omega
    refine ⟨?_, ?_, ?_, ?_, ?_, ?_, ?_, hlast', by simp, by simp at hlen ⊢; omega⟩
    · rw [plN_snoc]; simp only []; rw [het, run_snoc, ← List.append_assoc, hpl]
      congr 2; omega
    · rw [enN_snoc]; simp only; omega
    · rw [cntN_snoc]; simp only [List.length_append, List.length_cons, List.length_nil]; omega
    · rw [canonB_snoc, hcan.1]
      simp only [Bool.true_and, decide_eq_true_eq]
      exact ⟨by simp only; omega, hcan.2.2⟩
    · intro x hx
      rcases List.mem_append.1 hx with hx | hx
      · have := hpos x (by simp [hx]); simp; omega
      · simp at hx; subst hx; simp; omega
    · intro hl
      have hl' : (l.length : Int) ≤ 4096 := by simp at hl; omega
      have hr := hright hl'
      rw [spRight_snoc] at hr ⊢
      simp only [Bool.and_eq_true, decide_eq_true_eq] at hr ⊢
      obtain ⟨hr0, h1, h2, h3, h4, h5, h6, h7, h8⟩ := hr
      simp only [List.length_append, List.length_cons, List.length_nil] at hl
      exact ⟨hr0, by simp only; omega, by simp only; omega, h3, h4, h5, h6, by simp only; omega, by simp only; omega⟩
    · simp
theorem spInv_take (l : List Int) (hr : rises (-1048576) l = true) : SpInv l (spansOf l) (foldF l).2 := by
  have : ∀ i, i ≤ l.length → SpInv (l.take i) (foldF (l.take i)).1 (foldF (l.take i)).2 := by
    intro i
    induction i with
    | zero => intro _; simp only [List.take_zero]; exact ⟨rfl, rfl, rfl, rfl, by simp [foldF], fun _ => rfl, by simp [foldF], by simp, fun _ => rfl, by simp [foldF]⟩
    | succ i ih =>
      intro hi
      have hlt : i < l.length := by omega
      rw [take_at hlt]
      refine spInv_step (ih (by omega)) ?_
      by_cases hb : (lowB (-1048576) (l.take i) ≤ l[i] ∧ l[i] ≤ 1048576)
      · exact hb
      · rw [rises_take_false hlt hb] at hr; cases hr
  have := this l.length (Nat.le_refl _)
  rwa [List.take_length] at this
end Go.Proofs.Ytgkplhdcafbfbaa.P
namespace Go.Proofs.Ytgkplhdcafbfbaa.P
open Go.RowKit Go.Proofs.YtgkplhdcafbfbaaW.PrintWords Go.Proofs.YtgkplhdcafbfbaaW.PrintLast Go.Proofs.YtgkplhdcafbfbaaW.PrintMore
def fromRes (l : List Int) : List Sp × Int := if rises (-1048576) l = true then (if (l.length : Int) > 4096 then ([], 12) else if ((spansOf l).length : Int) > 1024 then ([], 12) else (spansOf l, 0)) else ([], 11)
theorem rdSp_last (c : List Sp) (s : Sp) (h : c.length < 4611686018427387904) : wrap64 (((c ++ [s]).length : Int) - 1) = (c.length : Int) ∧ rd_T87 (c ++ [s]) (c.length : Int) = s := by
  refine ⟨by simp only [List.length_append, List.length_cons, List.length_nil]; rw [wrap_id (by omega) (by omega)]; omega, ?_⟩
  rw [rdSp_at (by simp)]; simp
theorem from_loop (l : List Int) (hw : ∀ x ∈ l, i64 x) (hm : l.length < 4398046511104) : ∀ (d k i : Nat), l.length - i = d → 2 * d < k → i ≤ l.length → rises (-1048576) (l.take i) = true →
    span_From.l0 k l (foldF (l.take i)).1 (foldF (l.take i)).2 l (l.length : Int) (i : Int) = some (fromRes l) := by
  intro d
  induction d with
  | zero =>
    intro k i hd hk hi hr
    obtain ⟨k, rfl⟩ : ∃ m, k = m + 1 := ⟨k - 1, by omega⟩
    have hil : i = l.length := by omega
    subst hil
    rw [List.take_length] at hr ⊢
    simp only [span_From.l0]
    rw [if_neg (by omega)]
    unfold fromRes
    rw [if_pos hr]
    show _ = some (if (l.length : Int) > 4096 then ([], 12) else if (((foldF l).1).length : Int) > 1024 then ([], 12) else ((foldF l).1, 0))
    split
    · rfl
    · split <;> rfl
  | succ d ih =>
    intro k i hd hk hi hr
    obtain ⟨k, rfl⟩ : ∃ m, k = m + 2 := ⟨k - 2, by omega⟩
    have hlt : i < l.length := by omega
    have hp := hw _ (List.getElem_mem hlt)
    have hinv : SpInv (l.take i) (foldF (l.take i)).1 (foldF (l.take i)).2 := spInv_take _ hr
    have hfail : ¬ (lowB (-1048576) (l.take i) ≤ l[i] ∧ l[i] ≤ 1048576) → some (([] : List Sp), (11 : Int)) = some (fromRes l) := by
      intro hb
      unfold fromRes
      rw [rises_take_false hlt hb]; rfl
    have hgo : (lowB (-1048576) (l.take i) ≤ l[i] ∧ l[i] ≤ 1048576) → span_From.l0 k l (foldF (l.take (i + 1))).1 (foldF (l.take (i + 1))).2 l (l.length : Int) ((i + 1 : Nat) : Int) = some (fromRes l) := by
      intro hb
      refine ih k (i + 1) (by omega) (by omega) (by omega) ?_
      rw [take_at hlt, rises_snoc, hr, decide_eq_true hb]; rfl
    have hsnoc : foldF (l.take (i + 1)) = stepF (foldF (l.take i)) l[i] := by rw [take_at hlt, foldF_snoc]
    rw [hsnoc] at hgo
    clear hsnoc
    have hlen : (l.take i).length = i := by simp; omega
    have hi0 : (l.take i).getLast? = none ↔ i = 0 := by rw [List.getLast?_eq_none_iff]; constructor
                                                        · intro h; rw [h] at hlen; simpa using hlen.symm
                                                        · intro h; subst h; rfl
    simp only [span_From.l0]
    rw [if_pos (by omega), if_pos (by omega), if_pos (by omega), rd_at hlt, in_eq]
    simp only [Option.bind_some]
    generalize l[i] = p at hp hfail hgo
    generalize foldF (l.take i) = g at hinv hgo
    obtain ⟨c, e⟩ := g
    obtain ⟨hpl, hen, hcnt, hcan, hpos, hright, hnil, hlast, hfirst, hcl⟩ := hinv
    simp only at hpl hen hcnt hcan hpos hright hnil hlast hfirst hgo hcl ⊢
    rw [hlen] at hcl
    have hbad : ∀ b, b = true → ¬ (lowB (-1048576) (l.take i) ≤ p ∧ p ≤ 1048576) → span_From.j1 (k + 1) l c e (i : Int) p l (l.length : Int) (i : Int) b = some (fromRes l) := by
      intro b hb h; subst hb
      simp only [span_From.j1]; simp only [if_true]; exact hfail h
    by_cases c1 : -1048576 ≤ p ∧ p ≤ 1048576
    rotate_left
    · rw [decide_eq_false c1, if_neg (by decide)]
      refine hbad true rfl (fun h => c1 ?_)
      cases hl : (l.take i).getLast? with
      | none => rw [lowB_none hl] at h; exact h
      | some q => have := hlast q hl; rw [lowB_some hl] at h; omega
    rw [decide_eq_true c1, if_pos rfl]
    -- the bound that counts
    have hbnd : (¬ (i > 0 ∧ p < e)) → (lowB (-1048576) (l.take i) ≤ p ∧ p ≤ 1048576) := by
      intro h
      cases hl : (l.take i).getLast? with
      | none => rw [lowB_none hl]; exact c1
      | some q =>
        have := hlast q hl
        have : i ≠ 0 := fun h0 => by rw [hi0.2 h0] at hl; cases hl
        rw [lowB_some hl]; omega
    have hne : (i > 0 ∧ p < e) → ¬ (lowB (-1048576) (l.take i) ≤ p ∧ p ≤ 1048576) := by
      rintro ⟨h0, h1⟩ h
      cases hl : (l.take i).getLast? with
      | none => exact absurd (hi0.1 hl) (by omega)
      | some q => have := hlast q hl; rw [lowB_some hl] at h; have := h.1; omega
    have hcn : c = [] ↔ i = 0 := hnil.trans (List.getLast?_eq_none_iff.symm.trans hi0)
    have heb : -1048576 ≤ e ∧ e ≤ 1048577 := by
      cases hl : (l.take i).getLast? with
      | none => have := hfirst (List.getLast?_eq_none_iff.1 hl); omega
      | some q => have := hlast q hl; omega
    have hgood : ¬ (i > 0 ∧ p < e) → span_From.j1 (k + 1) l c e (i : Int) p l (l.length : Int) (i : Int) false = some (fromRes l) := by
      intro hn
      have hgo := hgo (hbnd hn)
      unfold stepF at hgo
      simp only at hgo
      have happ : (some (c ++ [(⟨wrap64 (p - e), 0⟩ : Sp)] : List Sp)).bind (fun y => (if 0 ≤ (wrap64 ((y.length : Int) - 1)) then (if (wrap64 ((y.length : Int) - 1)) < (y.length : Int) then (span_From.l0 k l (y.set ((wrap64 ((y.length : Int) - 1)) : Int).toNat (⟨(rd_T87 y (wrap64 ((y.length : Int) - 1))).f0, wrap64 (((rd_T87 y (wrap64 ((y.length : Int) - 1))).f1) + 1)⟩ : Sp)) (wrap64 (p + 1)) l (l.length : Int) (wrap64 ((i : Int) + 1))) else (none)) else (none))) = span_From.l0 k l (c ++ [⟨p - e, 1⟩]) (p + 1) l (l.length : Int) ((i + 1 : Nat) : Int) := by
        simp only [Option.bind_some]
        obtain ⟨e1, e2⟩ := rdSp_last c ⟨wrap64 (p - e), 0⟩ (by omega)
        rw [e1, e2, if_pos (by omega), if_pos (by simp only [List.length_append, List.length_cons, List.length_nil]; omega)]
        simp only []
        rw [wrap_id (x := p - e) (by omega) (by omega), wrap_id (x := 0 + 1) (by omega) (by omega), wrap_id (x := p + 1) (by omega) (by omega), wrap_succ (by omega)]
        congr 1
        simp
      simp only [span_From.j1]
      rw [if_neg (by decide)]
      by_cases h0 : i = 0
      · rw [if_pos (by omega), if_pos (by omega), happ]
        rw [if_pos (Or.inl (hcn.2 h0))] at hgo
        exact hgo
      · rw [if_neg (by omega)]
        by_cases h1 : p > e
        · rw [if_pos h1, if_pos (by omega), happ]
          rw [if_pos (Or.inr h1)] at hgo
          exact hgo
        · rw [if_neg h1]
          rw [if_neg (by rintro (h | h); exact h0 (hcn.1 h); exact h1 h)] at hgo
          have hne : c ≠ [] := fun h => h0 (hcn.1 h)
          obtain ⟨c', s, rfl⟩ : ∃ c' s, c = c' ++ [s] := ⟨c.dropLast, c.getLast hne, (List.dropLast_concat_getLast hne).symm⟩
          have hs1 := hpos s (by simp)
          rw [hlen] at hs1
          simp only [List.length_append, List.length_cons, List.length_nil] at hcl
          obtain ⟨e1, e2⟩ := rdSp_last c' s (by omega)
          rw [e1, e2, if_pos (by omega), if_pos (by simp only [List.length_append, List.length_cons, List.length_nil]; omega)]
          simp only [List.dropLast_concat, List.getLast?_concat, Option.map_some, Option.toList_some] at hgo
          rw [wrap_id (x := s.f1 + 1) (by omega) (by omega), wrap_id (x := p + 1) (by omega) (by omega), wrap_succ (by omega), ← hgo]
          congr 1
          simp
    by_cases c2 : (i : Int) > 0
    · rw [if_pos c2]
      by_cases c3 : p < e
      · exact hbad _ (decide_eq_true c3) (hne ⟨by omega, c3⟩)
      · rw [decide_eq_false c3]; exact hgood (fun h => c3 h.2)
    · rw [if_neg c2]; exact hgood (fun h => c2 (by omega))
theorem from_eq (l : List Int) (hw : ∀ x ∈ l, i64 x) (hm : l.length < 4398046511104) (k : Nat) (hk : 2 * l.length < k) : span_From.f k l = some (fromRes l) := by
  unfold span_From.f
  exact from_loop l hw hm l.length k 0 (by omega) hk (by omega) rfl
def placesRes (l : List Sp) : List Int × Int := if spCheck l = 0 then (plN 0 l, 0) else ([], spCheck l)
theorem spCheck_zero {l : List Sp} (h : spCheck l = 0) : l.length ≤ 1024 ∧ spRight true 0 0 l = true := by
  unfold spCheck at h
  split at h
  · cases h
  · split at h
    · exact ⟨by omega, by assumption⟩
    · cases h
theorem places_len {l : List Sp} (h : spCheck l = 0) : (plN 0 l).length ≤ 4096 := by
  have hr := (spCheck_zero h).2
  have h1 := plN_length l 0 (fun s hs => (spRight_pos l _ _ _ hr s hs).1)
  have h2 := cntN_le l _ _ _ hr (by omega)
  omega
theorem places_eq (l : List Sp) (hw : wfSps l) (k : Nat) (hk : 2048 < k) : span_Places.f k l = some (placesRes l) := by
  unfold span_Places.f placesRes
  rw [check_eq l hw k hk]
  simp only [Option.bind_some]
  by_cases h : spCheck l = 0
  · have h0 := spCheck_zero h
    rw [if_pos h, if_pos h, placesAt_plN l _ _ _ h0.2, if_pos ⟨by omega, by have := places_len h; omega⟩]
  · rw [if_neg h, if_neg h]
theorem rises_of_right {l : List Sp} (h : spCheck l = 0) : rises (-1048576) (plN 0 l) = true := by
  have hr := (spCheck_zero h).2
  have hrun : ∀ (m : Nat) (b e : Int), e ≤ b → (m = 0 ∨ b + m - 1 ≤ 1048576) → ∀ r, rises (b + m) r = true ∨ (m = 0 ∧ rises e r = true) → rises e (run b m ++ r) = true := by
    intro m
    induction m with
    | zero =>
      intro b e h1 h2 r h3
      rcases h3 with h3 | h3
      · simp only [run, List.nil_append]
        have hmono : ∀ (r : List Int) (e e' : Int), e ≤ e' → rises e' r = true → rises e r = true := by
          intro r
          cases r with
          | nil => intros; rfl
          | cons x r => intro e e' he h; simp only [rises, Bool.and_eq_true, decide_eq_true_eq] at h ⊢; exact ⟨⟨by omega, h.1.2⟩, h.2⟩
        exact hmono r e _ (by omega) h3
      · exact h3.2
    | succ m ih =>
      intro b e h1 h2 r h3
      simp only [run, List.cons_append, rises, Bool.and_eq_true, decide_eq_true_eq]
      refine ⟨⟨h1, by omega⟩, ih (b + 1) (b + 1) (Int.le_refl _) (by omega) r (Or.inl ?_)⟩
      rcases h3 with h3 | h3
      · rw [show b + 1 + (m : Int) = b + ((m + 1 : Nat) : Int) by omega]; exact h3
      · omega
  have : ∀ (l : List Sp) (f : Bool) (a n e : Int), spRight f a n l = true → (if f = true then a = 0 ∧ e = -1048576 else e ≤ a) → rises e (plN a l) = true := by
    intro l
    induction l with
    | nil => intros; rfl
    | cons s l ih =>
      intro f a n e h he
      simp only [spRight, Bool.and_eq_true, decide_eq_true_eq] at h
      obtain ⟨h1, h2, h3, h4, h5, h6, h7, h8⟩ := h.1
      have ee : ((s.f1.toNat : Nat) : Int) = s.f1 := by omega
      have hle : e ≤ a + s.f0 := by cases f <;> simp at he h4 <;> omega
      simp only [plN]
      refine hrun s.f1.toNat (a + s.f0) e hle (by omega) _ ?_
      rw [ee]
      exact Or.inl (ih false _ _ _ h.2 (by simp))
  exact this l true 0 0 _ hr (by simp)
theorem rises_i64 {l : List Int} (h : rises (-1048576) l = true) : ∀ x ∈ l, -1048576 ≤ x ∧ x ≤ 1048576 := by
  have : ∀ (l : List Int) (e : Int), -1048576 ≤ e → rises e l = true → ∀ x ∈ l, -1048576 ≤ x ∧ x ≤ 1048576 := by
    intro l
    induction l with
    | nil => intro e _ _ x hx; cases hx
    | cons y l ih =>
      intro e he h x hx
      simp only [rises, Bool.and_eq_true, decide_eq_true_eq] at h
      rcases List.mem_cons.1 hx with rfl | hx
      · omega
      · exact ih (y + 1) (by omega) h.2 x hx
  exact this l _ (Int.le_refl _) h
end Go.Proofs.Ytgkplhdcafbfbaa.P
namespace Go.Proofs.Ytgkplhdcafbfbaa.P
open Go.RowKit Go.Proofs.YtgkplhdcafbfbaaW.PrintWords Go.Proofs.YtgkplhdcafbfbaaW.PrintLast Go.Proofs.YtgkplhdcafbfbaaW.PrintMore
attribute [local go_sem] max2_int min2_int max_two min_two max_three min_three max_four min_four
def pairs_add.f (a0 : Int) (a1 : Int) : Option (Int × Bool) := some (wrap64 (a0 + a1), ((decide ((wrap64 (a0 + a1)) > a0)) == (decide (a1 > 0))))
set_option maxHeartbeats 8000000 in
set_option maxRecDepth 100000 in
theorem pairs_add.calls (a0 : Int) (a1 : Int) (r1 : Int) (r2 : Bool) (w : World) (h : pairs_add.f a0 a1 = some (r1, r2)) :
  Calls Try.prog 131 #[.int .i64 a0, .int .i64 a1] w fun e w' => e = .returned (.tuple #[.int .i64 r1, .bool r2]) ∧ Drawn0 w w' := by
 have H : (some (wrap64 (a0 + a1), ((decide ((wrap64 (a0 + a1)) > a0)) == (decide (a1 > 0))))) = some (r1, r2) := h
 clear h
 simp only [Option.some.injEq, Prod.mk.injEq] at H
 obtain ⟨rfl, rfl⟩ := H
 go_enter Try.func131, Try.ntmps131
 go_wp2
 go_ret2
 exact ⟨by first | rfl | (simp; done) | (simp [*]; done), by repeat (first | exact Drawn0.refl _ | apply Drawn0.step)⟩
def pairs_Absolute.l0 : Nat → List Int → Int → List Int → Int → Int → Option (List Int × Int)
 | 0, _, _, _, _, _ => none
 | k + 1, x4, x5, x9, x10, x11 => if x11 < x10 then (if 0 ≤ x11 then (if x11 < (x9.length : Int) then ((pairs_add.f x5 (rd x9 x11)).bind fun bt102 => (if bt102.2 = true then (if x4.length < 17592186044416 then (pairs_Absolute.l0 k (x4 ++ [bt102.1]) bt102.1 x9 x10 (wrap64 (x11 + 1))) else (none)) else (some (([] : List Int), 28)))) else (none)) else (none)) else (some (x4, 0))
def pairs_Absolute.f (k : Nat) (l0 : List Int) : Option (List Int × Int) := pairs_Absolute.l0 k ([] : List Int) 0 l0 (l0.length : Int) 0
set_option maxHeartbeats 8000000 in
set_option maxRecDepth 100000 in
theorem pairs_Absolute.calls (k : Nat) (A0 : Option Addr) (c0 : Nat) (l0 : List Int) (r1 : List Int) (r2 : Int) (w : World) (hr0 : Kd.C (Kd.int .i64) w A0 l0.length l0) (hc0 : l0.length ≤ c0) (h : pairs_Absolute.f k l0 = some (r1, r2)) :
  Calls Try.prog 113 #[.slice A0 l0.length c0] w fun e w' => ∃ v0_ : Value, e = .returned (.tuple #[v0_, .int .i64 r2]) ∧ Kd.R (Kd.int .i64) 2 w' w.heap.size (fun _ => True) v0_ r1 ∧ Below w.heap.size w w' := by
 have HR0 := Aside0.mk hr0
 have HC0 := Aside0.mk hc0
 clear hr0 hc0
 have HB := Aside0.mk (Below.refl w.heap.size w)
 have H : (pairs_Absolute.l0 k ([] : List Int) 0 l0 (l0.length : Int) 0) = some (r1, r2) := h
 clear h
 have H' := Aside0.mk H
 clear H
 go_enter Try.func113, Try.ntmps113
 go_wp2
 go_loopg [4, 5, 11] k (fun kq v4 v5 v11 w' => ∃ (x4_1 : List Int) (x5_1 : Int) (x11_1 : Int), v5 = .int .i64 x5_1 ∧ v11 = .int .i64 x11_1 ∧ Aside0 (pairs_Absolute.l0 kq x4_1 x5_1 l0 (l0.length : Int) x11_1 = some (r1, r2)) ∧ Aside0 (kq ≤ k) ∧ Aside0 (Kd.R (Kd.int .i64) 2 w' w.heap.size (fun _ => True) v4 x4_1) ∧ Aside0 (Below w.heap.size w w'))
 case atStart => exact ⟨(([] : List Int)), (0), (0), (by first | rfl | (simp; done) | (simp [*]; done)), (by first | rfl | (simp; done) | (simp [*]; done)), H', ⟨Nat.le_refl _⟩, ⟨by first | exact Kd.R_nil _ _ _ _ _ | exact Kd.N_nil _ _ _ _ _ | exact Kd.V_nil _ _ _ _ _ | exact Kd.Q_nil _ _ _ _ _ | exact Kd.S_nil _ _ _ _ _⟩, ⟨by repeat (first | (with_reducible first | exact HB.out | apply below_alloc | apply pw_below_drewN | apply below_drew1) | exact HB.out)⟩⟩
 case round =>
  clear H'
  try clear c1
  obtain ⟨x4_1, x5_1, x11_1, rfl, rfl, HA, HK1, HO_4, HB⟩ := hrel
  cases gk with
  | zero => exact absurd HA.out (by simp [pairs_Absolute.l0])
  | succ k1 =>
   have H := HA.out
   clear HA
   simp only [pairs_Absolute.l0] at H
   by_cases c2 : x11_1 < (l0.length : Int)
   ·rw [if_pos c2] at H
    have c2b0 : decide (x11_1 < (l0.length : Int)) = true := decide_eq_true c2
    clear c2
    by_cases c3 : 0 ≤ x11_1
    ·rw [if_pos c3] at H
     have c3b0 : decide (0 ≤ x11_1) = true := decide_eq_true c3
     clear c3
     by_cases c4 : x11_1 < (l0.length : Int)
     ·rw [if_pos c4] at H
      have c4b0 : decide (x11_1 < (l0.length : Int)) = true := decide_eq_true c4
      clear c4
      replace H := Option.bind_eq_some_iff.mp H
      obtain ⟨⟨t102, t103⟩, A50, H⟩ := H
      replace H : (if t103 = true then (if x4_1.length < 17592186044416 then (pairs_Absolute.l0 k1 (x4_1 ++ [t102]) t102 l0 (l0.length : Int) (wrap64 (x11_1 + 1))) else (none)) else (some (([] : List Int), 28))) = some (r1, r2) := H
      have A5 := Aside0.mk A50
      clear A50
      by_cases c6 : t103 = true
      ·subst c6
       have H1 : (if x4_1.length < 17592186044416 then (pairs_Absolute.l0 k1 (x4_1 ++ [t102]) t102 l0 (l0.length : Int) (wrap64 (x11_1 + 1))) else (none)) = some (r1, r2) := by rw [if_pos rfl] at H; exact H
       clear H
       have H := H1
       clear H1
       by_cases c7 : x4_1.length < 17592186044416
       ·rw [if_pos c7] at H
        have LMc7 := Aside0.mk c7
        clear c7
        obtain ⟨y104, hy104⟩ : ∃ y_ : List Int, y_ = (x4_1 ++ [t102]) := ⟨_, rfl⟩
        replace H : (pairs_Absolute.l0 k1 y104 t102 l0 (l0.length : Int) (wrap64 (x11_1 + 1))) = some (r1, r2) := by first | (rw [hy104]; with_reducible exact H) | (have H2_ := (Option.bind_some _ _).symm.trans H; rw [hy104]; with_reducible exact H2_) | (have H2_ := (Option.bind_some _ _).symm.trans H; with_reducible exact H2_) | with_reducible exact H | (rw [hy104]; exact H) | exact H
        have Ny104 := Aside0.mk hy104
        clear hy104
        have H' := Aside0.mk H
        clear H
        have p101 : 0 ≤ (x11_1 : Int) := of_decide_eq_true (by first | (with_reducible assumption) | assumption)
        have q101 : x11_1 < (l0.length : Int) := of_decide_eq_true (by first | (with_reducible assumption) | assumption)
        obtain ⟨ad101, e101, hx101_0⟩ := Kd.at_int HR0.out x11_1 p101 q101
        cases e101
        replace hx101_0 := (HB.out.cell (World.block_lt_of_cell? w _ hx101_0)).trans hx101_0
        replace p101 := eq_true p101
        replace q101 := eq_true q101
        go_wp2_with (first | ((with_reducible refine gate_callee (f := 131) rfl ?_); refine goesL_ (some 18) rfl rfl Try.func131 (by kernel_rfl) rfl #[.int .i64 x5_1, .int .i64 (rd l0 x11_1)] rfl (by (try simp only [List.map_toArray, List.map_cons, List.map_nil]); first | done | rfl | (simp only [List.length_drop, List.length_take]; rfl)) ?_; (with_reducible refine (pairs_add.calls x5_1 (rd l0 x11_1) t102 true _ A5.out).mono ?_); rintro e w' ⟨rfl, ⟨nd, rfl⟩⟩; refine ⟨_, rfl, ?_⟩; clear A5) | ((with_reducible refine gate_builtin (b := .append) (xs := #[.tmp 23, .tmp 25]) rfl ?_); at_builtin; refine Kd.R_append (Kd.int .i64) (w0 := w) w.heap.size rfl (.tmp 23) (.tmp 25) 28 2 (.int .i64 0) 8 rfl Try.underlying28 info2 rfl (by decide) (by omega) u4 x4_1 t102 [.int .i64 t102] (fun _ => True) (fun _ => False) rfl rfl ?aP (fun _ hk => hk.elim) ?aF ?aO ?aB ?aS ?aL ?_; (case aP => exact rfl); (case aB => exact (by repeat (first | (with_reducible first | exact HB.out | apply below_alloc | apply pw_below_drewN | apply below_drew1) | exact HB.out))); (case aF => exact (fun _ _ => trivial)); (case aO => exact (by (with_reducible repeat (first | apply Kd.R_alloc | apply Kd.R_drewN | apply Kd.R_drew)); exact HO_4.out)); (case aS => exact (below_size (by repeat (first | (with_reducible first | exact HB.out | apply below_alloc | apply pw_below_drewN | apply below_drew1) | exact HB.out)))); (case aL => have := LMc7.out; omega); intro v105 w8 ho hb hg hat; rw [← Ny104.out] at ho; have n0_ := Aside0.mk (hb); have n1_ := Aside0.mk (ho); clear HB; clear HO_4; have HB := n0_; have HO106 := n1_; clear n0_ n1_; clear ho hb hg hat))
        go_roundg k1
        case measure => have := HK1.out; omega
        case rel => exact ⟨(y104), (t102), (wrap64 (x11_1 + 1)), (by first | rfl | (simp; done) | (simp [*]; done)), (by first | rfl | (simp; done) | (simp [*]; done)), H', ⟨by have := HK1.out; omega⟩, ⟨by (with_reducible repeat (first | apply Kd.R_alloc | apply Kd.R_drewN | apply Kd.R_drew)); exact HO106.out⟩, ⟨by repeat (first | (with_reducible first | exact HB.out | apply below_alloc | apply pw_below_drewN | apply below_drew1) | exact HB.out)⟩⟩
       ·rw [if_neg c7] at H
        exact absurd H (by simp)
      ·replace c6 := Bool.eq_false_iff.mpr c6
       subst c6
       have H1 : (some (([] : List Int), 28)) = some (r1, r2) := by rw [if_neg (show ¬ (false = true) by decide)] at H; exact H
       clear H
       have H := H1
       clear H1
       simp only [Option.some.injEq, Prod.mk.injEq] at H
       obtain ⟨rfl, rfl⟩ := H
       have p101 : 0 ≤ (x11_1 : Int) := of_decide_eq_true (by first | (with_reducible assumption) | assumption)
       have q101 : x11_1 < (l0.length : Int) := of_decide_eq_true (by first | (with_reducible assumption) | assumption)
       obtain ⟨ad101, e101, hx101_0⟩ := Kd.at_int HR0.out x11_1 p101 q101
       cases e101
       replace hx101_0 := (HB.out.cell (World.block_lt_of_cell? w _ hx101_0)).trans hx101_0
       replace p101 := eq_true p101
       replace q101 := eq_true q101
       go_wp2_with (first | ((with_reducible refine gate_callee (f := 131) rfl ?_); refine goesL_ (some 18) rfl rfl Try.func131 (by kernel_rfl) rfl #[.int .i64 x5_1, .int .i64 (rd l0 x11_1)] rfl (by (try simp only [List.map_toArray, List.map_cons, List.map_nil]); first | done | rfl | (simp only [List.length_drop, List.length_take]; rfl)) ?_; (with_reducible refine (pairs_add.calls x5_1 (rd l0 x11_1) t102 false _ A5.out).mono ?_); rintro e w' ⟨rfl, ⟨nd, rfl⟩⟩; refine ⟨_, rfl, ?_⟩; clear A5))
       go_ret2
       exact ⟨_, by first | rfl | (simp [errW_none, errW_some] <;> rfl) | (simp [*, errW_none, errW_some] <;> rfl), by first | exact Kd.R_nil _ _ _ _ _ | exact Kd.N_nil _ _ _ _ _ | exact Kd.V_nil _ _ _ _ _ | exact Kd.Q_nil _ _ _ _ _ | exact Kd.S_nil _ _ _ _ _, by repeat (first | (with_reducible first | exact HB.out | apply below_alloc | apply pw_below_drewN | apply below_drew1) | exact HB.out)⟩
     ·rw [if_neg c4] at H
      exact absurd H (by simp)
    ·rw [if_neg c3] at H
     exact absurd H (by simp)
   ·rw [if_neg c2] at H
    have c2b0 : decide (x11_1 < (l0.length : Int)) = false := decide_eq_false c2
    clear c2
    simp only [Option.some.injEq, Prod.mk.injEq] at H
    obtain ⟨rfl, rfl⟩ := H
    go_wp2
    go_ret2
    exact ⟨_, by first | rfl | (simp [errW_none, errW_some] <;> rfl) | (simp [*, errW_none, errW_some] <;> rfl), by (with_reducible repeat (first | apply Kd.R_alloc | apply Kd.R_drewN | apply Kd.R_drew)); exact HO_4.out, by repeat (first | (with_reducible first | exact HB.out | apply below_alloc | apply pw_below_drewN | apply below_drew1) | exact HB.out)⟩
def pairs_Zip_int64.l0 : Nat → List Int → List (S62) → List Int → Int → Int → Option ((List (S62)) × Int)
 | 0, _, _, _, _, _ => none
 | k + 1, x1, x8, x26, x27, x28 => if x28 < x27 then (if 0 ≤ x28 then (if x28 < (x26.length : Int) then (if x28 < (x1.length : Int) then (if x8.length < 8796093022208 then (pairs_Zip_int64.l0 k x1 (x8 ++ [(⟨rd x26 x28, rd x1 x28⟩ : S62)]) x26 x27 (wrap64 (x28 + 1))) else (none)) else (none)) else (none)) else (none)) else (some (x8, 0))
def pairs_Zip_int64.f (k : Nat) (l0 : List (S87)) (l1 : List Int) : Option ((List (S62)) × Int) := (span_Places.f k l0).bind fun bt101 => (if bt101.2 = 0 then (if (bt101.1.length : Int) = (l1.length : Int) then (pairs_Zip_int64.l0 k l1 ([] : List (S62)) bt101.1 (bt101.1.length : Int) 0) else (some (([] : List (S62)), 10))) else (some (([] : List (S62)), bt101.2)))
set_option maxHeartbeats 8000000 in
set_option maxRecDepth 100000 in
theorem pairs_Zip_int64.calls (k : Nat) (A0 : Option Addr) (c0 : Nat) (l0 : List (S87)) (A1 : Option Addr) (c1 : Nat) (l1 : List Int) (r1 : List (S62)) (r2 : Int) (w : World) (hr0 : Kd.C k87 w A0 l0.length l0) (hc0 : l0.length ≤ c0) (hr1 : Kd.C (Kd.int .i64) w A1 l1.length l1) (hc1 : l1.length ≤ c1) (h : pairs_Zip_int64.f k l0 l1 = some (r1, r2)) :
  Calls Try.prog 122 #[.slice A0 l0.length c0, .slice A1 l1.length c1] w fun e w' => ∃ v0_ : Value, e = .returned (.tuple #[v0_, .int .i64 r2]) ∧ Kd.R k62 62 w' w.heap.size (fun _ => True) v0_ r1 ∧ Below w.heap.size w w' := by
 have hu62 := Try.underlying62
 have HR0 := Aside0.mk hr0
 have HC0 := Aside0.mk hc0
 clear hr0 hc0
 have HR1 := Aside0.mk hr1
 have HC1 := Aside0.mk hc1
 clear hr1 hc1
 have HB := Aside0.mk (Below.refl w.heap.size w)
 have H : ((span_Places.f k l0).bind fun bt101 => (if bt101.2 = 0 then (if (bt101.1.length : Int) = (l1.length : Int) then (pairs_Zip_int64.l0 k l1 ([] : List (S62)) bt101.1 (bt101.1.length : Int) 0) else (some (([] : List (S62)), 10))) else (some (([] : List (S62)), bt101.2)))) = some (r1, r2) := h
 clear h
 replace H := Option.bind_eq_some_iff.mp H
 obtain ⟨⟨t101, t102⟩, A30, H⟩ := H
 replace H : (if t102 = 0 then (if (t101.length : Int) = (l1.length : Int) then (pairs_Zip_int64.l0 k l1 ([] : List (S62)) t101 (t101.length : Int) 0) else (some (([] : List (S62)), 10))) else (some (([] : List (S62)), t102))) = some (r1, r2) := H
 have A3 := Aside0.mk A30
 clear A30
 by_cases c4 : t102 = 0
 ·rw [if_pos c4] at H
  have c4b0 : (t102 == 0) = true := beq_iff_eq.mpr c4
  have c4b1 : (t102 != 0) = false := bne_eq_false_iff_eq.mpr c4
  clear c4
  by_cases c5 : (t101.length : Int) = (l1.length : Int)
  ·rw [if_pos c5] at H
   have c5b0 : ((t101.length : Int) == (l1.length : Int)) = true := beq_iff_eq.mpr c5
   have c5b1 : ((t101.length : Int) != (l1.length : Int)) = false := bne_eq_false_iff_eq.mpr c5
   have c5b2 : (t101.length == l1.length) = true := by first | simpa using c5 | (simp at c5 ⊢; omega)
   clear c5
   have H' := Aside0.mk H
   clear H
   go_enter Try.func122, Try.ntmps122
   go_wp2_with (first | ((with_reducible refine gate_callee (f := 135) rfl ?_); refine goesL_ (some 13) rfl rfl Try.func135 (by kernel_rfl) rfl #[.slice A0 l0.length c0] rfl (by (try simp only [List.map_toArray, List.map_cons, List.map_nil]); first | done | rfl | (simp only [List.length_drop, List.length_take]; rfl)) ?_; (with_reducible refine (span_Places.calls k _ _ l0 t101 t102 _ ?side1 ?side2 A3.out).mono ?_); (case side1 => repeat (first | exact HR0.out | (with_reducible refine Kd.C_alloc ?_ _) | (with_reducible refine Kd.C_drewN ?_ _) | (with_reducible refine Kd.C_drew ?_))); (case side2 => exact HC0.out); rintro e w6 ⟨v103, rfl, ho0, hb⟩; refine ⟨_, rfl, ?_⟩; have n0_ := Aside0.mk (Kd.R_lower ho0 (below_size (by repeat (first | (with_reducible first | exact HB.out | apply below_alloc | apply pw_below_drewN | apply below_drew1) | exact HB.out)))); have n1_ := Aside0.mk (below_step (by repeat (first | (with_reducible first | exact HB.out | apply below_alloc | apply pw_below_drewN | apply below_drew1) | exact HB.out)) hb); clear HB; have HO104 := n0_; have HB := n1_; clear n0_ n1_; (try clear hb); (try clear hb2); (try clear hk); (try clear hi); (try clear ho0); clear A3; obtain ⟨Ao7, co7, eo7⟩ := Kd.R_slice HO104.out; subst eo7))
   go_loopg [8, 28] k (fun kq v8 v28 w' => ∃ (x8_1 : List (S62)) (x28_1 : Int), v28 = .int .i64 x28_1 ∧ Aside0 (pairs_Zip_int64.l0 kq l1 x8_1 t101 (t101.length : Int) x28_1 = some (r1, r2)) ∧ Aside0 (kq ≤ k) ∧ Aside0 (Kd.R k62 62 w' w.heap.size (fun _ => True) v8 x8_1) ∧ Aside0 (Kd.R (Kd.int .i64) 3 w' w.heap.size (fun _ => True) (.slice Ao7 t101.length co7) t101) ∧ Aside0 (Below w.heap.size w w'))
   case atStart => exact ⟨(([] : List (S62))), (0), (by first | rfl | (simp; done) | (simp [*]; done)), H', ⟨Nat.le_refl _⟩, ⟨by first | exact Kd.R_nil _ _ _ _ _ | exact Kd.N_nil _ _ _ _ _ | exact Kd.V_nil _ _ _ _ _ | exact Kd.Q_nil _ _ _ _ _ | exact Kd.S_nil _ _ _ _ _⟩, ⟨by (with_reducible repeat (first | apply Kd.R_alloc | apply Kd.R_drewN | apply Kd.R_drew)); exact HO104.out⟩, ⟨by repeat (first | (with_reducible first | exact HB.out | apply below_alloc | apply pw_below_drewN | apply below_drew1) | exact HB.out)⟩⟩
   case round =>
    clear H'
    try clear c1
    try clear p2
    try clear c4
    try clear c4b0
    try clear c4b1
    try clear c5
    try clear c5b0
    try clear c5b1
    try clear c5b2
    obtain ⟨x8_1, x28_1, rfl, HA, HK1, HO_8, HO_26, HB⟩ := hrel
    cases gk with
    | zero => exact absurd HA.out (by simp [pairs_Zip_int64.l0])
    | succ k1 =>
     have H := HA.out
     clear HA
     simp only [pairs_Zip_int64.l0] at H
     by_cases c8 : x28_1 < (t101.length : Int)
     ·rw [if_pos c8] at H
      have c8b0 : decide (x28_1 < (t101.length : Int)) = true := decide_eq_true c8
      clear c8
      by_cases c9 : 0 ≤ x28_1
      ·rw [if_pos c9] at H
       have c9b0 : decide (0 ≤ x28_1) = true := decide_eq_true c9
       clear c9
       by_cases c10 : x28_1 < (t101.length : Int)
       ·rw [if_pos c10] at H
        have c10b0 : decide (x28_1 < (t101.length : Int)) = true := decide_eq_true c10
        clear c10
        by_cases c11 : x28_1 < (l1.length : Int)
        ·rw [if_pos c11] at H
         have c11b0 : decide (x28_1 < (l1.length : Int)) = true := decide_eq_true c11
         clear c11
         by_cases c12 : x8_1.length < 8796093022208
         ·rw [if_pos c12] at H
          have LMc12 := Aside0.mk c12
          clear c12
          obtain ⟨y107, hy107⟩ : ∃ y_ : List (S62), y_ = (x8_1 ++ [(⟨rd t101 x28_1, rd l1 x28_1⟩ : S62)]) := ⟨_, rfl⟩
          replace H : (pairs_Zip_int64.l0 k1 l1 y107 t101 (t101.length : Int) (wrap64 (x28_1 + 1))) = some (r1, r2) := by first | (rw [hy107]; with_reducible exact H) | (have H2_ := (Option.bind_some _ _).symm.trans H; rw [hy107]; with_reducible exact H2_) | (have H2_ := (Option.bind_some _ _).symm.trans H; with_reducible exact H2_) | with_reducible exact H | (rw [hy107]; exact H) | exact H
          have Ny107 := Aside0.mk hy107
          clear hy107
          have H' := Aside0.mk H
          clear H
          have p105 : 0 ≤ (x28_1 : Int) := of_decide_eq_true (by first | (with_reducible assumption) | assumption)
          have q105 : x28_1 < (t101.length : Int) := of_decide_eq_true (by first | (with_reducible assumption) | assumption)
          obtain ⟨ad105, e105, hx105_0⟩ := Kd.at_int (Kd.R_reads' HO_26.out).2.2 x28_1 p105 q105
          cases e105
          replace p105 := eq_true p105
          replace q105 := eq_true q105
          have p106 : 0 ≤ (x28_1 : Int) := of_decide_eq_true (by first | (with_reducible assumption) | assumption)
          have q106 : x28_1 < (l1.length : Int) := of_decide_eq_true (by first | (with_reducible assumption) | assumption)
          obtain ⟨ad106, e106, hx106_0⟩ := Kd.at_int HR1.out x28_1 p106 q106
          cases e106
          replace hx106_0 := (HB.out.cell (World.block_lt_of_cell? w _ hx106_0)).trans hx106_0
          replace p106 := eq_true p106
          replace q106 := eq_true q106
          go_wp2_with (first | ((with_reducible refine gate_builtin (b := .append) (xs := #[.tmp 33, .tmp 40]) rfl ?_); at_builtin; refine Kd.R_append k62 (w0 := w) w.heap.size rfl (.tmp 33) (.tmp 40) 58 62 (.agg #[(.int .i64 0), (.int .i64 0)]) 16 rfl Try.underlying58 info62 rfl (by decide) (by omega) u8 x8_1 (⟨rd t101 x28_1, rd l1 x28_1⟩ : S62) [.int .i64 (rd t101 x28_1), .int .i64 (rd l1 x28_1)] (fun _ => True) (fun _ => False) rfl rfl ?aP (fun _ hk => hk.elim) ?aF ?aO ?aB ?aS ?aL ?_; (case aP => exact k62_mkM _ _ _ (⟨rd t101 x28_1, rd l1 x28_1⟩ : S62)); (case aB => exact (by repeat (first | (with_reducible first | exact HB.out | apply below_alloc | apply pw_below_drewN | apply below_drew1) | exact HB.out))); (case aF => exact (fun _ _ => trivial)); (case aO => exact (by (with_reducible repeat (first | apply Kd.R_alloc | apply Kd.R_drewN | apply Kd.R_drew)); exact HO_8.out)); (case aS => exact (below_size (by repeat (first | (with_reducible first | exact HB.out | apply below_alloc | apply pw_below_drewN | apply below_drew1) | exact HB.out)))); (case aL => have := LMc12.out; omega); intro v108 w13 ho hb hg hat; rw [← Ny107.out] at ho; have n0_ := Aside0.mk (Kd.R_over' (by (with_reducible repeat (first | apply Kd.R_alloc | apply Kd.R_drewN | apply Kd.R_drew)); exact HO_26.out) (Kd.R_typed (by (with_reducible repeat (first | apply Kd.R_alloc | apply Kd.R_drewN | apply Kd.R_drew)); exact HO_8.out)) (by decide) hg); have n1_ := Aside0.mk (hb); have n2_ := Aside0.mk (ho); clear HO_26; clear HB; clear HO_8; have HO_26 := n0_; have HB := n1_; have HO109 := n2_; clear n0_ n1_ n2_; clear ho hb hg hat))
          go_roundg k1
          case measure => have := HK1.out; omega
          case rel => exact ⟨(y107), (wrap64 (x28_1 + 1)), (by first | rfl | (simp; done) | (simp [*]; done)), H', ⟨by have := HK1.out; omega⟩, ⟨by (with_reducible repeat (first | apply Kd.R_alloc | apply Kd.R_drewN | apply Kd.R_drew)); exact HO109.out⟩, ⟨by (with_reducible repeat (first | apply Kd.R_alloc | apply Kd.R_drewN | apply Kd.R_drew)); exact HO_26.out⟩, ⟨by repeat (first | (with_reducible first | exact HB.out | apply below_alloc | apply pw_below_drewN | apply below_drew1) | exact HB.out)⟩⟩
         ·rw [if_neg c12] at H
          exact absurd H (by simp)
        ·rw [if_neg c11] at H
         exact absurd H (by simp)
       ·rw [if_neg c10] at H
        exact absurd H (by simp)
      ·rw [if_neg c9] at H
       exact absurd H (by simp)
     ·rw [if_neg c8] at H
      have c8b0 : decide (x28_1 < (t101.length : Int)) = false := decide_eq_false c8
      clear c8
      simp only [Option.some.injEq, Prod.mk.injEq] at H
      obtain ⟨rfl, rfl⟩ := H
      go_wp2
      go_ret2
      exact ⟨_, by first | rfl | (simp [errW_none, errW_some] <;> rfl) | (simp [*, errW_none, errW_some] <;> rfl), by (with_reducible repeat (first | apply Kd.R_alloc | apply Kd.R_drewN | apply Kd.R_drew)); exact HO_8.out, by repeat (first | (with_reducible first | exact HB.out | apply below_alloc | apply pw_below_drewN | apply below_drew1) | exact HB.out)⟩
  ·rw [if_neg c5] at H
   have c5b0 : ((t101.length : Int) == (l1.length : Int)) = false := beq_eq_false_iff_ne.mpr c5
   have c5b1 : ((t101.length : Int) != (l1.length : Int)) = true := bne_iff_ne.mpr c5
   have c5b2 : (t101.length == l1.length) = false := by first | simpa using c5 | (simp at c5 ⊢; omega)
   simp only [Option.some.injEq, Prod.mk.injEq] at H
   obtain ⟨rfl, rfl⟩ := H
   go_enter Try.func122, Try.ntmps122
   go_wp2_with (first | ((with_reducible refine gate_callee (f := 135) rfl ?_); refine goesL_ (some 13) rfl rfl Try.func135 (by kernel_rfl) rfl #[.slice A0 l0.length c0] rfl (by (try simp only [List.map_toArray, List.map_cons, List.map_nil]); first | done | rfl | (simp only [List.length_drop, List.length_take]; rfl)) ?_; (with_reducible refine (span_Places.calls k _ _ l0 t101 t102 _ ?side1 ?side2 A3.out).mono ?_); (case side1 => repeat (first | exact HR0.out | (with_reducible refine Kd.C_alloc ?_ _) | (with_reducible refine Kd.C_drewN ?_ _) | (with_reducible refine Kd.C_drew ?_))); (case side2 => exact HC0.out); rintro e w14 ⟨v103, rfl, ho0, hb⟩; refine ⟨_, rfl, ?_⟩; have n0_ := Aside0.mk (Kd.R_lower ho0 (below_size (by repeat (first | (with_reducible first | exact HB.out | apply below_alloc | apply pw_below_drewN | apply below_drew1) | exact HB.out)))); have n1_ := Aside0.mk (below_step (by repeat (first | (with_reducible first | exact HB.out | apply below_alloc | apply pw_below_drewN | apply below_drew1) | exact HB.out)) hb); clear HB; have HO104 := n0_; have HB := n1_; clear n0_ n1_; (try clear hb); (try clear hb2); (try clear hk); (try clear hi); (try clear ho0); clear A3; obtain ⟨Ao15, co15, eo15⟩ := Kd.R_slice HO104.out; subst eo15))
   go_ret2
   exact ⟨_, by first | rfl | (simp [errW_none, errW_some] <;> rfl) | (simp [*, errW_none, errW_some] <;> rfl), by first | exact Kd.R_nil _ _ _ _ _ | exact Kd.N_nil _ _ _ _ _ | exact Kd.V_nil _ _ _ _ _ | exact Kd.Q_nil _ _ _ _ _ | exact Kd.S_nil _ _ _ _ _, by repeat (first | (with_reducible first | exact HB.out | apply below_alloc | apply pw_below_drewN | apply below_drew1) | exact HB.out)⟩
 ·rw [if_neg c4] at H
  have c4b0 : (t102 == 0) = false := beq_eq_false_iff_ne.mpr c4
  have c4b1 : (t102 != 0) = true := bne_iff_ne.mpr c4
  simp only [Option.some.injEq, Prod.mk.injEq] at H
  obtain ⟨rfl, rfl⟩ := H
  go_enter Try.func122, Try.ntmps122
  go_wp2_with (first | ((with_reducible refine gate_callee (f := 135) rfl ?_); refine goesL_ (some 13) rfl rfl Try.func135 (by kernel_rfl) rfl #[.slice A0 l0.length c0] rfl (by (try simp only [List.map_toArray, List.map_cons, List.map_nil]); first | done | rfl | (simp only [List.length_drop, List.length_take]; rfl)) ?_; (with_reducible refine (span_Places.calls k _ _ l0 t101 t102 _ ?side1 ?side2 A3.out).mono ?_); (case side1 => repeat (first | exact HR0.out | (with_reducible refine Kd.C_alloc ?_ _) | (with_reducible refine Kd.C_drewN ?_ _) | (with_reducible refine Kd.C_drew ?_))); (case side2 => exact HC0.out); rintro e w16 ⟨v103, rfl, ho0, hb⟩; refine ⟨_, rfl, ?_⟩; have n0_ := Aside0.mk (Kd.R_lower ho0 (below_size (by repeat (first | (with_reducible first | exact HB.out | apply below_alloc | apply pw_below_drewN | apply below_drew1) | exact HB.out)))); have n1_ := Aside0.mk (below_step (by repeat (first | (with_reducible first | exact HB.out | apply below_alloc | apply pw_below_drewN | apply below_drew1) | exact HB.out)) hb); clear HB; have HO104 := n0_; have HB := n1_; clear n0_ n1_; (try clear hb); (try clear hb2); (try clear hk); (try clear hi); (try clear ho0); clear A3))
  go_ret2
  exact ⟨_, by first | rfl | (simp [errW_none, errW_some] <;> rfl) | (simp [*, errW_none, errW_some] <;> rfl), by first | exact Kd.R_nil _ _ _ _ _ | exact Kd.N_nil _ _ _ _ _ | exact Kd.V_nil _ _ _ _ _ | exact Kd.Q_nil _ _ _ _ _ | exact Kd.S_nil _ _ _ _ _, by repeat (first | (with_reducible first | exact HB.out | apply below_alloc | apply pw_below_drewN | apply below_drew1) | exact HB.out)⟩
def pairs_Unzip_int64.l0 : Nat → List Int → List Int → List (S62) → Int → Int → Option ((List (S87)) × List Int × Int)
 | 0, _, _, _, _, _ => none
 | k + 1, x5, x6, x11, x12, x13 => if x13 < x12 then (if 0 ≤ x13 then (if x13 < (x11.length : Int) then ((some (([(rd_T62 x11 x13).f0] : List Int) : List Int)).bind fun y103 => (if x5.length + y103.length < 17592186044416 then ((some (([(rd_T62 x11 x13).f1] : List Int) : List Int)).bind fun y109 => (if x6.length + y109.length < 17592186044416 then (pairs_Unzip_int64.l0 k (x5 ++ y103) (x6 ++ y109) x11 x12 (wrap64 (x13 + 1))) else (none))) else (none))) else (none)) else (none)) else ((span_From.f k x5).bind fun bt115 => (if bt115.2 = 0 then (some (bt115.1, x6, 0)) else (some (([] : List (S87)), ([] : List Int), bt115.2))))
def pairs_Unzip_int64.f (k : Nat) (l0 : List (S62)) : Option ((List (S87)) × List Int × Int) := pairs_Unzip_int64.l0 k ([] : List Int) ([] : List Int) l0 (l0.length : Int) 0
def pairs_Unzip_int64.T6 : Bool × List (List Nat × List Nat) := (true, [([], []), ([], []), ([1], [1]), ([2], [2]), ([0, 3], [0, 3]), ([], []), ([], []), ([6], [6]), ([7], [7]), ([5, 8, 4], [5, 8]), ([4, 9, 0, 1, 2, 3, 4], [0, 4]), ([9, 10, 0, 1, 2, 3, 4, 5, 6, 7, 8, 9, 10], [5, 9])])
def pairs_Unzip_int64.B6 : List Nat := [0, 0, 2, 6, 15, 0, 0, 64, 192, 511, 1023, 2047]
theorem pairs_Unzip_int64.tab6 : rtab .any (opsOf Try.f114 6) = pairs_Unzip_int64.T6 := by kernel_rfl
theorem pairs_Unzip_int64.bits6 : waitsOk pairs_Unzip_int64.T6.2 pairs_Unzip_int64.B6 = true := by kernel_rfl
set_option maxHeartbeats 8000000 in
set_option maxRecDepth 100000 in
theorem pairs_Unzip_int64.calls (k : Nat) (A0 : Option Addr) (c0 : Nat) (l0 : List (S62)) (r1 : List (S87)) (r2 : List Int) (r3 : Int) (w : World) (hr0 : Kd.C k62 w A0 l0.length l0) (hc0 : l0.length ≤ c0) (h : pairs_Unzip_int64.f k l0 = some (r1, r2, r3)) :
  Calls Try.prog 114 #[.slice A0 l0.length c0] w fun e w' => ∃ v0_ v1_ : Value, e = .returned (.tuple #[v0_, v1_, .int .i64 r3]) ∧ Kd.R k87 87 w' w.heap.size (fun _ => True) v0_ r1 ∧ Kd.R (Kd.int .i64) 2 w' w.heap.size (fun _ => True) v1_ r2 ∧ Below w.heap.size w w' := by
 have hu62 := Try.underlying62
 have HR0 := Aside0.mk hr0
 have HC0 := Aside0.mk hc0
 clear hr0 hc0
 have HB := Aside0.mk (Below.refl w.heap.size w)
 have H : (pairs_Unzip_int64.l0 k ([] : List Int) ([] : List Int) l0 (l0.length : Int) 0) = some (r1, r2, r3) := h
 clear h
 have H' := Aside0.mk H
 clear H
 go_enter Try.func114, Try.ntmps114
 go_wp2
 go_loopg [5, 6, 13] k (fun kq v5 v6 v13 w' => ∃ (x5_1 : List Int) (x6_1 : List Int) (x13_1 : Int), v13 = .int .i64 x13_1 ∧ Aside0 (pairs_Unzip_int64.l0 kq x5_1 x6_1 l0 (l0.length : Int) x13_1 = some (r1, r2, r3)) ∧ Aside0 (kq ≤ k) ∧ Aside0 (Kd.R (Kd.int .i64) 3 w' w.heap.size (fun _ => True) v5 x5_1) ∧ Aside0 (Kd.R (Kd.int .i64) 2 w' w.heap.size (fun _ => True) v6 x6_1) ∧ Aside0 (Below w.heap.size w w'))
 case atStart => exact ⟨(([] : List Int)), (([] : List Int)), (0), (by first | rfl | (simp; done) | (simp [*]; done)), H', ⟨Nat.le_refl _⟩, ⟨by first | exact Kd.R_nil _ _ _ _ _ | exact Kd.N_nil _ _ _ _ _ | exact Kd.V_nil _ _ _ _ _ | exact Kd.Q_nil _ _ _ _ _ | exact Kd.S_nil _ _ _ _ _⟩, ⟨by first | exact Kd.R_nil _ _ _ _ _ | exact Kd.N_nil _ _ _ _ _ | exact Kd.V_nil _ _ _ _ _ | exact Kd.Q_nil _ _ _ _ _ | exact Kd.S_nil _ _ _ _ _⟩, ⟨by repeat (first | (with_reducible first | exact HB.out | apply below_alloc | apply pw_below_drewN | apply below_drew1) | exact HB.out)⟩⟩
 case round =>
  clear H'
  try clear c1
  obtain ⟨x5_1, x6_1, x13_1, rfl, HA, HK1, HO_5, HO_6, HB⟩ := hrel
  cases gk with
  | zero => exact absurd HA.out (by simp [pairs_Unzip_int64.l0])
  | succ k1 =>
   have H := HA.out
   clear HA
   simp only [pairs_Unzip_int64.l0] at H
   by_cases c2 : x13_1 < (l0.length : Int)
   ·rw [if_pos c2] at H
    have c2b0 : decide (x13_1 < (l0.length : Int)) = true := decide_eq_true c2
    clear c2
    by_cases c3 : 0 ≤ x13_1
    ·rw [if_pos c3] at H
     have c3b0 : decide (0 ≤ x13_1) = true := decide_eq_true c3
     clear c3
     by_cases c4 : x13_1 < (l0.length : Int)
     ·rw [if_pos c4] at H
      have c4b0 : decide (x13_1 < (l0.length : Int)) = true := decide_eq_true c4
      clear c4
      obtain ⟨y103, hy103⟩ : ∃ y_ : List Int, y_ = (([(rd_T62 l0 x13_1).f0] : List Int)) := ⟨_, rfl⟩
      replace H : (if x5_1.length + y103.length < 17592186044416 then ((some (([(rd_T62 l0 x13_1).f1] : List Int) : List Int)).bind fun y109 => (if x6_1.length + y109.length < 17592186044416 then (pairs_Unzip_int64.l0 k1 (x5_1 ++ y103) (x6_1 ++ y109) l0 (l0.length : Int) (wrap64 (x13_1 + 1))) else (none))) else (none)) = some (r1, r2, r3) := by first | (rw [hy103]; with_reducible exact H) | (have H2_ := (Option.bind_some _ _).symm.trans H; rw [hy103]; with_reducible exact H2_) | (have H2_ := (Option.bind_some _ _).symm.trans H; with_reducible exact H2_) | with_reducible exact H | (rw [hy103]; exact H) | exact H
      have Ny103 := Aside0.mk hy103
      clear hy103
      by_cases c5 : x5_1.length + y103.length < 17592186044416
      ·rw [if_pos c5] at H
       have LMc5 := Aside0.mk c5
       clear c5
       obtain ⟨y106, hy106⟩ : ∃ y_ : List Int, y_ = (x5_1 ++ y103) := ⟨_, rfl⟩
       replace H : ((some (([(rd_T62 l0 x13_1).f1] : List Int) : List Int)).bind fun y109 => (if x6_1.length + y109.length < 17592186044416 then (pairs_Unzip_int64.l0 k1 y106 (x6_1 ++ y109) l0 (l0.length : Int) (wrap64 (x13_1 + 1))) else (none))) = some (r1, r2, r3) := by first | (rw [hy106]; with_reducible exact H) | (have H2_ := (Option.bind_some _ _).symm.trans H; rw [hy106]; with_reducible exact H2_) | (have H2_ := (Option.bind_some _ _).symm.trans H; with_reducible exact H2_) | with_reducible exact H | (rw [hy106]; exact H) | exact H
       have Ny106 := Aside0.mk hy106
       clear hy106
       obtain ⟨y109, hy109⟩ : ∃ y_ : List Int, y_ = (([(rd_T62 l0 x13_1).f1] : List Int)) := ⟨_, rfl⟩
       replace H : (if x6_1.length + y109.length < 17592186044416 then (pairs_Unzip_int64.l0 k1 y106 (x6_1 ++ y109) l0 (l0.length : Int) (wrap64 (x13_1 + 1))) else (none)) = some (r1, r2, r3) := by first | (rw [hy109]; with_reducible exact H) | (have H2_ := (Option.bind_some _ _).symm.trans H; rw [hy109]; with_reducible exact H2_) | (have H2_ := (Option.bind_some _ _).symm.trans H; with_reducible exact H2_) | with_reducible exact H | (rw [hy109]; exact H) | exact H
       have Ny109 := Aside0.mk hy109
       clear hy109
       by_cases c6 : x6_1.length + y109.length < 17592186044416
       ·rw [if_pos c6] at H
        have LMc6 := Aside0.mk c6
        clear c6
        obtain ⟨y112, hy112⟩ : ∃ y_ : List Int, y_ = (x6_1 ++ y109) := ⟨_, rfl⟩
        replace H : (pairs_Unzip_int64.l0 k1 y106 y112 l0 (l0.length : Int) (wrap64 (x13_1 + 1))) = some (r1, r2, r3) := by first | (rw [hy112]; with_reducible exact H) | (have H2_ := (Option.bind_some _ _).symm.trans H; rw [hy112]; with_reducible exact H2_) | (have H2_ := (Option.bind_some _ _).symm.trans H; with_reducible exact H2_) | with_reducible exact H | (rw [hy112]; exact H) | exact H
        have Ny112 := Aside0.mk hy112
        clear hy112
        have H' := Aside0.mk H
        clear H
        have p101 : 0 ≤ (x13_1 : Int) := of_decide_eq_true (by first | (with_reducible assumption) | assumption)
        have q101 : x13_1 < (l0.length : Int) := of_decide_eq_true (by first | (with_reducible assumption) | assumption)
        obtain ⟨ad101, e101, hx101_0, hx101_1⟩ := at_T62 HR0.out x13_1 p101 q101
        cases e101
        replace hx101_0 := (HB.out.cell (World.block_lt_of_cell? w _ hx101_0)).trans hx101_0
        replace hx101_1 := (HB.out.cell (World.block_lt_of_cell? w _ hx101_1)).trans hx101_1
        replace p101 := eq_true p101
        replace q101 := eq_true q101
        try go_wp2_with (first | ((with_reducible refine gate_dst (N := 8) rfl ?_); refine box_event ?hg (N := 8) ?hd (cs := #[.int .i64 0, .int .i64 0]) (t := 62) ?hr ?_; (case hd => rfl); (case hg => rfl); (case hr => first | (go_simp; done) | (go_simp; rfl)); intro gb102 hg w7 hbox hb; have n0_ := Aside0.mk (Kd.R_below (by (with_reducible repeat (first | apply Kd.R_alloc | apply Kd.R_drewN | apply Kd.R_drew)); exact HO_5.out) hb); have n1_ := Aside0.mk (Kd.R_below (by (with_reducible repeat (first | apply Kd.R_alloc | apply Kd.R_drewN | apply Kd.R_drew)); exact HO_6.out) hb); have n2_ := Aside0.mk (below_step (by repeat (first | (with_reducible first | exact HB.out | apply below_alloc | apply pw_below_drewN | apply below_drew1) | exact HB.out)) hb); have n3_ := Aside0.mk (hbox); have n4_ := Aside0.mk ((by rw [hg]; exact (below_size (by repeat (first | (with_reducible first | exact HB.out | apply below_alloc | apply pw_below_drewN | apply below_drew1) | exact HB.out))) : w.heap.size ≤ gb102)); have n5_ := Aside0.mk ((by rw [hg]; exact (below_size (by repeat (first | (with_reducible first | exact HB.out | apply below_alloc | apply pw_below_drewN | apply below_drew1) | exact HB.out))) : w.heap.size ≤ gb102)); clear HO_5; clear HO_6; clear HB; have HO_5 := n0_; have HO_6 := n1_; have HB := n2_; have BK102 := n3_; have GW102 := n4_; have GE102 := n5_; clear n0_ n1_ n2_ n3_ n4_ n5_; clear hb hbox hg; have hcz8_0 : w7.cell? ⟨gb102, 0, none⟩ = some (.int .i64 0) := (blk_cell BK102.out 0).trans rfl; have hcz8_1 : w7.cell? ⟨gb102, 1, none⟩ = some (.int .i64 0) := (blk_cell BK102.out 1).trans rfl; have hfz8_0 := blk_frozen BK102.out 0; have hfz8_1 := blk_frozen BK102.out 1; obtain ⟨Ao9, co9, eo9⟩ := Kd.R_slice HO_5.out; subst eo9; obtain ⟨Ao10, co10, eo10⟩ := Kd.R_slice HO_6.out; subst eo10))
        have n0_ : Aside0 (Kd.R (Kd.int .i64) 3 ((w7.setCell ⟨gb102, 0, none⟩ (.int .i64 ((rd_T62 l0 x13_1).f0))).setCell ⟨gb102, 1, none⟩ (.int .i64 ((rd_T62 l0 x13_1).f1))) w.heap.size (fun _ => True) (.slice Ao9 x5_1.length co9) x5_1) := ⟨by (with_reducible repeat (first | apply Kd.R_alloc | apply Kd.R_drewN | apply Kd.R_drew)); exact Kd.R_mono (Kd.R_far (p := ⟨gb102, 1, none⟩) (Kd.R_far (p := ⟨gb102, 0, none⟩) (Kd.R_types HO_5.out BK102.out (by decide)) (fun _ hk => hk.2) (.int .i64 ((rd_T62 l0 x13_1).f0))) (fun _ hk => hk.2) (.int .i64 ((rd_T62 l0 x13_1).f1))) (fun _ hk => trivial)⟩
        have n1_ : Aside0 (Kd.R (Kd.int .i64) 2 ((w7.setCell ⟨gb102, 0, none⟩ (.int .i64 ((rd_T62 l0 x13_1).f0))).setCell ⟨gb102, 1, none⟩ (.int .i64 ((rd_T62 l0 x13_1).f1))) w.heap.size (fun _ => True) (.slice Ao10 x6_1.length co10) x6_1) := ⟨by (with_reducible repeat (first | apply Kd.R_alloc | apply Kd.R_drewN | apply Kd.R_drew)); exact Kd.R_mono (Kd.R_far (p := ⟨gb102, 1, none⟩) (Kd.R_far (p := ⟨gb102, 0, none⟩) (Kd.R_types HO_6.out BK102.out (by decide)) (fun _ hk => hk.2) (.int .i64 ((rd_T62 l0 x13_1).f0))) (fun _ hk => hk.2) (.int .i64 ((rd_T62 l0 x13_1).f1))) (fun _ hk => trivial)⟩
        have n2_ : Aside0 (((w7.setCell ⟨gb102, 0, none⟩ (.int .i64 ((rd_T62 l0 x13_1).f0))).setCell ⟨gb102, 1, none⟩ (.int .i64 ((rd_T62 l0 x13_1).f1))).heap[gb102]? = some (.cells #[.int .i64 ((rd_T62 l0 x13_1).f0), .int .i64 ((rd_T62 l0 x13_1).f1)] 62 (0, 0))) := ⟨by (with_reducible repeat (first | refine blk_drewN ?_ _ | refine blk_drew ?_ | refine blk_alloc ?_ _)); refine blk_put (cs := #[.int .i64 ((rd_T62 l0 x13_1).f0), .int .i64 0]) ?_ 1 _ rfl; (with_reducible repeat (first | refine blk_drewN ?_ _ | refine blk_drew ?_ | refine blk_alloc ?_ _)); refine blk_put (cs := #[.int .i64 0, .int .i64 0]) ?_ 0 _ rfl; (with_reducible repeat (first | refine blk_drewN ?_ _ | refine blk_drew ?_ | refine blk_alloc ?_ _)); exact BK102.out⟩
        have n3_ : Aside0 (Below w.heap.size w ((w7.setCell ⟨gb102, 0, none⟩ (.int .i64 ((rd_T62 l0 x13_1).f0))).setCell ⟨gb102, 1, none⟩ (.int .i64 ((rd_T62 l0 x13_1).f1)))) := ⟨by repeat (first | (with_reducible first | exact HB.out | apply below_alloc | apply pw_below_drewN | apply below_drew1 | refine below_set ?_ GE102.out) | exact HB.out)⟩
        (try clear HO_5)
        (try clear HO_6)
        (try clear BK102)
        (try clear HB)
        generalize ((w7.setCell ⟨gb102, 0, none⟩ (.int .i64 ((rd_T62 l0 x13_1).f0))).setCell ⟨gb102, 1, none⟩ (.int .i64 ((rd_T62 l0 x13_1).f1))) = w11 at n0_ n1_ n2_ n3_ ⊢
        have HO_5 := n0_
        have HO_6 := n1_
        have BK102 := n2_
        have HB := n3_
        clear n0_ n1_ n2_ n3_
        have n0_ := Aside0.mk (Kd.R_drew HO_5.out)
        have n1_ := Aside0.mk (Kd.R_drew HO_6.out)
        have n2_ := Aside0.mk (blk_drew BK102.out)
        have n3_ := Aside0.mk (below_drew1 HB.out)
        clear HO_5
        clear HO_6
        clear BK102
        clear HB
        have HO_5 := n0_
        have HO_6 := n1_
        have BK102 := n2_
        have HB := n3_
        clear n0_ n1_ n2_ n3_
        refine start_ (n := 12) (S := fun w' => w'.cell? ⟨gb102, 0, none⟩ = some (.int .i64 ((rd_T62 l0 x13_1).f0)) ∧ w'.cell? ⟨gb102, 1, none⟩ = some (.int .i64 ((rd_T62 l0 x13_1).f1))) (ds := []) #[false, false, false, false, false, false, false, false, false, false, false, false] (by kernel_rfl) rfl rfl ⟨(blk_cell BK102.out 0).trans rfl, (blk_cell BK102.out 1).trans rfl⟩ (fun hHeld => ?_); refine with_tabW pairs_Unzip_int64.tab6 pairs_Unzip_int64.bits6 (fun HT_ HW_ => ?_)
        generalize w11.drew = w12 at HO_5 HO_6 BK102 HB hHeld ⊢
        refine pure_ (i := 0) (N := some 17) (v := ?_) (a' := ?_) #[true, false, false, false, false, false, false, false, false, false, false, false] rfl rfl (any_of HT_.out (by kernel_rfl)) (fun _ _ _ h => h) (Or.inl ⟨by rfl, ?_⟩) ?_ ?_
        rotate_left
        ·intro w'
         go_simp
         with_reducible rfl
        rotate_left
        ·simp only [Act.put, List.setIfInBounds_toArray, List.set_cons_zero, List.set_cons_succ, i64_w, i32_w]
         rfl
        refine pure_ (i := 1) (N := some 18) (v := ?_) (a' := ?_) #[true, true, false, false, false, false, false, false, false, false, false, false] rfl rfl (any_of HT_.out (by kernel_rfl)) (fun _ _ _ h => h) (Or.inl ⟨by rfl, ?_⟩) ?_ ?_
        rotate_left
        ·intro w'
         go_simp
         with_reducible rfl
        rotate_left
        ·simp only [Act.put, List.setIfInBounds_toArray, List.set_cons_zero, List.set_cons_succ, i64_w, i32_w]
         rfl
        refine pure_ (i := 5) (N := some 22) (v := ?_) (a' := ?_) #[true, true, false, false, false, true, false, false, false, false, false, false] rfl rfl (any_of HT_.out (by kernel_rfl)) (fun _ _ _ h => h) (Or.inl ⟨by rfl, ?_⟩) ?_ ?_
        rotate_left
        ·intro w'
         go_simp
         with_reducible rfl
        rotate_left
        ·simp only [Act.put, List.setIfInBounds_toArray, List.set_cons_zero, List.set_cons_succ, i64_w, i32_w]
         rfl
        refine pure_ (i := 6) (N := some 23) (v := ?_) (a' := ?_) #[true, true, false, false, false, true, true, false, false, false, false, false] rfl rfl (any_of HT_.out (by kernel_rfl)) (fun _ _ _ h => h) (Or.inl ⟨by rfl, ?_⟩) ?_ ?_
        rotate_left
        ·intro w'
         go_simp
         with_reducible rfl
        rotate_left
        ·simp only [Act.put, List.setIfInBounds_toArray, List.set_cons_zero, List.set_cons_succ, i64_w, i32_w]
         rfl
        refine take_ (i := 2) (N := some 19) (v := ?_) (a' := ?_) #[true, true, true, false, false, true, true, false, false, false, false, false] rfl rfl (take_ofW HT_.out HW_.out (by kernel_rfl)) (fun _ _ _ h => h) (Or.inl ⟨by rfl, ?_⟩) hHeld ?_ ?_
        rotate_left
        ·rintro w' ⟨s0, s1⟩
         go_simp
         with_reducible rfl
        rotate_left
        ·simp only [Act.put, List.setIfInBounds_toArray, List.set_cons_zero, List.set_cons_succ, i64_w, i32_w]
         rfl
        refine take_ (i := 7) (N := some 24) (v := ?_) (a' := ?_) #[true, true, true, false, false, true, true, true, false, false, false, false] rfl rfl (take_ofW HT_.out HW_.out (by kernel_rfl)) (fun _ _ _ h => h) (Or.inl ⟨by rfl, ?_⟩) hHeld ?_ ?_
        rotate_left
        ·rintro w' ⟨s0, s1⟩
         go_simp
         with_reducible rfl
        rotate_left
        ·simp only [Act.put, List.setIfInBounds_toArray, List.set_cons_zero, List.set_cons_succ, i64_w, i32_w]
         rfl
        refine join_ (σ := Value × Value × Value) 3 #[true, true, true, true, true, true, true, true, true, false, false, false] (fun s_ => [(20, s_.1), (21, s_.2.1), (25, s_.2.2)]) (fun s_ w' => (w'.cell? ⟨gb102, 0, none⟩ = some (.int .i64 ((rd_T62 l0 x13_1).f0)) ∧ w'.cell? ⟨gb102, 1, none⟩ = some (.int .i64 ((rd_T62 l0 x13_1).f1))) ∧ (Kd.R (Kd.int .i64) 3 w' w.heap.size (fun k_ => some k_ ≠ (s_.2.1 : Value).ownBlock) s_.1 y103) ∧ (Kd.R (Kd.int .i64) 3 w' w.heap.size (fun k_ => some k_ ≠ (s_.1 : Value).ownBlock) s_.2.1 y106) ∧ (Kd.R (Kd.int .i64) 2 w' w.heap.size (fun k_ => some k_ ≠ (.slice Ao10 x6_1.length co10 : Value).ownBlock) s_.2.2 y109) ∧ (Kd.R (Kd.int .i64) 2 w' w.heap.size (fun k_ => some k_ ≠ (s_.2.2 : Value).ownBlock) (.slice Ao10 x6_1.length co10) x6_1) ∧ (w'.heap[gb102]? = some (.cells #[.int .i64 ((rd_T62 l0 x13_1).f0), .int .i64 ((rd_T62 l0 x13_1).f1)] 62 (0, 0))) ∧ (Below w.heap.size w w')) ?_ ?_
        rotate_left
        ·intro hCont
         refine two_ (i := 3) (j := 8) (Ni := some 20) (Nj := some 25) #[true, true, true, true, false, true, true, true, false, false, false, false] #[true, true, true, false, false, true, true, true, true, false, false, false] rfl rfl rfl rfl (two_of HT_.out (by kernel_rfl)) (by decide) (by decide) (fun K hK => ?_) (fun K hK => ?_)
         ·skip
          refine Kd.R_lit_step (Kd.int .i64) _ 3 ?hg (N := 20) ?hd (xs := ([(rd_T62 l0 x13_1).f0] : List Int)) (inner := [.int .i64 ((rd_T62 l0 x13_1).f0)]) (ok := fun _ => True) (okp := fun _ => True) ?hr ?hp (fun _ hk => hk) trivial (Below.refl _ _) (Nat.le_refl _) (by simp) ?_; (case hd => rfl); (case hg => rfl); (case hr => first | (go_simp; done) | (go_simp; rfl)); (case hp => exact (Reps.one (show Kd.M (Kd.int .i64) _ _ _ ((rd_T62 l0 x13_1).f0) [.int .i64 ((rd_T62 l0 x13_1).f0)] from rfl) (Reps.none _ _)))
          intro v104 w13 ho14 hb hg_ hnew_
          clear hg_ hnew_
          (first | rw [← Ny103.out] at ho14 | (simp only [Int.reduceToNat] at ho14; rw [← Ny103.out] at ho14))
          have n0_ := Aside0.mk (Kd.R_elder' (by (with_reducible repeat (first | apply Kd.R_alloc | apply Kd.R_drewN | apply Kd.R_drew)); exact HO_5.out) (Kd.R_base ho14) hb)
          have n1_ := Aside0.mk (Kd.R_below (by (with_reducible repeat (first | apply Kd.R_alloc | apply Kd.R_drewN | apply Kd.R_drew)); exact HO_6.out) hb)
          have n2_ := Aside0.mk (Kd.R_lower (Kd.R_new' ho14 (Kd.R_lt (by (with_reducible repeat (first | apply Kd.R_alloc | apply Kd.R_drewN | apply Kd.R_drew)); exact HO_5.out))) (below_size (by repeat (first | (with_reducible first | exact HB.out | apply below_alloc | apply pw_below_drewN | apply below_drew1 | refine below_set ?_ GE102.out) | exact HB.out))))
          have n3_ := Aside0.mk (blk_below (g := gb102) (o := .cells #[.int .i64 ((rd_T62 l0 x13_1).f0), .int .i64 ((rd_T62 l0 x13_1).f1)] 62 (0, 0)) (by (with_reducible repeat (first | refine blk_drewN ?_ _ | refine blk_drew ?_ | refine blk_alloc ?_ _)); exact BK102.out) hb)
          have n4_ := Aside0.mk (below_step (by repeat (first | (with_reducible first | exact HB.out | apply below_alloc | apply pw_below_drewN | apply below_drew1 | refine below_set ?_ GE102.out) | exact HB.out)) hb)
          clear HO_5
          clear HO_6
          clear BK102
          clear HB
          have HO_5 := n0_
          have HO_6 := n1_
          have HO105 := n2_
          have BK102 := n3_
          have HB := n4_
          clear n0_ n1_ n2_ n3_ n4_
          clear hb ho14
          obtain ⟨Ao16, co16, eo16⟩ := Kd.R_slice HO105.out
          (first | subst eo16 | (injection eo16 with f1_ f2_ f3_; have f4_ := f1_.symm; have f5_ := f3_.symm; clear f1_ f2_ f3_; subst f4_; subst f5_))
          refine hK.out _ _ ⟨(blk_cell BK102.out 0).trans rfl, (blk_cell BK102.out 1).trans rfl⟩ (fun hHeld => ?_)
          clear hK K
          refine norm_ (a' := ?_) ?_ ?_
          rotate_left
          ·show Act.put _ (some 20) _ = _
           simp only [Act.put, List.setIfInBounds_toArray, List.set_cons_zero, List.set_cons_succ, i64_w, i32_w]
           rfl
          refine two_ (i := 4) (j := 8) (Ni := some 21) (Nj := some 25) #[true, true, true, true, true, true, true, true, false, false, false, false] #[true, true, true, true, false, true, true, true, true, false, false, false] rfl rfl rfl rfl (two_of HT_.out (by kernel_rfl)) (by decide) (by decide) (fun K hK => ?_) (fun K hK => ?_)
          ·skip
           refine Kd.R_append_rows_step (Kd.int .i64) (w0 := w) w.heap.size (by rfl) (.tmp 17) (.tmp 20) 95 3 (.int .i64 0) 8 rfl Try.underlying95 info3 rfl (by decide) (by omega) (.slice Ao9 x5_1.length co9) x5_1 y103 _ _ _ (fun k_ => some k_ ≠ (.slice Ao16 y103.length co16 : Value).ownBlock) (fun _ => False) rfl rfl ?aO ?aR (fun _ _ h => h) (fun _ h => h.elim) ?aF ?aB ?aS ?aL ?_
           (case aR => repeat (first | exact (Kd.R_reads' HO105.out).2.2 | (with_reducible refine Kd.C_alloc ?_ _) | (with_reducible refine Kd.C_drewN ?_ _) | (with_reducible refine Kd.C_drew ?_)))
           (case aB => exact (by repeat (first | (with_reducible first | exact HB.out | apply below_alloc | apply pw_below_drewN | apply below_drew1 | refine below_set ?_ GE102.out) | exact HB.out)))
           (case aF => exact (fun k_ hk => Kd.fresh' (Kd.R_lt (by (with_reducible repeat (first | apply Kd.R_alloc | apply Kd.R_drewN | apply Kd.R_drew)); exact HO105.out)) k_ hk))
           (case aO => exact (by (with_reducible repeat (first | apply Kd.R_alloc | apply Kd.R_drewN | apply Kd.R_drew)); exact Kd.R_mono HO_5.out (fun _ hk => hk.2)))
           (case aS => exact (below_size (by repeat (first | (with_reducible first | exact HB.out | apply below_alloc | apply pw_below_drewN | apply below_drew1 | refine below_set ?_ GE102.out) | exact HB.out))))
           (case aL => have := LMc5.out; omega)
           intro v107 w15 ho hb hg hat
           rw [← Ny106.out] at ho
           have n0_ := Aside0.mk (Kd.R_over' (by (with_reducible repeat (first | apply Kd.R_alloc | apply Kd.R_drewN | apply Kd.R_drew)); exact HO_6.out) (Kd.R_typed (by (with_reducible repeat (first | apply Kd.R_alloc | apply Kd.R_drewN | apply Kd.R_drew)); exact HO_5.out)) (by decide) hg)
           have n1_ := Aside0.mk (blk_grown (g := gb102) (o := .cells #[.int .i64 ((rd_T62 l0 x13_1).f0), .int .i64 ((rd_T62 l0 x13_1).f1)] 62 (0, 0)) (by (with_reducible repeat (first | refine blk_drewN ?_ _ | refine blk_drew ?_ | refine blk_alloc ?_ _)); exact BK102.out) hg (Kd.R_ne HO_5.out BK102.out (by decide)))
           have n2_ := Aside0.mk (Kd.R_after (ok := (fun _ => True)) (by (with_reducible repeat (first | apply Kd.R_alloc | apply Kd.R_drewN | apply Kd.R_drew)); exact HO105.out) hg hat)
           have n3_ := Aside0.mk (hb)
           have n4_ := Aside0.mk (ho)
           clear HO_6
           clear BK102
           clear HO105
           clear HB
           clear HO_5
           have HO_6 := n0_
           have BK102 := n1_
           have HO105 := n2_
           have HB := n3_
           have HO108 := n4_
           clear n0_ n1_ n2_ n3_ n4_
           clear ho hb hg hat
           refine hK.out _ _ ⟨(blk_cell BK102.out 0).trans rfl, (blk_cell BK102.out 1).trans rfl⟩ (fun hHeld => ?_)
           clear hK K
           refine norm_ (a' := ?_) ?_ ?_
           rotate_left
           ·show Act.put _ (some 21) _ = _
            simp only [Act.put, List.setIfInBounds_toArray, List.set_cons_zero, List.set_cons_succ, i64_w, i32_w]
            rfl
           refine one_ (i := 8) (N := some 25) #[true, true, true, true, true, true, true, true, true, false, false, false] rfl rfl (one_of HT_.out (by kernel_rfl)) (by decide) (fun K hK => ?_)
           refine Kd.R_lit_step (Kd.int .i64) _ 2 ?hg (N := 25) ?hd (xs := ([(rd_T62 l0 x13_1).f1] : List Int)) (inner := [.int .i64 ((rd_T62 l0 x13_1).f1)]) (ok := fun _ => True) (okp := fun _ => True) ?hr ?hp (fun _ hk => hk) trivial (Below.refl _ _) (Nat.le_refl _) (by simp) ?_; (case hd => rfl); (case hg => rfl); (case hr => first | (go_simp; done) | (go_simp; rfl)); (case hp => exact (Reps.one (show Kd.M (Kd.int .i64) _ _ _ ((rd_T62 l0 x13_1).f1) [.int .i64 ((rd_T62 l0 x13_1).f1)] from rfl) (Reps.none _ _)))
           intro v110 w17 ho18 hb hg_ hnew_
           clear hg_ hnew_
           (first | rw [← Ny109.out] at ho18 | (simp only [Int.reduceToNat] at ho18; rw [← Ny109.out] at ho18))
           have n0_ := Aside0.mk (Kd.R_elder' (by (with_reducible repeat (first | apply Kd.R_alloc | apply Kd.R_drewN | apply Kd.R_drew)); exact HO_6.out) (Kd.R_base ho18) hb)
           have n1_ := Aside0.mk (Kd.R_below (by (with_reducible repeat (first | apply Kd.R_alloc | apply Kd.R_drewN | apply Kd.R_drew)); exact HO105.out) hb)
           have n2_ := Aside0.mk (Kd.R_below (by (with_reducible repeat (first | apply Kd.R_alloc | apply Kd.R_drewN | apply Kd.R_drew)); exact HO108.out) hb)
           have n3_ := Aside0.mk (Kd.R_lower (Kd.R_new' ho18 (Kd.R_lt (by (with_reducible repeat (first | apply Kd.R_alloc | apply Kd.R_drewN | apply Kd.R_drew)); exact HO_6.out))) (below_size (by repeat (first | (with_reducible first | exact HB.out | apply below_alloc | apply pw_below_drewN | apply below_drew1 | refine below_set ?_ GE102.out) | exact HB.out))))
           have n4_ := Aside0.mk (blk_below (g := gb102) (o := .cells #[.int .i64 ((rd_T62 l0 x13_1).f0), .int .i64 ((rd_T62 l0 x13_1).f1)] 62 (0, 0)) (by (with_reducible repeat (first | refine blk_drewN ?_ _ | refine blk_drew ?_ | refine blk_alloc ?_ _)); exact BK102.out) hb)
           have n5_ := Aside0.mk (below_step (by repeat (first | (with_reducible first | exact HB.out | apply below_alloc | apply pw_below_drewN | apply below_drew1 | refine below_set ?_ GE102.out) | exact HB.out)) hb)
           clear HO_6
           clear HO105
           clear HO108
           clear BK102
           clear HB
           have HO_6 := n0_
           have HO105 := n1_
           have HO108 := n2_
           have HO111 := n3_
           have BK102 := n4_
           have HB := n5_
           clear n0_ n1_ n2_ n3_ n4_ n5_
           clear hb ho18
           refine hK.out _ _ ⟨(blk_cell BK102.out 0).trans rfl, (blk_cell BK102.out 1).trans rfl⟩ (fun hHeld => ?_)
           clear hK K
           refine norm_ (a' := ?_) ?_ ?_
           rotate_left
           ·show Act.put _ (some 25) _ = _
            simp only [Act.put, List.setIfInBounds_toArray, List.set_cons_zero, List.set_cons_succ, i64_w, i32_w]
            rfl
           exact norm_ (by simp only [putAll, Act.put, List.setIfInBounds_toArray, List.set_cons_zero, List.set_cons_succ]) (hCont (.slice Ao16 y103.length co16, v107, v110) _ ⟨hHeld, (by (with_reducible repeat (first | apply Kd.R_alloc | apply Kd.R_drewN | apply Kd.R_drew)); exact Kd.R_mono HO105.out (fun _ hk => hk.2)), (by (with_reducible repeat (first | apply Kd.R_alloc | apply Kd.R_drewN | apply Kd.R_drew)); exact HO108.out), (by (with_reducible repeat (first | apply Kd.R_alloc | apply Kd.R_drewN | apply Kd.R_drew)); exact Kd.R_mono HO111.out (fun _ hk => hk.2)), (by (with_reducible repeat (first | apply Kd.R_alloc | apply Kd.R_drewN | apply Kd.R_drew)); exact Kd.R_mono HO_6.out (fun _ hk => hk.2)), (by (with_reducible repeat (first | refine blk_drewN ?_ _ | refine blk_drew ?_ | refine blk_alloc ?_ _)); exact BK102.out), (by repeat (first | (with_reducible first | exact HB.out | apply below_alloc | apply pw_below_drewN | apply below_drew1 | refine below_set ?_ GE102.out) | exact HB.out))⟩)
          ·skip
           refine Kd.R_lit_step (Kd.int .i64) _ 2 ?hg (N := 25) ?hd (xs := ([(rd_T62 l0 x13_1).f1] : List Int)) (inner := [.int .i64 ((rd_T62 l0 x13_1).f1)]) (ok := fun _ => True) (okp := fun _ => True) ?hr ?hp (fun _ hk => hk) trivial (Below.refl _ _) (Nat.le_refl _) (by simp) ?_; (case hd => rfl); (case hg => rfl); (case hr => first | (go_simp; done) | (go_simp; rfl)); (case hp => exact (Reps.one (show Kd.M (Kd.int .i64) _ _ _ ((rd_T62 l0 x13_1).f1) [.int .i64 ((rd_T62 l0 x13_1).f1)] from rfl) (Reps.none _ _)))
           intro v110 w15 ho16 hb hg_ hnew_
           clear hg_ hnew_
           (first | rw [← Ny109.out] at ho16 | (simp only [Int.reduceToNat] at ho16; rw [← Ny109.out] at ho16))
           have n0_ := Aside0.mk (Kd.R_below (by (with_reducible repeat (first | apply Kd.R_alloc | apply Kd.R_drewN | apply Kd.R_drew)); exact HO_5.out) hb)
           have n1_ := Aside0.mk (Kd.R_elder' (by (with_reducible repeat (first | apply Kd.R_alloc | apply Kd.R_drewN | apply Kd.R_drew)); exact HO_6.out) (Kd.R_base ho16) hb)
           have n2_ := Aside0.mk (Kd.R_below (by (with_reducible repeat (first | apply Kd.R_alloc | apply Kd.R_drewN | apply Kd.R_drew)); exact HO105.out) hb)
           have n3_ := Aside0.mk (Kd.R_lower (Kd.R_new' ho16 (Kd.R_lt (by (with_reducible repeat (first | apply Kd.R_alloc | apply Kd.R_drewN | apply Kd.R_drew)); exact HO_6.out))) (below_size (by repeat (first | (with_reducible first | exact HB.out | apply below_alloc | apply pw_below_drewN | apply below_drew1 | refine below_set ?_ GE102.out) | exact HB.out))))
           have n4_ := Aside0.mk (blk_below (g := gb102) (o := .cells #[.int .i64 ((rd_T62 l0 x13_1).f0), .int .i64 ((rd_T62 l0 x13_1).f1)] 62 (0, 0)) (by (with_reducible repeat (first | refine blk_drewN ?_ _ | refine blk_drew ?_ | refine blk_alloc ?_ _)); exact BK102.out) hb)
           have n5_ := Aside0.mk (below_step (by repeat (first | (with_reducible first | exact HB.out | apply below_alloc | apply pw_below_drewN | apply below_drew1 | refine below_set ?_ GE102.out) | exact HB.out)) hb)
           clear HO_5
           clear HO_6
           clear HO105
           clear BK102
           clear HB
           have HO_5 := n0_
           have HO_6 := n1_
           have HO105 := n2_
           have HO111 := n3_
           have BK102 := n4_
           have HB := n5_
           clear n0_ n1_ n2_ n3_ n4_ n5_
           clear hb ho16
           obtain ⟨Ao18, co18, eo18⟩ := Kd.R_slice HO105.out
           (first | subst eo18 | (injection eo18 with f1_ f2_ f3_; have f4_ := f1_.symm; have f5_ := f3_.symm; clear f1_ f2_ f3_; subst f4_; subst f5_))
           refine hK.out _ _ ⟨(blk_cell BK102.out 0).trans rfl, (blk_cell BK102.out 1).trans rfl⟩ (fun hHeld => ?_)
           clear hK K
           refine norm_ (a' := ?_) ?_ ?_
           rotate_left
           ·show Act.put _ (some 25) _ = _
            simp only [Act.put, List.setIfInBounds_toArray, List.set_cons_zero, List.set_cons_succ, i64_w, i32_w]
            rfl
           refine one_ (i := 4) (N := some 21) #[true, true, true, true, true, true, true, true, true, false, false, false] rfl rfl (one_of HT_.out (by kernel_rfl)) (by decide) (fun K hK => ?_)
           refine Kd.R_append_rows_step (Kd.int .i64) (w0 := w) w.heap.size (by rfl) (.tmp 17) (.tmp 20) 95 3 (.int .i64 0) 8 rfl Try.underlying95 info3 rfl (by decide) (by omega) (.slice Ao9 x5_1.length co9) x5_1 y103 _ _ _ (fun k_ => some k_ ≠ (.slice Ao18 y103.length co18 : Value).ownBlock) (fun _ => False) rfl rfl ?aO ?aR (fun _ _ h => h) (fun _ h => h.elim) ?aF ?aB ?aS ?aL ?_
           (case aR => repeat (first | exact (Kd.R_reads' HO105.out).2.2 | (with_reducible refine Kd.C_alloc ?_ _) | (with_reducible refine Kd.C_drewN ?_ _) | (with_reducible refine Kd.C_drew ?_)))
           (case aB => exact (by repeat (first | (with_reducible first | exact HB.out | apply below_alloc | apply pw_below_drewN | apply below_drew1 | refine below_set ?_ GE102.out) | exact HB.out)))
           (case aF => exact (fun k_ hk => Kd.fresh' (Kd.R_lt (by (with_reducible repeat (first | apply Kd.R_alloc | apply Kd.R_drewN | apply Kd.R_drew)); exact HO105.out)) k_ hk))
           (case aO => exact (by (with_reducible repeat (first | apply Kd.R_alloc | apply Kd.R_drewN | apply Kd.R_drew)); exact Kd.R_mono HO_5.out (fun _ hk => hk.2)))
           (case aS => exact (below_size (by repeat (first | (with_reducible first | exact HB.out | apply below_alloc | apply pw_below_drewN | apply below_drew1 | refine below_set ?_ GE102.out) | exact HB.out))))
           (case aL => have := LMc5.out; omega)
           intro v107 w17 ho hb hg hat
           rw [← Ny106.out] at ho
           have n0_ := Aside0.mk (Kd.R_over' (by (with_reducible repeat (first | apply Kd.R_alloc | apply Kd.R_drewN | apply Kd.R_drew)); exact HO_6.out) (Kd.R_typed (by (with_reducible repeat (first | apply Kd.R_alloc | apply Kd.R_drewN | apply Kd.R_drew)); exact HO_5.out)) (by decide) hg)
           have n1_ := Aside0.mk (blk_grown (g := gb102) (o := .cells #[.int .i64 ((rd_T62 l0 x13_1).f0), .int .i64 ((rd_T62 l0 x13_1).f1)] 62 (0, 0)) (by (with_reducible repeat (first | refine blk_drewN ?_ _ | refine blk_drew ?_ | refine blk_alloc ?_ _)); exact BK102.out) hg (Kd.R_ne HO_5.out BK102.out (by decide)))
           have n2_ := Aside0.mk (Kd.R_after (ok := (fun _ => True)) (by (with_reducible repeat (first | apply Kd.R_alloc | apply Kd.R_drewN | apply Kd.R_drew)); exact HO105.out) hg hat)
           have n3_ := Aside0.mk (Kd.R_over' (by (with_reducible repeat (first | apply Kd.R_alloc | apply Kd.R_drewN | apply Kd.R_drew)); exact HO111.out) (Kd.R_typed (by (with_reducible repeat (first | apply Kd.R_alloc | apply Kd.R_drewN | apply Kd.R_drew)); exact HO_5.out)) (by decide) hg)
           have n4_ := Aside0.mk (hb)
           have n5_ := Aside0.mk (ho)
           clear HO_6
           clear BK102
           clear HO105
           clear HO111
           clear HB
           clear HO_5
           have HO_6 := n0_
           have BK102 := n1_
           have HO105 := n2_
           have HO111 := n3_
           have HB := n4_
           have HO108 := n5_
           clear n0_ n1_ n2_ n3_ n4_ n5_
           clear ho hb hg hat
           refine hK.out _ _ ⟨(blk_cell BK102.out 0).trans rfl, (blk_cell BK102.out 1).trans rfl⟩ (fun hHeld => ?_)
           clear hK K
           refine norm_ (a' := ?_) ?_ ?_
           rotate_left
           ·show Act.put _ (some 21) _ = _
            simp only [Act.put, List.setIfInBounds_toArray, List.set_cons_zero, List.set_cons_succ, i64_w, i32_w]
            rfl
           exact norm_ (by simp only [putAll, Act.put, List.setIfInBounds_toArray, List.set_cons_zero, List.set_cons_succ]) (hCont (.slice Ao18 y103.length co18, v107, v110) _ ⟨hHeld, (by (with_reducible repeat (first | apply Kd.R_alloc | apply Kd.R_drewN | apply Kd.R_drew)); exact Kd.R_mono HO105.out (fun _ hk => hk.2)), (by (with_reducible repeat (first | apply Kd.R_alloc | apply Kd.R_drewN | apply Kd.R_drew)); exact HO108.out), (by (with_reducible repeat (first | apply Kd.R_alloc | apply Kd.R_drewN | apply Kd.R_drew)); exact Kd.R_mono HO111.out (fun _ hk => hk.2)), (by (with_reducible repeat (first | apply Kd.R_alloc | apply Kd.R_drewN | apply Kd.R_drew)); exact Kd.R_mono HO_6.out (fun _ hk => hk.2)), (by (with_reducible repeat (first | refine blk_drewN ?_ _ | refine blk_drew ?_ | refine blk_alloc ?_ _)); exact BK102.out), (by repeat (first | (with_reducible first | exact HB.out | apply below_alloc | apply pw_below_drewN | apply below_drew1 | refine below_set ?_ GE102.out) | exact HB.out))⟩)
         ·skip
          refine Kd.R_lit_step (Kd.int .i64) _ 2 ?hg (N := 25) ?hd (xs := ([(rd_T62 l0 x13_1).f1] : List Int)) (inner := [.int .i64 ((rd_T62 l0 x13_1).f1)]) (ok := fun _ => True) (okp := fun _ => True) ?hr ?hp (fun _ hk => hk) trivial (Below.refl _ _) (Nat.le_refl _) (by simp) ?_; (case hd => rfl); (case hg => rfl); (case hr => first | (go_simp; done) | (go_simp; rfl)); (case hp => exact (Reps.one (show Kd.M (Kd.int .i64) _ _ _ ((rd_T62 l0 x13_1).f1) [.int .i64 ((rd_T62 l0 x13_1).f1)] from rfl) (Reps.none _ _)))
          intro v110 w13 ho14 hb hg_ hnew_
          clear hg_ hnew_
          (first | rw [← Ny109.out] at ho14 | (simp only [Int.reduceToNat] at ho14; rw [← Ny109.out] at ho14))
          have n0_ := Aside0.mk (Kd.R_below (by (with_reducible repeat (first | apply Kd.R_alloc | apply Kd.R_drewN | apply Kd.R_drew)); exact HO_5.out) hb)
          have n1_ := Aside0.mk (Kd.R_elder' (by (with_reducible repeat (first | apply Kd.R_alloc | apply Kd.R_drewN | apply Kd.R_drew)); exact HO_6.out) (Kd.R_base ho14) hb)
          have n2_ := Aside0.mk (Kd.R_lower (Kd.R_new' ho14 (Kd.R_lt (by (with_reducible repeat (first | apply Kd.R_alloc | apply Kd.R_drewN | apply Kd.R_drew)); exact HO_6.out))) (below_size (by repeat (first | (with_reducible first | exact HB.out | apply below_alloc | apply pw_below_drewN | apply below_drew1 | refine below_set ?_ GE102.out) | exact HB.out))))
          have n3_ := Aside0.mk (blk_below (g := gb102) (o := .cells #[.int .i64 ((rd_T62 l0 x13_1).f0), .int .i64 ((rd_T62 l0 x13_1).f1)] 62 (0, 0)) (by (with_reducible repeat (first | refine blk_drewN ?_ _ | refine blk_drew ?_ | refine blk_alloc ?_ _)); exact BK102.out) hb)
          have n4_ := Aside0.mk (below_step (by repeat (first | (with_reducible first | exact HB.out | apply below_alloc | apply pw_below_drewN | apply below_drew1 | refine below_set ?_ GE102.out) | exact HB.out)) hb)
          clear HO_5
          clear HO_6
          clear BK102
          clear HB
          have HO_5 := n0_
          have HO_6 := n1_
          have HO111 := n2_
          have BK102 := n3_
          have HB := n4_
          clear n0_ n1_ n2_ n3_ n4_
          clear hb ho14
          refine hK.out _ _ ⟨(blk_cell BK102.out 0).trans rfl, (blk_cell BK102.out 1).trans rfl⟩ (fun hHeld => ?_)
          clear hK K
          refine norm_ (a' := ?_) ?_ ?_
          rotate_left
          ·show Act.put _ (some 25) _ = _
           simp only [Act.put, List.setIfInBounds_toArray, List.set_cons_zero, List.set_cons_succ, i64_w, i32_w]
           rfl
          refine one_ (i := 3) (N := some 20) #[true, true, true, true, false, true, true, true, true, false, false, false] rfl rfl (one_of HT_.out (by kernel_rfl)) (by decide) (fun K hK => ?_)
          refine Kd.R_lit_step (Kd.int .i64) _ 3 ?hg (N := 20) ?hd (xs := ([(rd_T62 l0 x13_1).f0] : List Int)) (inner := [.int .i64 ((rd_T62 l0 x13_1).f0)]) (ok := fun _ => True) (okp := fun _ => True) ?hr ?hp (fun _ hk => hk) trivial (Below.refl _ _) (Nat.le_refl _) (by simp) ?_; (case hd => rfl); (case hg => rfl); (case hr => first | (go_simp; done) | (go_simp; rfl)); (case hp => exact (Reps.one (show Kd.M (Kd.int .i64) _ _ _ ((rd_T62 l0 x13_1).f0) [.int .i64 ((rd_T62 l0 x13_1).f0)] from rfl) (Reps.none _ _)))
          intro v104 w15 ho16 hb hg_ hnew_
          clear hg_ hnew_
          (first | rw [← Ny103.out] at ho16 | (simp only [Int.reduceToNat] at ho16; rw [← Ny103.out] at ho16))
          have n0_ := Aside0.mk (Kd.R_elder' (by (with_reducible repeat (first | apply Kd.R_alloc | apply Kd.R_drewN | apply Kd.R_drew)); exact HO_5.out) (Kd.R_base ho16) hb)
          have n1_ := Aside0.mk (Kd.R_below (by (with_reducible repeat (first | apply Kd.R_alloc | apply Kd.R_drewN | apply Kd.R_drew)); exact HO_6.out) hb)
          have n2_ := Aside0.mk (Kd.R_below (by (with_reducible repeat (first | apply Kd.R_alloc | apply Kd.R_drewN | apply Kd.R_drew)); exact HO111.out) hb)
          have n3_ := Aside0.mk (Kd.R_lower (Kd.R_new' ho16 (Kd.R_lt (by (with_reducible repeat (first | apply Kd.R_alloc | apply Kd.R_drewN | apply Kd.R_drew)); exact HO_5.out))) (below_size (by repeat (first | (with_reducible first | exact HB.out | apply below_alloc | apply pw_below_drewN | apply below_drew1 | refine below_set ?_ GE102.out) | exact HB.out))))
          have n4_ := Aside0.mk (blk_below (g := gb102) (o := .cells #[.int .i64 ((rd_T62 l0 x13_1).f0), .int .i64 ((rd_T62 l0 x13_1).f1)] 62 (0, 0)) (by (with_reducible repeat (first | refine blk_drewN ?_ _ | refine blk_drew ?_ | refine blk_alloc ?_ _)); exact BK102.out) hb)
          have n5_ := Aside0.mk (below_step (by repeat (first | (with_reducible first | exact HB.out | apply below_alloc | apply pw_below_drewN | apply below_drew1 | refine below_set ?_ GE102.out) | exact HB.out)) hb)
          clear HO_5
          clear HO_6
          clear HO111
          clear BK102
          clear HB
          have HO_5 := n0_
          have HO_6 := n1_
          have HO111 := n2_
          have HO105 := n3_
          have BK102 := n4_
          have HB := n5_
          clear n0_ n1_ n2_ n3_ n4_ n5_
          clear hb ho16
          obtain ⟨Ao18, co18, eo18⟩ := Kd.R_slice HO105.out
          (first | subst eo18 | (injection eo18 with f1_ f2_ f3_; have f4_ := f1_.symm; have f5_ := f3_.symm; clear f1_ f2_ f3_; subst f4_; subst f5_))
          refine hK.out _ _ ⟨(blk_cell BK102.out 0).trans rfl, (blk_cell BK102.out 1).trans rfl⟩ (fun hHeld => ?_)
          clear hK K
          refine norm_ (a' := ?_) ?_ ?_
          rotate_left
          ·show Act.put _ (some 20) _ = _
           simp only [Act.put, List.setIfInBounds_toArray, List.set_cons_zero, List.set_cons_succ, i64_w, i32_w]
           rfl
          refine one_ (i := 4) (N := some 21) #[true, true, true, true, true, true, true, true, true, false, false, false] rfl rfl (one_of HT_.out (by kernel_rfl)) (by decide) (fun K hK => ?_)
          refine Kd.R_append_rows_step (Kd.int .i64) (w0 := w) w.heap.size (by rfl) (.tmp 17) (.tmp 20) 95 3 (.int .i64 0) 8 rfl Try.underlying95 info3 rfl (by decide) (by omega) (.slice Ao9 x5_1.length co9) x5_1 y103 _ _ _ (fun k_ => some k_ ≠ (.slice Ao18 y103.length co18 : Value).ownBlock) (fun _ => False) rfl rfl ?aO ?aR (fun _ _ h => h) (fun _ h => h.elim) ?aF ?aB ?aS ?aL ?_
          (case aR => repeat (first | exact (Kd.R_reads' HO105.out).2.2 | (with_reducible refine Kd.C_alloc ?_ _) | (with_reducible refine Kd.C_drewN ?_ _) | (with_reducible refine Kd.C_drew ?_)))
          (case aB => exact (by repeat (first | (with_reducible first | exact HB.out | apply below_alloc | apply pw_below_drewN | apply below_drew1 | refine below_set ?_ GE102.out) | exact HB.out)))
          (case aF => exact (fun k_ hk => Kd.fresh' (Kd.R_lt (by (with_reducible repeat (first | apply Kd.R_alloc | apply Kd.R_drewN | apply Kd.R_drew)); exact HO105.out)) k_ hk))
          (case aO => exact (by (with_reducible repeat (first | apply Kd.R_alloc | apply Kd.R_drewN | apply Kd.R_drew)); exact Kd.R_mono HO_5.out (fun _ hk => hk.2)))
          (case aS => exact (below_size (by repeat (first | (with_reducible first | exact HB.out | apply below_alloc | apply pw_below_drewN | apply below_drew1 | refine below_set ?_ GE102.out) | exact HB.out))))
          (case aL => have := LMc5.out; omega)
          intro v107 w17 ho hb hg hat
          rw [← Ny106.out] at ho
          have n0_ := Aside0.mk (Kd.R_over' (by (with_reducible repeat (first | apply Kd.R_alloc | apply Kd.R_drewN | apply Kd.R_drew)); exact HO_6.out) (Kd.R_typed (by (with_reducible repeat (first | apply Kd.R_alloc | apply Kd.R_drewN | apply Kd.R_drew)); exact HO_5.out)) (by decide) hg)
          have n1_ := Aside0.mk (blk_grown (g := gb102) (o := .cells #[.int .i64 ((rd_T62 l0 x13_1).f0), .int .i64 ((rd_T62 l0 x13_1).f1)] 62 (0, 0)) (by (with_reducible repeat (first | refine blk_drewN ?_ _ | refine blk_drew ?_ | refine blk_alloc ?_ _)); exact BK102.out) hg (Kd.R_ne HO_5.out BK102.out (by decide)))
          have n2_ := Aside0.mk (Kd.R_over' (by (with_reducible repeat (first | apply Kd.R_alloc | apply Kd.R_drewN | apply Kd.R_drew)); exact HO111.out) (Kd.R_typed (by (with_reducible repeat (first | apply Kd.R_alloc | apply Kd.R_drewN | apply Kd.R_drew)); exact HO_5.out)) (by decide) hg)
          have n3_ := Aside0.mk (Kd.R_after (ok := (fun _ => True)) (by (with_reducible repeat (first | apply Kd.R_alloc | apply Kd.R_drewN | apply Kd.R_drew)); exact HO105.out) hg hat)
          have n4_ := Aside0.mk (hb)
          have n5_ := Aside0.mk (ho)
          clear HO_6
          clear BK102
          clear HO111
          clear HO105
          clear HB
          clear HO_5
          have HO_6 := n0_
          have BK102 := n1_
          have HO111 := n2_
          have HO105 := n3_
          have HB := n4_
          have HO108 := n5_
          clear n0_ n1_ n2_ n3_ n4_ n5_
          clear ho hb hg hat
          refine hK.out _ _ ⟨(blk_cell BK102.out 0).trans rfl, (blk_cell BK102.out 1).trans rfl⟩ (fun hHeld => ?_)
          clear hK K
          refine norm_ (a' := ?_) ?_ ?_
          rotate_left
          ·show Act.put _ (some 21) _ = _
           simp only [Act.put, List.setIfInBounds_toArray, List.set_cons_zero, List.set_cons_succ, i64_w, i32_w]
           rfl
          exact norm_ (by simp only [putAll, Act.put, List.setIfInBounds_toArray, List.set_cons_zero, List.set_cons_succ]) (hCont (.slice Ao18 y103.length co18, v107, v110) _ ⟨hHeld, (by (with_reducible repeat (first | apply Kd.R_alloc | apply Kd.R_drewN | apply Kd.R_drew)); exact Kd.R_mono HO105.out (fun _ hk => hk.2)), (by (with_reducible repeat (first | apply Kd.R_alloc | apply Kd.R_drewN | apply Kd.R_drew)); exact HO108.out), (by (with_reducible repeat (first | apply Kd.R_alloc | apply Kd.R_drewN | apply Kd.R_drew)); exact Kd.R_mono HO111.out (fun _ hk => hk.2)), (by (with_reducible repeat (first | apply Kd.R_alloc | apply Kd.R_drewN | apply Kd.R_drew)); exact Kd.R_mono HO_6.out (fun _ hk => hk.2)), (by (with_reducible repeat (first | refine blk_drewN ?_ _ | refine blk_drew ?_ | refine blk_alloc ?_ _)); exact BK102.out), (by repeat (first | (with_reducible first | exact HB.out | apply below_alloc | apply pw_below_drewN | apply below_drew1 | refine below_set ?_ GE102.out) | exact HB.out))⟩)
        rintro ⟨v104, v107, v110⟩ w19 ⟨hS_, h0_, h1_, h2_, h3_, h4_, h5_⟩
        have n0_ : Aside0 (Kd.R (Kd.int .i64) 3 w19 w.heap.size (fun k_ => some k_ ≠ (v107 : Value).ownBlock) v104 y103) := ⟨h0_⟩
        have n1_ : Aside0 (Kd.R (Kd.int .i64) 3 w19 w.heap.size (fun k_ => some k_ ≠ (v104 : Value).ownBlock) v107 y106) := ⟨h1_⟩
        have n2_ : Aside0 (Kd.R (Kd.int .i64) 2 w19 w.heap.size (fun k_ => some k_ ≠ (.slice Ao10 x6_1.length co10 : Value).ownBlock) v110 y109) := ⟨h2_⟩
        have n3_ : Aside0 (Kd.R (Kd.int .i64) 2 w19 w.heap.size (fun k_ => some k_ ≠ (v110 : Value).ownBlock) (.slice Ao10 x6_1.length co10) x6_1) := ⟨h3_⟩
        have n4_ : Aside0 (w19.heap[gb102]? = some (.cells #[.int .i64 ((rd_T62 l0 x13_1).f0), .int .i64 ((rd_T62 l0 x13_1).f1)] 62 (0, 0))) := ⟨h4_⟩
        have n5_ : Aside0 (Below w.heap.size w w19) := ⟨h5_⟩
        clear HO_5
        clear HO_6
        clear BK102
        clear HB
        clear h0_ h1_ h2_ h3_ h4_ h5_
        have HO105 := n0_
        have HO108 := n1_
        have HO111 := n2_
        have HO_6 := n3_
        have BK102 := n4_
        have HB := n5_
        clear n0_ n1_ n2_ n3_ n4_ n5_
        have hHeld : w19.cell? ⟨gb102, 0, none⟩ = some (.int .i64 ((rd_T62 l0 x13_1).f0)) ∧ w19.cell? ⟨gb102, 1, none⟩ = some (.int .i64 ((rd_T62 l0 x13_1).f1)) := hS_
        obtain ⟨Ao21, co21, eo21⟩ := Kd.R_slice HO111.out
        (first | subst eo21 | (injection eo21 with f1_ f2_ f3_; have f4_ := f1_.symm; have f5_ := f3_.symm; clear f1_ f2_ f3_; subst f4_; subst f5_))
        refine norm_ (a' := ?_) ?_ ?_
        rotate_left
        ·simp only [putAll, Act.put, List.setIfInBounds_toArray, List.set_cons_zero, List.set_cons_succ]
         rfl
        refine one_ (i := 9) (N := some 26) #[true, true, true, true, true, true, true, true, true, true, false, false] rfl rfl (one_of HT_.out (by kernel_rfl)) (by decide) (fun K hK => ?_)
        refine Kd.R_append_rows_step (Kd.int .i64) (w0 := w) w.heap.size (by rfl) (.tmp 22) (.tmp 25) 28 2 (.int .i64 0) 8 rfl Try.underlying28 info2 rfl (by decide) (by omega) (.slice Ao10 x6_1.length co10) x6_1 y109 _ _ _ (fun k_ => some k_ ≠ (.slice Ao21 y109.length co21 : Value).ownBlock) (fun _ => False) rfl rfl ?aO ?aR (fun _ _ h => h) (fun _ h => h.elim) ?aF ?aB ?aS ?aL ?_
        (case aR => repeat (first | exact (Kd.R_reads' HO111.out).2.2 | (with_reducible refine Kd.C_alloc ?_ _) | (with_reducible refine Kd.C_drewN ?_ _) | (with_reducible refine Kd.C_drew ?_)))
        (case aB => exact (by repeat (first | (with_reducible first | exact HB.out | apply below_alloc | apply pw_below_drewN | apply below_drew1 | refine below_set ?_ GE102.out) | exact HB.out)))
        (case aF => exact (fun k_ hk => Kd.fresh' (Kd.R_lt (by (with_reducible repeat (first | apply Kd.R_alloc | apply Kd.R_drewN | apply Kd.R_drew)); exact HO111.out)) k_ hk))
        (case aO => exact (by (with_reducible repeat (first | apply Kd.R_alloc | apply Kd.R_drewN | apply Kd.R_drew)); exact HO_6.out))
        (case aS => exact (below_size (by repeat (first | (with_reducible first | exact HB.out | apply below_alloc | apply pw_below_drewN | apply below_drew1 | refine below_set ?_ GE102.out) | exact HB.out))))
        (case aL => have := LMc6.out; omega)
        intro v113 w20 ho hb hg hat
        rw [← Ny112.out] at ho
        have n0_ := Aside0.mk (blk_grown (g := gb102) (o := .cells #[.int .i64 ((rd_T62 l0 x13_1).f0), .int .i64 ((rd_T62 l0 x13_1).f1)] 62 (0, 0)) (by (with_reducible repeat (first | refine blk_drewN ?_ _ | refine blk_drew ?_ | refine blk_alloc ?_ _)); exact BK102.out) hg (Kd.R_ne HO_6.out BK102.out (by decide)))
        have n1_ := Aside0.mk (Kd.R_over' (by (with_reducible repeat (first | apply Kd.R_alloc | apply Kd.R_drewN | apply Kd.R_drew)); exact HO105.out) (Kd.R_typed (by (with_reducible repeat (first | apply Kd.R_alloc | apply Kd.R_drewN | apply Kd.R_drew)); exact HO_6.out)) (by decide) hg)
        have n2_ := Aside0.mk (Kd.R_over' (by (with_reducible repeat (first | apply Kd.R_alloc | apply Kd.R_drewN | apply Kd.R_drew)); exact HO108.out) (Kd.R_typed (by (with_reducible repeat (first | apply Kd.R_alloc | apply Kd.R_drewN | apply Kd.R_drew)); exact HO_6.out)) (by decide) hg)
        have n3_ := Aside0.mk (Kd.R_after (ok := (fun _ => True)) (by (with_reducible repeat (first | apply Kd.R_alloc | apply Kd.R_drewN | apply Kd.R_drew)); exact Kd.R_mono HO111.out (fun _ hk => ⟨trivial, hk⟩)) hg hat)
        have n4_ := Aside0.mk (hb)
        have n5_ := Aside0.mk (ho)
        clear BK102
        clear HO105
        clear HO108
        clear HO111
        clear HB
        clear HO_6
        have BK102 := n0_
        have HO105 := n1_
        have HO108 := n2_
        have HO111 := n3_
        have HB := n4_
        have HO114 := n5_
        clear n0_ n1_ n2_ n3_ n4_ n5_
        clear ho hb hg hat
        refine hK.out _ _ ⟨(blk_cell BK102.out 0).trans rfl, (blk_cell BK102.out 1).trans rfl⟩ (fun hHeld => ?_)
        clear hK K
        refine norm_ (a' := ?_) ?_ ?_
        rotate_left
        ·show Act.put _ (some 26) _ = _
         simp only [Act.put, List.setIfInBounds_toArray, List.set_cons_zero, List.set_cons_succ, i64_w, i32_w]
         rfl
        refine pure_ (i := 10) (N := some 5) (v := ?_) (a' := ?_) #[true, true, true, true, true, true, true, true, true, true, true, false] rfl rfl (any_of HT_.out (by kernel_rfl)) (fun _ _ _ h => h) (Or.inl ⟨by rfl, ?_⟩) ?_ ?_
        rotate_left
        ·intro w'
         go_simp
         with_reducible rfl
        rotate_left
        ·simp only [Act.put, List.setIfInBounds_toArray, List.set_cons_zero, List.set_cons_succ, i64_w, i32_w]
         rfl
        refine pure_ (i := 11) (N := some 6) (v := ?_) (a' := ?_) #[true, true, true, true, true, true, true, true, true, true, true, true] rfl rfl (any_of HT_.out (by kernel_rfl)) (fun _ _ _ h => h) (Or.inl ⟨by rfl, ?_⟩) ?_ ?_
        rotate_left
        ·intro w'
         go_simp
         with_reducible rfl
        rotate_left
        ·simp only [Act.put, List.setIfInBounds_toArray, List.set_cons_zero, List.set_cons_succ, i64_w, i32_w]
         rfl
        refine done_ (done_of HT_.out (by kernel_rfl)) ?_
        try go_wp2
        go_roundg k1
        case measure => have := HK1.out; omega
        case rel => exact ⟨(y106), (y112), (wrap64 (x13_1 + 1)), (by first | rfl | (simp; done) | (simp [*]; done)), H', ⟨by have := HK1.out; omega⟩, ⟨by (with_reducible repeat (first | apply Kd.R_alloc | apply Kd.R_drewN | apply Kd.R_drew)); exact Kd.R_mono HO108.out (fun _ hk => trivial)⟩, ⟨by (with_reducible repeat (first | apply Kd.R_alloc | apply Kd.R_drewN | apply Kd.R_drew)); exact Kd.R_mono HO114.out (fun _ hk => trivial)⟩, ⟨by repeat (first | (with_reducible first | exact HB.out | apply below_alloc | apply pw_below_drewN | apply below_drew1 | refine below_set ?_ GE102.out) | exact HB.out)⟩⟩
       ·rw [if_neg c6] at H
        exact absurd H (by simp)
      ·rw [if_neg c5] at H
       exact absurd H (by simp)
     ·rw [if_neg c4] at H
      exact absurd H (by simp)
    ·rw [if_neg c3] at H
     exact absurd H (by simp)
   ·rw [if_neg c2] at H
    have c2b0 : decide (x13_1 < (l0.length : Int)) = false := decide_eq_false c2
    clear c2
    replace H := Option.bind_eq_some_iff.mp H
    obtain ⟨⟨t115, t116⟩, A220, H⟩ := H
    replace H : (if t116 = 0 then (some (t115, x6_1, 0)) else (some (([] : List (S87)), ([] : List Int), t116))) = some (r1, r2, r3) := H
    have A22 := Aside0.mk A220
    clear A220
    by_cases c23 : t116 = 0
    ·rw [if_pos c23] at H
     have c23b0 : (t116 == 0) = true := beq_iff_eq.mpr c23
     have c23b1 : (t116 != 0) = false := bne_eq_false_iff_eq.mpr c23
     clear c23
     simp only [Option.some.injEq, Prod.mk.injEq] at H
     obtain ⟨rfl, rfl, rfl⟩ := H
     obtain ⟨Ao24, co24, eo24⟩ := Kd.R_slice HO_5.out
     subst eo24
     go_wp2_with (first | ((with_reducible refine gate_callee (f := 124) rfl ?_); refine goesL_ (some 30) rfl rfl Try.func124 (by kernel_rfl) rfl #[.slice Ao24 x5_1.length co24] rfl (by (try simp only [List.map_toArray, List.map_cons, List.map_nil]); first | done | rfl | (simp only [List.length_drop, List.length_take]; rfl)) ?_; (with_reducible refine (span_From.calls k1 _ _ x5_1 t115 t116 _ ?side1 ?side2 A22.out).mono ?_); (case side1 => repeat (first | exact (Kd.R_reads' HO_5.out).2.2 | (with_reducible refine Kd.C_alloc ?_ _) | (with_reducible refine Kd.C_drewN ?_ _) | (with_reducible refine Kd.C_drew ?_))); (case side2 => exact (Kd.R_reads' HO_5.out).2.1); rintro e w25 ⟨v117, rfl, ho0, hb⟩; refine ⟨_, rfl, ?_⟩; have n0_ := Aside0.mk (Kd.R_below (by (with_reducible repeat (first | apply Kd.R_alloc | apply Kd.R_drewN | apply Kd.R_drew)); exact HO_5.out) hb); have n1_ := Aside0.mk (Kd.R_below (by (with_reducible repeat (first | apply Kd.R_alloc | apply Kd.R_drewN | apply Kd.R_drew)); exact HO_6.out) hb); have n2_ := Aside0.mk (Kd.R_lower ho0 (below_size (by repeat (first | (with_reducible first | exact HB.out | apply below_alloc | apply pw_below_drewN | apply below_drew1) | exact HB.out)))); have n3_ := Aside0.mk (below_step (by repeat (first | (with_reducible first | exact HB.out | apply below_alloc | apply pw_below_drewN | apply below_drew1) | exact HB.out)) hb); clear HO_5; clear HO_6; clear HB; have HO_5 := n0_; have HO_6 := n1_; have HO118 := n2_; have HB := n3_; clear n0_ n1_ n2_ n3_; (try clear hb); (try clear hb2); (try clear hk); (try clear hi); (try clear ho0); clear A22))
     go_ret3
     exact ⟨_, _, by first | rfl | (simp [errW_none, errW_some] <;> rfl) | (simp [*, errW_none, errW_some] <;> rfl), by (with_reducible repeat (first | apply Kd.R_alloc | apply Kd.R_drewN | apply Kd.R_drew)); exact HO118.out, by (with_reducible repeat (first | apply Kd.R_alloc | apply Kd.R_drewN | apply Kd.R_drew)); exact HO_6.out, by repeat (first | (with_reducible first | exact HB.out | apply below_alloc | apply pw_below_drewN | apply below_drew1) | exact HB.out)⟩
    ·rw [if_neg c23] at H
     have c23b0 : (t116 == 0) = false := beq_eq_false_iff_ne.mpr c23
     have c23b1 : (t116 != 0) = true := bne_iff_ne.mpr c23
     simp only [Option.some.injEq, Prod.mk.injEq] at H
     obtain ⟨rfl, rfl, rfl⟩ := H
     obtain ⟨Ao26, co26, eo26⟩ := Kd.R_slice HO_5.out
     subst eo26
     go_wp2_with (first | ((with_reducible refine gate_callee (f := 124) rfl ?_); refine goesL_ (some 30) rfl rfl Try.func124 (by kernel_rfl) rfl #[.slice Ao26 x5_1.length co26] rfl (by (try simp only [List.map_toArray, List.map_cons, List.map_nil]); first | done | rfl | (simp only [List.length_drop, List.length_take]; rfl)) ?_; (with_reducible refine (span_From.calls k1 _ _ x5_1 t115 t116 _ ?side1 ?side2 A22.out).mono ?_); (case side1 => repeat (first | exact (Kd.R_reads' HO_5.out).2.2 | (with_reducible refine Kd.C_alloc ?_ _) | (with_reducible refine Kd.C_drewN ?_ _) | (with_reducible refine Kd.C_drew ?_))); (case side2 => exact (Kd.R_reads' HO_5.out).2.1); rintro e w27 ⟨v117, rfl, ho0, hb⟩; refine ⟨_, rfl, ?_⟩; have n0_ := Aside0.mk (Kd.R_below (by (with_reducible repeat (first | apply Kd.R_alloc | apply Kd.R_drewN | apply Kd.R_drew)); exact HO_5.out) hb); have n1_ := Aside0.mk (Kd.R_below (by (with_reducible repeat (first | apply Kd.R_alloc | apply Kd.R_drewN | apply Kd.R_drew)); exact HO_6.out) hb); have n2_ := Aside0.mk (Kd.R_lower ho0 (below_size (by repeat (first | (with_reducible first | exact HB.out | apply below_alloc | apply pw_below_drewN | apply below_drew1) | exact HB.out)))); have n3_ := Aside0.mk (below_step (by repeat (first | (with_reducible first | exact HB.out | apply below_alloc | apply pw_below_drewN | apply below_drew1) | exact HB.out)) hb); clear HO_5; clear HO_6; clear HB; have HO_5 := n0_; have HO_6 := n1_; have HO118 := n2_; have HB := n3_; clear n0_ n1_ n2_ n3_; (try clear hb); (try clear hb2); (try clear hk); (try clear hi); (try clear ho0); clear A22))
     go_ret3
     exact ⟨_, _, by first | rfl | (simp [errW_none, errW_some] <;> rfl) | (simp [*, errW_none, errW_some] <;> rfl), by first | exact Kd.R_nil _ _ _ _ _ | exact Kd.N_nil _ _ _ _ _ | exact Kd.V_nil _ _ _ _ _ | exact Kd.Q_nil _ _ _ _ _ | exact Kd.S_nil _ _ _ _ _, by first | exact Kd.R_nil _ _ _ _ _ | exact Kd.N_nil _ _ _ _ _ | exact Kd.V_nil _ _ _ _ _ | exact Kd.Q_nil _ _ _ _ _ | exact Kd.S_nil _ _ _ _ _, by repeat (first | (with_reducible first | exact HB.out | apply below_alloc | apply pw_below_drewN | apply below_drew1) | exact HB.out)⟩
def pairs_less.f (a0 : Int) (a1 : Int) : Option (Int × Bool) := some (wrap64 (a0 - a1), ((decide ((wrap64 (a0 - a1)) < a0)) == (decide (a1 > 0))))
set_option maxHeartbeats 8000000 in
set_option maxRecDepth 100000 in
theorem pairs_less.calls (a0 : Int) (a1 : Int) (r1 : Int) (r2 : Bool) (w : World) (h : pairs_less.f a0 a1 = some (r1, r2)) :
  Calls Try.prog 132 #[.int .i64 a0, .int .i64 a1] w fun e w' => e = .returned (.tuple #[.int .i64 r1, .bool r2]) ∧ Drawn0 w w' := by
 have H : (some (wrap64 (a0 - a1), ((decide ((wrap64 (a0 - a1)) < a0)) == (decide (a1 > 0))))) = some (r1, r2) := h
 clear h
 simp only [Option.some.injEq, Prod.mk.injEq] at H
 obtain ⟨rfl, rfl⟩ := H
 go_enter Try.func132, Try.ntmps132
 go_wp2
 go_ret2
 exact ⟨by first | rfl | (simp; done) | (simp [*]; done), by repeat (first | exact Drawn0.refl _ | apply Drawn0.step)⟩
def pairs_Deltas.l0 : Nat → List Int → Int → List Int → Int → Int → Option (List Int × Int)
 | 0, _, _, _, _, _ => none
 | k + 1, x4, x5, x10, x11, x12 => if x12 < x11 then (if 0 ≤ x12 then (if x12 < (x10.length : Int) then ((pairs_less.f (rd x10 x12) x5).bind fun bt102 => (if bt102.2 = true then (if x4.length < 17592186044416 then (pairs_Deltas.l0 k (x4 ++ [bt102.1]) (rd x10 x12) x10 x11 (wrap64 (x12 + 1))) else (none)) else (some (([] : List Int), 28)))) else (none)) else (none)) else (some (x4, 0))
def pairs_Deltas.f (k : Nat) (l0 : List Int) : Option (List Int × Int) := pairs_Deltas.l0 k ([] : List Int) 0 l0 (l0.length : Int) 0
set_option maxHeartbeats 8000000 in
set_option maxRecDepth 100000 in
theorem pairs_Deltas.calls (k : Nat) (A0 : Option Addr) (c0 : Nat) (l0 : List Int) (r1 : List Int) (r2 : Int) (w : World) (hr0 : Kd.C (Kd.int .i64) w A0 l0.length l0) (hc0 : l0.length ≤ c0) (h : pairs_Deltas.f k l0 = some (r1, r2)) :
  Calls Try.prog 115 #[.slice A0 l0.length c0] w fun e w' => ∃ v0_ : Value, e = .returned (.tuple #[v0_, .int .i64 r2]) ∧ Kd.R (Kd.int .i64) 2 w' w.heap.size (fun _ => True) v0_ r1 ∧ Below w.heap.size w w' := by
 have HR0 := Aside0.mk hr0
 have HC0 := Aside0.mk hc0
 clear hr0 hc0
 have HB := Aside0.mk (Below.refl w.heap.size w)
 have H : (pairs_Deltas.l0 k ([] : List Int) 0 l0 (l0.length : Int) 0) = some (r1, r2) := h
 clear h
 have H' := Aside0.mk H
 clear H
 go_enter Try.func115, Try.ntmps115
 go_wp2
 go_loopg [4, 5, 12] k (fun kq v4 v5 v12 w' => ∃ (x4_1 : List Int) (x5_1 : Int) (x12_1 : Int), v5 = .int .i64 x5_1 ∧ v12 = .int .i64 x12_1 ∧ Aside0 (pairs_Deltas.l0 kq x4_1 x5_1 l0 (l0.length : Int) x12_1 = some (r1, r2)) ∧ Aside0 (kq ≤ k) ∧ Aside0 (Kd.R (Kd.int .i64) 2 w' w.heap.size (fun _ => True) v4 x4_1) ∧ Aside0 (Below w.heap.size w w'))
 case atStart => exact ⟨(([] : List Int)), (0), (0), (by first | rfl | (simp; done) | (simp [*]; done)), (by first | rfl | (simp; done) | (simp [*]; done)), H', ⟨Nat.le_refl _⟩, ⟨by first | exact Kd.R_nil _ _ _ _ _ | exact Kd.N_nil _ _ _ _ _ | exact Kd.V_nil _ _ _ _ _ | exact Kd.Q_nil _ _ _ _ _ | exact Kd.S_nil _ _ _ _ _⟩, ⟨by repeat (first | (with_reducible first | exact HB.out | apply below_alloc | apply pw_below_drewN | apply below_drew1) | exact HB.out)⟩⟩
 case round =>
  clear H'
  try clear c1
  obtain ⟨x4_1, x5_1, x12_1, rfl, rfl, HA, HK1, HO_4, HB⟩ := hrel
  cases gk with
  | zero => exact absurd HA.out (by simp [pairs_Deltas.l0])
  | succ k1 =>
   have H := HA.out
   clear HA
   simp only [pairs_Deltas.l0] at H
   by_cases c2 : x12_1 < (l0.length : Int)
   ·rw [if_pos c2] at H
    have c2b0 : decide (x12_1 < (l0.length : Int)) = true := decide_eq_true c2
    clear c2
    by_cases c3 : 0 ≤ x12_1
    ·rw [if_pos c3] at H
     have c3b0 : decide (0 ≤ x12_1) = true := decide_eq_true c3
     clear c3
     by_cases c4 : x12_1 < (l0.length : Int)
     ·rw [if_pos c4] at H
      have c4b0 : decide (x12_1 < (l0.length : Int)) = true := decide_eq_true c4
      clear c4
      replace H := Option.bind_eq_some_iff.mp H
      obtain ⟨⟨t102, t103⟩, A50, H⟩ := H
      replace H : (if t103 = true then (if x4_1.length < 17592186044416 then (pairs_Deltas.l0 k1 (x4_1 ++ [t102]) (rd l0 x12_1) l0 (l0.length : Int) (wrap64 (x12_1 + 1))) else (none)) else (some (([] : List Int), 28))) = some (r1, r2) := H
      have A5 := Aside0.mk A50
      clear A50
      by_cases c6 : t103 = true
      ·subst c6
       have H1 : (if x4_1.length < 17592186044416 then (pairs_Deltas.l0 k1 (x4_1 ++ [t102]) (rd l0 x12_1) l0 (l0.length : Int) (wrap64 (x12_1 + 1))) else (none)) = some (r1, r2) := by rw [if_pos rfl] at H; exact H
       clear H
       have H := H1
       clear H1
       by_cases c7 : x4_1.length < 17592186044416
       ·rw [if_pos c7] at H
        have LMc7 := Aside0.mk c7
        clear c7
        obtain ⟨y104, hy104⟩ : ∃ y_ : List Int, y_ = (x4_1 ++ [t102]) := ⟨_, rfl⟩
        replace H : (pairs_Deltas.l0 k1 y104 (rd l0 x12_1) l0 (l0.length : Int) (wrap64 (x12_1 + 1))) = some (r1, r2) := by first | (rw [hy104]; with_reducible exact H) | (have H2_ := (Option.bind_some _ _).symm.trans H; rw [hy104]; with_reducible exact H2_) | (have H2_ := (Option.bind_some _ _).symm.trans H; with_reducible exact H2_) | with_reducible exact H | (rw [hy104]; exact H) | exact H
        have Ny104 := Aside0.mk hy104
        clear hy104
        have H' := Aside0.mk H
        clear H
        have p101 : 0 ≤ (x12_1 : Int) := of_decide_eq_true (by first | (with_reducible assumption) | assumption)
        have q101 : x12_1 < (l0.length : Int) := of_decide_eq_true (by first | (with_reducible assumption) | assumption)
        obtain ⟨ad101, e101, hx101_0⟩ := Kd.at_int HR0.out x12_1 p101 q101
        cases e101
        replace hx101_0 := (HB.out.cell (World.block_lt_of_cell? w _ hx101_0)).trans hx101_0
        replace p101 := eq_true p101
        replace q101 := eq_true q101
        go_wp2_with (first | ((with_reducible refine gate_callee (f := 132) rfl ?_); refine goesL_ (some 19) rfl rfl Try.func132 (by kernel_rfl) rfl #[.int .i64 (rd l0 x12_1), .int .i64 x5_1] rfl (by (try simp only [List.map_toArray, List.map_cons, List.map_nil]); first | done | rfl | (simp only [List.length_drop, List.length_take]; rfl)) ?_; (with_reducible refine (pairs_less.calls (rd l0 x12_1) x5_1 t102 true _ A5.out).mono ?_); rintro e w' ⟨rfl, ⟨nd, rfl⟩⟩; refine ⟨_, rfl, ?_⟩; clear A5) | ((with_reducible refine gate_builtin (b := .append) (xs := #[.tmp 24, .tmp 26]) rfl ?_); at_builtin; refine Kd.R_append (Kd.int .i64) (w0 := w) w.heap.size rfl (.tmp 24) (.tmp 26) 28 2 (.int .i64 0) 8 rfl Try.underlying28 info2 rfl (by decide) (by omega) u4 x4_1 t102 [.int .i64 t102] (fun _ => True) (fun _ => False) rfl rfl ?aP (fun _ hk => hk.elim) ?aF ?aO ?aB ?aS ?aL ?_; (case aP => exact rfl); (case aB => exact (by repeat (first | (with_reducible first | exact HB.out | apply below_alloc | apply pw_below_drewN | apply below_drew1) | exact HB.out))); (case aF => exact (fun _ _ => trivial)); (case aO => exact (by (with_reducible repeat (first | apply Kd.R_alloc | apply Kd.R_drewN | apply Kd.R_drew)); exact HO_4.out)); (case aS => exact (below_size (by repeat (first | (with_reducible first | exact HB.out | apply below_alloc | apply pw_below_drewN | apply below_drew1) | exact HB.out)))); (case aL => have := LMc7.out; omega); intro v105 w8 ho hb hg hat; rw [← Ny104.out] at ho; have n0_ := Aside0.mk (hb); have n1_ := Aside0.mk (ho); clear HB; clear HO_4; have HB := n0_; have HO106 := n1_; clear n0_ n1_; clear ho hb hg hat))
        go_roundg k1
        case measure => have := HK1.out; omega
        case rel => exact ⟨(y104), (rd l0 x12_1), (wrap64 (x12_1 + 1)), (by first | rfl | (simp; done) | (simp [*]; done)), (by first | rfl | (simp; done) | (simp [*]; done)), H', ⟨by have := HK1.out; omega⟩, ⟨by (with_reducible repeat (first | apply Kd.R_alloc | apply Kd.R_drewN | apply Kd.R_drew)); exact HO106.out⟩, ⟨by repeat (first | (with_reducible first | exact HB.out | apply below_alloc | apply pw_below_drewN | apply below_drew1) | exact HB.out)⟩⟩
       ·rw [if_neg c7] at H
        exact absurd H (by simp)
      ·replace c6 := Bool.eq_false_iff.mpr c6
       subst c6
       have H1 : (some (([] : List Int), 28)) = some (r1, r2) := by rw [if_neg (show ¬ (false = true) by decide)] at H; exact H
       clear H
       have H := H1
       clear H1
       simp only [Option.some.injEq, Prod.mk.injEq] at H
       obtain ⟨rfl, rfl⟩ := H
       have p101 : 0 ≤ (x12_1 : Int) := of_decide_eq_true (by first | (with_reducible assumption) | assumption)
       have q101 : x12_1 < (l0.length : Int) := of_decide_eq_true (by first | (with_reducible assumption) | assumption)
       obtain ⟨ad101, e101, hx101_0⟩ := Kd.at_int HR0.out x12_1 p101 q101
       cases e101
       replace hx101_0 := (HB.out.cell (World.block_lt_of_cell? w _ hx101_0)).trans hx101_0
       replace p101 := eq_true p101
       replace q101 := eq_true q101
       go_wp2_with (first | ((with_reducible refine gate_callee (f := 132) rfl ?_); refine goesL_ (some 19) rfl rfl Try.func132 (by kernel_rfl) rfl #[.int .i64 (rd l0 x12_1), .int .i64 x5_1] rfl (by (try simp only [List.map_toArray, List.map_cons, List.map_nil]); first | done | rfl | (simp only [List.length_drop, List.length_take]; rfl)) ?_; (with_reducible refine (pairs_less.calls (rd l0 x12_1) x5_1 t102 false _ A5.out).mono ?_); rintro e w' ⟨rfl, ⟨nd, rfl⟩⟩; refine ⟨_, rfl, ?_⟩; clear A5))
       go_ret2
       exact ⟨_, by first | rfl | (simp [errW_none, errW_some] <;> rfl) | (simp [*, errW_none, errW_some] <;> rfl), by first | exact Kd.R_nil _ _ _ _ _ | exact Kd.N_nil _ _ _ _ _ | exact Kd.V_nil _ _ _ _ _ | exact Kd.Q_nil _ _ _ _ _ | exact Kd.S_nil _ _ _ _ _, by repeat (first | (with_reducible first | exact HB.out | apply below_alloc | apply pw_below_drewN | apply below_drew1) | exact HB.out)⟩
     ·rw [if_neg c4] at H
      exact absurd H (by simp)
    ·rw [if_neg c3] at H
     exact absurd H (by simp)
   ·rw [if_neg c2] at H
    have c2b0 : decide (x12_1 < (l0.length : Int)) = false := decide_eq_false c2
    clear c2
    simp only [Option.some.injEq, Prod.mk.injEq] at H
    obtain ⟨rfl, rfl⟩ := H
    go_wp2
    go_ret2
    exact ⟨_, by first | rfl | (simp [errW_none, errW_some] <;> rfl) | (simp [*, errW_none, errW_some] <;> rfl), by (with_reducible repeat (first | apply Kd.R_alloc | apply Kd.R_drewN | apply Kd.R_drew)); exact HO_4.out, by repeat (first | (with_reducible first | exact HB.out | apply below_alloc | apply pw_below_drewN | apply below_drew1) | exact HB.out)⟩
end Go.Proofs.Ytgkplhdcafbfbaa.P
namespace Go.Proofs.Ytgkplhdcafbfbaa.P
open Go.RowKit Go.Proofs.YtgkplhdcafbfbaaW.PrintWords Go.Proofs.YtgkplhdcafbfbaaW.PrintLast Go.Proofs.YtgkplhdcafbfbaaW.PrintMore
abbrev Pr := S62
instance : DecidableEq Pr := fun a b => if h : a.f0 = b.f0 ∧ a.f1 = b.f1 then isTrue (by cases a; cases b; simp only at h; rw [h.1, h.2]) else isFalse (by rintro rfl; exact h ⟨rfl, rfl⟩)
theorem rdPr_at {l : List Pr} {i : Nat} (h : i < l.length) : rd_T62 l (i : Int) = l[i] := by unfold rd_T62; simp [List.getD, h]
def wfPrs (l : List Pr) : Prop := ∀ s ∈ l, i64 s.f0 ∧ i64 s.f1
theorem fromRes_ok {l : List Int} (h : (fromRes l).2 = 0) : rises (-1048576) l = true ∧ l.length ≤ 4096 ∧ (spansOf l).length ≤ 1024 ∧ (fromRes l).1 = spansOf l := by
  unfold fromRes at h ⊢
  split at h
  · rename_i hr
    split at h
    · cases h
    · split at h
      · cases h
      · refine ⟨hr, by omega, by omega, ?_⟩
        rw [if_pos hr, if_neg (by omega), if_neg (by omega)]
  · cases h
def unzipRes (l : List Pr) : List Sp × List Int × Int := if (fromRes (l.map (·.f0))).2 = 0 then ((fromRes (l.map (·.f0))).1, l.map (·.f1), 0) else ([], [], (fromRes (l.map (·.f0))).2)
theorem unzip_loop (l : List Pr) (hw : wfPrs l) (hm : l.length < 4398046511104) : ∀ (d k i : Nat), l.length - i = d → d + 2 * l.length + 1 < k → i ≤ l.length →
    pairs_Unzip_int64.l0 k ((l.take i).map (·.f0)) ((l.take i).map (·.f1)) l (l.length : Int) (i : Int) = some (unzipRes l) := by
  intro d
  induction d with
  | zero =>
    intro k i hd hk hi
    obtain ⟨k, rfl⟩ : ∃ m, k = m + 1 := ⟨k - 1, by omega⟩
    simp only [pairs_Unzip_int64.l0]
    rw [if_neg (by omega), List.take_of_length_le (by omega), from_eq _ (by intro x hx; obtain ⟨s, hs, rfl⟩ := List.mem_map.1 hx; exact (hw s hs).1) (by simpa using hm) k (by simp; omega)]
    simp only [Option.bind_some]
    unfold unzipRes
    split <;> rfl
  | succ d ih =>
    intro k i hd hk hi
    obtain ⟨k, rfl⟩ : ∃ m, k = m + 1 := ⟨k - 1, by omega⟩
    have hlt : i < l.length := by omega
    have hl1 : ((l.take i).map (·.f0)).length = i := by simp; omega
    have hl2 : ((l.take i).map (·.f1)).length = i := by simp; omega
    simp only [pairs_Unzip_int64.l0, Option.bind_some]
    rw [if_pos (by omega), if_pos (by omega), if_pos (by omega), hl1, hl2, rdPr_at hlt, if_pos (by simp; omega), if_pos (by simp; omega), wrap_succ (by omega), ← ih k (i + 1) (by omega) (by omega) (by omega), take_at hlt]
    simp only [List.map_append, List.map_cons, List.map_nil]
theorem unzip_eq (l : List Pr) (hw : wfPrs l) (hm : l.length < 4398046511104) (k : Nat) (hk : 3 * l.length + 1 < k) : pairs_Unzip_int64.f k l = some (unzipRes l) := by
  unfold pairs_Unzip_int64.f
  exact unzip_loop l hw hm l.length k 0 (by omega) (by omega) (by omega)
def zipRes (l : List Sp) (v : List Int) : List Pr × Int := if spCheck l = 0 then (if (plN 0 l).length = v.length then (List.zipWith (fun p x => (⟨p, x⟩ : Pr)) (plN 0 l) v, 0) else ([], 10)) else ([], spCheck l)
theorem zip_loop (ps v : List Int) (hl : ps.length = v.length) (hm : ps.length < 8796093022208) : ∀ (d k i : Nat), ps.length - i = d → d < k → i ≤ ps.length →
    pairs_Zip_int64.l0 k v (List.zipWith (fun p x => (⟨p, x⟩ : Pr)) (ps.take i) (v.take i)) ps (ps.length : Int) (i : Int) = some (List.zipWith (fun p x => (⟨p, x⟩ : Pr)) ps v, 0) := by
  intro d
  induction d with
  | zero =>
    intro k i hd hk hi
    obtain ⟨k, rfl⟩ : ∃ m, k = m + 1 := ⟨k - 1, by omega⟩
    simp only [pairs_Zip_int64.l0]
    rw [if_neg (by omega), List.take_of_length_le (by omega), List.take_of_length_le (by omega)]
  | succ d ih =>
    intro k i hd hk hi
    obtain ⟨k, rfl⟩ : ∃ m, k = m + 1 := ⟨k - 1, by omega⟩
    have hlt : i < ps.length := by omega
    have hlv : i < v.length := by omega
    have hl1 : (List.zipWith (fun p x => (⟨p, x⟩ : Pr)) (ps.take i) (v.take i)).length = i := by simp; omega
    simp only [pairs_Zip_int64.l0]
    rw [if_pos (by omega), if_pos (by omega), if_pos (by omega), if_pos (by omega), hl1, rd_at hlt, rd_at hlv, if_pos (by omega), wrap_succ (by omega), ← ih k (i + 1) (by omega) (by omega) (by omega), take_at hlt, take_at hlv, List.zipWith_append (by simp; omega)]
    rfl
theorem zip_eq (l : List Sp) (v : List Int) (hw : wfSps l) (k : Nat) (hk : 4100 < k) : pairs_Zip_int64.f k l v = some (zipRes l v) := by
  unfold pairs_Zip_int64.f zipRes
  rw [places_eq l hw k (by omega)]
  simp only [Option.bind_some, placesRes]
  by_cases h : spCheck l = 0
  · have hl := places_len h
    rw [if_pos h, if_pos h]
    simp only [if_true]
    by_cases h1 : (plN 0 l).length = v.length
    · rw [if_pos (by omega), if_pos h1]
      exact zip_loop (plN 0 l) v h1 (by omega) (plN 0 l).length k 0 (by omega) (by omega) (by omega)
    · rw [if_neg (by omega), if_neg h1]
  · rw [if_neg h, if_neg h]
    simp only
    rw [if_neg h]
theorem spansOf_check {l : List Int} (hr : rises (-1048576) l = true) (h1 : l.length ≤ 4096) (h2 : (spansOf l).length ≤ 1024) : spCheck (spansOf l) = 0 := by
  have h := spInv_take l hr
  unfold spCheck
  rw [if_neg (by omega), if_pos (h.right (by omega))]
theorem spansOf_wf {l : List Int} (hr : rises (-1048576) l = true) (h1 : l.length ≤ 4096) : wfSps (spansOf l) := by
  have h := spInv_take l hr
  intro s hs
  have := h.pos s hs
  exact ⟨⟨by omega, by omega⟩, ⟨by omega, by omega⟩⟩
end Go.Proofs.Ytgkplhdcafbfbaa.P
