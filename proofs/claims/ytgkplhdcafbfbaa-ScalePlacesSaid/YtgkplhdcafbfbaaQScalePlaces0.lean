/- ScalePlaces: the part that this text bears of the proof that the statement answers true for every input. No condition. -/
import Derived.Test.YtgkplhdcafbfbaaProg
import Derived.Below
import Derived.Deep.Draws
import Derived.Deep.AppendLies
import Derived.Maps.AppendAt
import Derived.OwnWalk
import Derived.Laws.BytesArg
import Derived.Laws.MakeOwn
import Derived.Laws.OwnMore
import Derived.Deep.OwnRows
import Derived.Tactics
import Derived.Lib.ConvBytes
import Derived.Laws.Slices
import Derived.WalkKit
import Derived.KernelRfl
import Derived.RowKit3
import Derived.Deep.LoopGhost
import Derived.Deep.QuietTactic
import Derived.BigQuiet
import Derived.WideLaws
import Derived.Deep.DeepCutAuto
import Derived.Deep.CutBlock
import Derived.Deep.RegionHeld3
import Derived.Laws.Rows
import Derived.Lib.AppendStr
import Derived.ArgAppend
import Derived.Laws.IdiomCopy
import Derived.OrdersHeld
import Derived.Laws.BitsLemmas
import Derived.RowKit
import Derived.Deep.Slices
import Derived.ChangeArms
import Derived.ProofKit
import Derived.JoinedOf
import Derived.Shelf.Abstract
import Derived.WalkSpells
import Derived.RangeFuncNested
import Derived.RangeFuncBound
import Derived.RangeFuncCalls
import Derived.RangeFuncLeaves
import Derived.RangeFuncBox
import Derived.OwnWalkIn
import Derived.TacticsInMore
import Derived.LoopNIn
import Derived.LoopIn
import Derived.Laws.Externs
import Derived.Shelf.Spec.BitsCarry
import Derived.RegionIn
import Derived.Sort.QuietTacIn
import Derived.Deep.RegionWith
import Derived.Laws.Tables
import Derived.Deep.WholeRow
import Derived.Laws.CopyOwn
import Derived.Laws.ResultCell
import Derived.Outline
import Derived.OpenShut
import Derived.ShutString
import Derived.ChangeOld
import Derived.SizedLaws
import Derived.Test.YtgkplhdcafbfbaaQScalePlacesWWords
import Derived.Test.YtgkplhdcafbfbaaQScalePlacesWLast
import Derived.Test.YtgkplhdcafbfbaaQScalePlacesWTab
import Derived.Test.YtgkplhdcafbfbaaQScalePlacesWFour
import Derived.Test.YtgkplhdcafbfbaaQScalePlacesWQPut
import Derived.Test.YtgkplhdcafbfbaaQScalePlacesWApart
import Derived.Test.YtgkplhdcafbfbaaQScalePlacesWArr
import Derived.Test.YtgkplhdcafbfbaaQScalePlacesWZeros
import Derived.Test.YtgkplhdcafbfbaaQScalePlacesWFoot
import Derived.Test.YtgkplhdcafbfbaaQScalePlacesWKept
import Derived.Test.YtgkplhdcafbfbaaQScalePlacesWShare
import Derived.Test.YtgkplhdcafbfbaaQScalePlacesWN
import Derived.Test.YtgkplhdcafbfbaaQScalePlacesWFootNe
import Derived.Test.YtgkplhdcafbfbaaQScalePlacesWAt
import Derived.Test.YtgkplhdcafbfbaaQScalePlacesWEqStruct
import Derived.Test.YtgkplhdcafbfbaaQScalePlacesWRepsOne
import Derived.Test.YtgkplhdcafbfbaaQScalePlacesWInv
import Derived.Test.YtgkplhdcafbfbaaQScalePlacesWInvWords
import Derived.Test.YtgkplhdcafbfbaaQScalePlacesWGuard
import Derived.Test.YtgkplhdcafbfbaaQScalePlacesWNEv
import Derived.Test.YtgkplhdcafbfbaaQScalePlacesWMore
import Derived.Test.YtgkplhdcafbfbaaRows
namespace Go.Proofs.Ytgkplhdcafbfbaa.P
open Go.RowKit Go.Proofs.YtgkplhdcafbfbaaW.PrintWords Go.Proofs.YtgkplhdcafbfbaaW.PrintLast Go.Proofs.YtgkplhdcafbfbaaW.PrintMore
attribute [local go_sem] max2_int min2_int max_two min_two max_three min_three max_four min_four
set_option linter.unusedVariables false
set_option linter.unusedSimpArgs false
def errW : Option Int → Value
 | none => .nilIface
 | some c => .iface 0 (.int .i64 c)
theorem errW_none : errW none = .nilIface := rfl
theorem errW_some (c : Int) : errW (some c) = .iface 0 (.int .i64 c) := rfl
theorem info2 : (Try.prog.info? 2).map (fun i => (i.zero, i.size, i.bytes)) = some (some (.int .i64 0), 1, 8) := by kernel_rfl
theorem info3 : (Try.prog.info? 3).map (fun i => (i.zero, i.size, i.bytes)) = some (some (.int .i64 0), 1, 8) := by kernel_rfl
theorem info26 : (Try.prog.info? 26).map (fun i => (i.zero, i.size, i.bytes)) = some (some (.int .u64 0), 1, 8) := by kernel_rfl
theorem info62 : (Try.prog.info? 62).map (fun i => (i.zero, i.size, i.bytes)) = some (some (.agg #[(.int .i64 0), (.int .i64 0)]), 2, 16) := by kernel_rfl
theorem info87 : (Try.prog.info? 87).map (fun i => (i.zero, i.size, i.bytes)) = some (some (.agg #[(.int .i64 0), (.int .i64 0)]), 2, 16) := by kernel_rfl
theorem info162 : (Try.prog.info? 162).map (fun i => (i.zero, i.size, i.bytes)) = some (some (.agg #[(.int .i64 0), (.int .u64 0)]), 2, 16) := by kernel_rfl
structure S87 where
 f0 : Int
 f1 : Int
def z87 : S87 := ⟨(0 : Int), (0 : Int)⟩
def k87 : Kd S87 := Kd.iso (Kd.pair (Kd.int .i64) (Kd.int .i64)) (fun x : S87 => (x.f0, x.f1))
theorem k87_open {w : World} {x : S87} {cs : List Value} (h : k87.K w x cs) : cs = [.int .i64 x.f0, .int .i64 x.f1] := by
 obtain ⟨_, _, rfl, rfl, rfl⟩ := h
 exact rfl
theorem k87_openM {w : World} {base : Nat} {ok : Nat → Prop} {x : S87} {cs : List Value} (h : k87.M w base ok x cs) : cs = [.int .i64 x.f0, .int .i64 x.f1] := by
 obtain ⟨_, _, rfl, rfl, rfl⟩ := h
 exact rfl
theorem k87_mkM (w : World) (base : Nat) (ok : Nat → Prop) (x : S87)  : k87.M w base ok x [.int .i64 x.f0, .int .i64 x.f1] := ⟨[.int .i64 x.f0], [.int .i64 x.f1], rfl, rfl, rfl⟩
def rd_T87 (xs : List S87) (i : Int) : S87 := xs.getD i.toNat z87
theorem at_T87 {w : World} {A : Option Addr} {n : Nat} {xs : List S87} (h : Kd.C k87 w A n xs) (i : Int) (h0 : 0 ≤ i) (h1 : i < n) : ∃ ad , A = some ad ∧ w.cell? (ad.add (i.toNat * 2)) = some (.int .i64 (rd_T87 xs i).f0) ∧ w.cell? ⟨(ad.add (i.toNat * 2)).block, (ad.add (i.toNat * 2)).off + 1, none⟩ = some (.int .i64 (rd_T87 xs i).f1) := by
 obtain ⟨ad, c, e, _, hK, hc0⟩ := Kd.C_get h z87 i h0 h1
 have hc : ∀ j u, c[j]? = some u → w.cell? (ad.add (i.toNat * 2 + j)) = some u := hc0
 obtain rfl := k87_open hK
 exact ⟨ad, e, hc 0 _ rfl, by rw [← add_field _ _ 1 (by omega)]; exact hc 1 _ rfl⟩
structure S62 where
 f0 : Int
 f1 : Int
def z62 : S62 := ⟨(0 : Int), (0 : Int)⟩
def k62 : Kd S62 := Kd.iso (Kd.pair (Kd.int .i64) (Kd.int .i64)) (fun x : S62 => (x.f0, x.f1))
theorem k62_open {w : World} {x : S62} {cs : List Value} (h : k62.K w x cs) : cs = [.int .i64 x.f0, .int .i64 x.f1] := by
 obtain ⟨_, _, rfl, rfl, rfl⟩ := h
 exact rfl
theorem k62_openM {w : World} {base : Nat} {ok : Nat → Prop} {x : S62} {cs : List Value} (h : k62.M w base ok x cs) : cs = [.int .i64 x.f0, .int .i64 x.f1] := by
 obtain ⟨_, _, rfl, rfl, rfl⟩ := h
 exact rfl
theorem k62_mkM (w : World) (base : Nat) (ok : Nat → Prop) (x : S62)  : k62.M w base ok x [.int .i64 x.f0, .int .i64 x.f1] := ⟨[.int .i64 x.f0], [.int .i64 x.f1], rfl, rfl, rfl⟩
def rd_T62 (xs : List S62) (i : Int) : S62 := xs.getD i.toNat z62
theorem at_T62 {w : World} {A : Option Addr} {n : Nat} {xs : List S62} (h : Kd.C k62 w A n xs) (i : Int) (h0 : 0 ≤ i) (h1 : i < n) : ∃ ad , A = some ad ∧ w.cell? (ad.add (i.toNat * 2)) = some (.int .i64 (rd_T62 xs i).f0) ∧ w.cell? ⟨(ad.add (i.toNat * 2)).block, (ad.add (i.toNat * 2)).off + 1, none⟩ = some (.int .i64 (rd_T62 xs i).f1) := by
 obtain ⟨ad, c, e, _, hK, hc0⟩ := Kd.C_get h z62 i h0 h1
 have hc : ∀ j u, c[j]? = some u → w.cell? (ad.add (i.toNat * 2 + j)) = some u := hc0
 obtain rfl := k62_open hK
 exact ⟨ad, e, hc 0 _ rfl, by rw [← add_field _ _ 1 (by omega)]; exact hc 1 _ rfl⟩
structure S30 where
 f0 : Int
 f1 : Int
 f2 : Int
 f3 : Int
 f4 : Int
 f5 : (List S87)
 f6 : (List S87)
 f7 : (List Int)
 f8 : (List Int)
structure S162 where
 f0 : Int
 f1 : Int
def z162 : S162 := ⟨(0 : Int), (0 : Int)⟩
def k162 : Kd S162 := Kd.iso (Kd.pair (Kd.int .i64) (Kd.int .u64)) (fun x : S162 => (x.f0, x.f1))
theorem k162_open {w : World} {x : S162} {cs : List Value} (h : k162.K w x cs) : cs = [.int .i64 x.f0, .int .u64 x.f1] := by
 obtain ⟨_, _, rfl, rfl, rfl⟩ := h
 exact rfl
theorem k162_openM {w : World} {base : Nat} {ok : Nat → Prop} {x : S162} {cs : List Value} (h : k162.M w base ok x cs) : cs = [.int .i64 x.f0, .int .u64 x.f1] := by
 obtain ⟨_, _, rfl, rfl, rfl⟩ := h
 exact rfl
theorem k162_mkM (w : World) (base : Nat) (ok : Nat → Prop) (x : S162)  : k162.M w base ok x [.int .i64 x.f0, .int .u64 x.f1] := ⟨[.int .i64 x.f0], [.int .u64 x.f1], rfl, rfl, rfl⟩
def rd_T162 (xs : List S162) (i : Int) : S162 := xs.getD i.toNat z162
theorem at_T162 {w : World} {A : Option Addr} {n : Nat} {xs : List S162} (h : Kd.C k162 w A n xs) (i : Int) (h0 : 0 ≤ i) (h1 : i < n) : ∃ ad , A = some ad ∧ w.cell? (ad.add (i.toNat * 2)) = some (.int .i64 (rd_T162 xs i).f0) ∧ w.cell? ⟨(ad.add (i.toNat * 2)).block, (ad.add (i.toNat * 2)).off + 1, none⟩ = some (.int .u64 (rd_T162 xs i).f1) := by
 obtain ⟨ad, c, e, _, hK, hc0⟩ := Kd.C_get h z162 i h0 h1
 have hc : ∀ j u, c[j]? = some u → w.cell? (ad.add (i.toNat * 2 + j)) = some u := hc0
 obtain rfl := k162_open hK
 exact ⟨ad, e, hc 0 _ rfl, by rw [← add_field _ _ 1 (by omega)]; exact hc 1 _ rfl⟩
structure S104 where
 f0 : Int
 f1 : Int
def k104 : Kd S104 := Kd.iso (Kd.pair (Kd.int .i64) (Kd.int .i64)) (fun x : S104 => (x.f0, x.f1))
end Go.Proofs.Ytgkplhdcafbfbaa.P
namespace Go.Proofs.Ytgkplhdcafbfbaa.P
open Go.RowKit Go.Proofs.YtgkplhdcafbfbaaW.PrintWords Go.Proofs.YtgkplhdcafbfbaaW.PrintLast Go.Proofs.YtgkplhdcafbfbaaW.PrintMore
attribute [local go_sem] max2_int min2_int max_two min_two max_three min_three max_four min_four
set_option linter.unusedVariables false
set_option linter.unusedSimpArgs false
structure S46 where
 f0 : Int
 f1 : Int
 f2 : Int
 f3 : Int
 f4 : Int
 f5 : (List S87)
 f6 : (List S87)
 f7 : (List Int)
 f8 : (List Int)
end Go.Proofs.Ytgkplhdcafbfbaa.P
namespace Go.Proofs.Ytgkplhdcafbfbaa.P
open Go.RowKit Go.Proofs.YtgkplhdcafbfbaaW.PrintWords Go.Proofs.YtgkplhdcafbfbaaW.PrintLast Go.Proofs.YtgkplhdcafbfbaaW.PrintMore
attribute [local go_sem] max2_int min2_int max_two min_two max_three min_three max_four min_four
set_option linter.unusedVariables false
set_option linter.unusedSimpArgs false
def inI (k : IntKind) (n : Int) : Prop := (Lit.int k n).wf = true
theorem inI_i64 {n : Int} (h : inI .i64 n) : -9223372036854775808 ≤ n ∧ n ≤ 9223372036854775807 := by
 have h2 : (Lit.int .i64 n).wf = true := h
 have e : IntKind.i64.min = -9223372036854775808 := by decide
 simp [Lit.wf, e] at h2
 exact h2
def Opens {α : Type} (P : Program) (t : TypeId) (d : Kd α) (wf : α → Prop) : Prop := ∀ {H : Type} (enc : TypeId × Value → H) (w : World) (base : Nat) (sp : Nat → Bool) (held : Bool) (fuel : Nat) (cs : List Value) (x : DataW H × List MemPlace),
 DataW.trod enc P w base sp held fuel t cs = some x → ∃ y, d.K w y cs ∧ wf y
theorem opens_int {P : Program} {t : TypeId} {k : IntKind} (ht : P.underlying t = some (.int k)) : Opens P t (Kd.int k) (inI k) := by
 intro H enc w base sp held fuel cs x h
 obtain ⟨n, rfl, _, hw⟩ := DataW.trod_int ht h
 exact ⟨n, rfl, hw⟩
end Go.Proofs.Ytgkplhdcafbfbaa.P
namespace Go.Proofs.Ytgkplhdcafbfbaa.P
def headSigns : List Char := List.map Char.ofNat [104, 97, 114, 110, 101, 115, 115, 32, 48, 57, 48, 56, 53, 100, 56, 99, 51, 55, 101, 56, 50, 49, 53, 48, 57, 56, 101, 48, 49, 53, 51, 97, 99, 99, 48, 52, 50, 54, 48, 49, 53, 57, 50, 102, 50, 57, 100, 102, 50, 49, 99, 99, 57, 99, 51, 52, 101, 49, 57, 51, 98, 48, 55, 51, 55, 49, 53, 100, 98, 97, 101, 100, 32, 99, 117, 116, 32, 97, 116, 32, 116, 105, 100, 101, 112, 111, 108, 101, 47, 116, 105, 100, 101, 112, 111, 108, 101, 108, 97, 119, 50, 53, 46, 83, 99, 97, 108, 101, 80, 108, 97, 99, 101, 115, 32, 116, 105, 100, 101, 112, 111, 108, 101, 47, 116, 105, 100, 101, 112, 111, 108, 101, 108, 97, 119, 50, 53, 46, 83, 99, 97, 108, 101, 73, 110, 116, 115, 32, 116, 105, 100, 101, 112, 111, 108, 101, 47, 116, 105, 100, 101, 112, 111, 108, 101, 108, 97, 119, 50, 53, 46, 83, 99, 97, 108, 101, 70, 108, 111, 97, 116, 115, 32, 116, 105, 100, 101, 112, 111, 108, 101, 47, 116, 105, 100, 101, 112, 111, 108, 101, 108, 97, 119, 50, 53, 46, 83, 99, 97, 108, 101, 75, 101, 101, 112, 115, 32, 116, 105, 100, 101, 112, 111, 108, 101, 47, 116, 105, 100, 101, 112, 111, 108, 101, 108, 97, 119, 50, 53, 46, 83, 99, 97, 108, 101, 70, 105, 116, 115, 32, 116, 105, 100, 101, 112, 111, 108, 101, 47, 116, 105, 100, 101, 112, 111, 108, 101, 108, 97, 119, 50, 53, 46, 83, 99, 97, 108, 101, 84, 119, 105, 99, 101, 32, 116, 105, 100, 101, 112, 111, 108, 101, 47, 116, 105, 100, 101, 112, 111, 108, 101, 108, 97, 119, 50, 53, 46, 83, 99, 97, 108, 101, 82, 101, 115, 101, 116, 115, 32, 116, 105, 100, 101, 112, 111, 108, 101, 47, 116, 105, 100, 101, 112, 111, 108, 101, 108, 97, 119, 50, 57, 46, 82, 97, 110, 107, 83, 99, 97, 108, 101, 115]
theorem head_is : Try.prog.initOrder = String.ofList headSigns := by kernel_rfl
theorem head_signs : Try.prog.initOrder.toList = headSigns := by rw [head_is]; exact String.toList_ofList
theorem head_first : (behindMainWord (wordsSigns headSigns)).head? = some "cut".toList := by kernel_rfl
theorem head_words : ∃ r, behindMainWord (wordsSigns headSigns) = "cut".toList :: r := by have h := head_first; cases h2 : behindMainWord (wordsSigns headSigns) with | nil => rw [h2] at h; cases h | cons c r => rw [h2] at h; injection h with h; exact ⟨r, by rw [h]⟩
theorem strip_cut (r : List (List Char)) : stripLifts liftWords ("cut".toList :: r) = ([], "cut".toList :: r) := by kernel_rfl
theorem head_lifts : Try.prog.headLifts = [] := by obtain ⟨r, hr⟩ := head_words; unfold Program.headLifts; rw [head_signs, hr, strip_cut]; kernel_rfl
theorem head_doorFits : Try.prog.doorFits [] = true := by kernel_rfl
theorem head_laysLater : Try.prog.laysLater = false := by kernel_rfl
theorem head_bearsReflect : Try.prog.bearsReflect = false := by kernel_rfl
theorem mayEnter_of {P : Program} {L : List Char} {r : List (List Char)} (h1 : P.initOrder.toList = L) (h2 : behindMainWord (wordsSigns L) = "cut".toList :: r) (h3 : P.doorFits [] = true) (h4 : P.laysLater = false) (h5 : P.bearsReflect = false) : P.mayEnter = true := by unfold Program.mayEnter; rw [h1, h2]; simp only [strip_cut, h3, h4, h5]; kernel_rfl
theorem head_mayEnter : Try.prog.mayEnter = true := by obtain ⟨r, hr⟩ := head_words; exact mayEnter_of head_signs hr head_doorFits head_laysLater head_bearsReflect
theorem head_liftsFinal : Try.prog.liftsFinal = false := by obtain ⟨r, hr⟩ := head_words; unfold Program.liftsFinal; rw [head_signs, head_lifts, hr]; kernel_rfl
theorem make_of {P : Program} {L : List Char} {r : List (List Char)} (h1 : P.initOrder.toList = L) (h2 : behindMainWord (wordsSigns L) = "cut".toList :: r) : P.make = some .cut := by unfold Program.make; rw [h1, h2]; kernel_rfl
theorem head_make : Try.prog.make = some .cut := by obtain ⟨r, hr⟩ := head_words; exact make_of head_signs hr
theorem head_laidOut : laidOutB Try.prog = true := by kernel_rfl
theorem head_mapsRowed : mapsRowed Try.prog = true := by kernel_rfl
theorem head_stops : (Try.prog.stops == []) = true := by kernel_rfl
theorem head_stopKnobs : (Try.prog.stopKnobs == []) = true := by kernel_rfl
theorem head_plainKeys : Try.prog.plainKeys = true := by kernel_rfl
theorem head_stopsHeard : Try.prog.stopsHeard = true := by kernel_rfl
end Go.Proofs.Ytgkplhdcafbfbaa.P
namespace Go.Proofs.Ytgkplhdcafbfbaa.P
open Go.RowKit Go.Proofs.YtgkplhdcafbfbaaW.PrintWords Go.Proofs.YtgkplhdcafbfbaaW.PrintLast Go.Proofs.YtgkplhdcafbfbaaW.PrintMore
attribute [local go_sem] max2_int min2_int max_two min_two max_three min_three max_four min_four
set_option linter.unusedVariables false
set_option linter.unusedSimpArgs false
def scale_Place.j0 : Nat → Int → Int → Bool → Option (Int)
 | 0, _, _, _ => none
 | k + 1, x0, x1, x11 => if x11 = true then (some x0) else (if 0 ≤ x1 then (if (shl .i64 (shr .i64 x0 x1) x1) = x0 then (some (shr .i64 x0 x1)) else (some (wrap64 ((shr .i64 x0 x1) + 1)))) else (none))
def scale_Place.f (k : Nat) (a0 : Int) (a1 : Int) : Option (Int) := if a1 < 0 then (scale_Place.j0 k a0 a1 true) else (scale_Place.j0 k a0 a1 (decide (a1 > 62)))
set_option maxHeartbeats 8000000 in
set_option maxRecDepth 100000 in
theorem scale_Place.calls (k : Nat) (a0 : Int) (a1 : Int) (r : Int) (w : World) (h : scale_Place.f k a0 a1 = some r) :
  Calls Try.prog 11 #[.int .i64 a0, .int .i64 a1] w fun e w' => e = .returned (.int .i64 r) ∧ Drawn0 w w' := by
 have H : (if a1 < 0 then (scale_Place.j0 k a0 a1 true) else (scale_Place.j0 k a0 a1 (decide (a1 > 62)))) = some r := h
 clear h
 have HC3 := Aside0.mk H
 clear H
 go_enter Try.func11, Try.ntmps11
 go_upto_region 1 with (fail)
 go_cut [11] (fun v11 wc => ∃ (kq : Nat) (x11_2 : Bool), v11 = .bool x11_2 ∧ Aside0 (scale_Place.j0 kq a0 a1 x11_2 = some r) ∧ Aside0 (kq ≤ k) ∧ Drawn0 w wc)
 case first =>
  have H := HC3.out
  clear HC3
  by_cases c4 : a1 < 0
  ·rw [if_pos c4] at H
   have c4b0 : decide (a1 < 0) = true := decide_eq_true c4
   clear c4
   (first | rw [c4b0] | (simp only [i64_w, i32_w]; rw [c4b0]) | skip)
   have H' := Aside0.mk H
   clear H
   go_wp2
   go_meet
   case rel => exact ⟨_, (true), (by first | rfl | (simp; done) | (simp [*]; done)), H', ⟨by first | omega | exact Nat.le_refl _⟩, by repeat (first | exact Drawn0.refl _ | apply Drawn0.step)⟩
  ·rw [if_neg c4] at H
   have c4b0 : decide (a1 < 0) = false := decide_eq_false c4
   clear c4
   (first | rw [c4b0] | (simp only [i64_w, i32_w]; rw [c4b0]) | skip)
   have H' := Aside0.mk H
   clear H
   go_wp2
   go_meet
   case rel => exact ⟨_, (decide (a1 > 62)), (by first | rfl | (simp; done) | (simp [*]; done)), H', ⟨by first | omega | exact Nat.le_refl _⟩, by repeat (first | exact Drawn0.refl _ | apply Drawn0.step)⟩
 case rest =>
  clear HC3
  try clear c1
  try clear p2
  try clear c4
  try clear c4b0
  obtain ⟨kq, x11_2, rfl, HA, HJ2, ⟨mc2, rfl⟩⟩ := hcut
  cases kq with
  | zero => exact absurd HA.out (by simp [scale_Place.j0])
  | succ kj2 =>
   have H := HA.out
   clear HA
   simp only [scale_Place.j0] at H
   by_cases c5 : x11_2 = true
   ·subst c5
    have H1 : (some a0) = some r := by rw [if_pos rfl] at H; exact H
    clear H
    have H := H1
    clear H1
    obtain rfl := Option.some.inj H
    go_wp2
    go_ret
    exact ⟨by first | rfl | (simp; done) | (simp [*]; done), by repeat (first | exact Drawn0.refl _ | apply Drawn0.step)⟩
   ·replace c5 := Bool.eq_false_iff.mpr c5
    subst c5
    have H1 : (if 0 ≤ a1 then (if (shl .i64 (shr .i64 a0 a1) a1) = a0 then (some (shr .i64 a0 a1)) else (some (wrap64 ((shr .i64 a0 a1) + 1)))) else (none)) = some r := by rw [if_neg (show ¬ (false = true) by decide)] at H; exact H
    clear H
    have H := H1
    clear H1
    by_cases c6 : 0 ≤ a1
    ·rw [if_pos c6] at H
     have c6b0 := eq_true c6
     have c6b1 : decide (0 ≤ a1) = true := decide_eq_true c6
     clear c6
     obtain ⟨ji7, hji7⟩ : ∃ j_ : Int, (shr .i64 a0 a1) = j_ := ⟨_, rfl⟩
     replace H : (if (shl .i64 (ji7) a1) = a0 then (some ji7) else (some (wrap64 ((ji7) + 1)))) = some r := by first | (rw [hji7] at H; exact H) | (simp only [hji7] at H ⊢; exact H)
     have hji7_ : (a0 / 2 ^ min a1.toNat 64) = ji7 := hji7
     have hji7z : a1 ≤ 64 → (a0 / 2 ^ a1.toNat) = ji7 := shr_small hji7
     have c8b0 := eq_true (of_decide_eq_true (by first | (with_reducible assumption) | assumption) : 0 ≤ a1)
     obtain ⟨ji9, hji9⟩ : ∃ j_ : Int, (shl .i64 (ji7) a1) = j_ := ⟨_, rfl⟩
     replace H : (if (ji9) = a0 then (some ji7) else (some (wrap64 ((ji7) + 1)))) = some r := by first | (rw [hji9] at H; exact H) | (simp only [hji9] at H ⊢; exact H)
     have hji9_ : (IntKind.i64.wrap ((ji7) * 2 ^ min a1.toNat 64)) = ji9 := hji9
     have hji9z : a1 ≤ 64 → (IntKind.i64.wrap ((ji7) * 2 ^ a1.toNat)) = ji9 := shl_small hji9
     have hji9y : (wrap64 ((ji7) * 2 ^ min a1.toNat 64)) = ji9 := (i64_w _).symm.trans hji9_
     have hji9x : a1 ≤ 64 → (wrap64 ((ji7) * 2 ^ a1.toNat)) = ji9 := fun h_ => (i64_w _).symm.trans (hji9z h_)
     by_cases c10 : (ji9) = a0
     ·rw [if_pos c10] at H
      have c10b0 : ((ji9) == a0) = true := beq_iff_eq.mpr c10
      have c10b1 : ((ji9) != a0) = false := bne_eq_false_iff_eq.mpr c10
      clear c10
      obtain rfl := Option.some.inj H
      go_wp2
      go_ret
      exact ⟨by first | rfl | (simp; done) | (simp only [← hji7, ← hji9] <;> (first | rfl | simp)) | (simp [*]; done), by repeat (first | exact Drawn0.refl _ | apply Drawn0.step)⟩
     ·rw [if_neg c10] at H
      have c10b0 : ((ji9) == a0) = false := beq_eq_false_iff_ne.mpr c10
      have c10b1 : ((ji9) != a0) = true := bne_iff_ne.mpr c10
      obtain rfl := Option.some.inj H
      go_wp2
      go_ret
      exact ⟨by first | rfl | (simp; done) | (simp only [← hji7, ← hji9] <;> (first | rfl | simp)) | (simp [*]; done), by repeat (first | exact Drawn0.refl _ | apply Drawn0.step)⟩
    ·rw [if_neg c6] at H
     exact absurd H (by simp)
def scale_wrong.f (a0 : Int) (a1 : Int) : Option (Bool) := if a1 < (-4) then (some true) else (some (decide (a1 > a0)))
set_option maxHeartbeats 8000000 in
set_option maxRecDepth 100000 in
theorem scale_wrong.calls (a0 : Int) (a1 : Int) (r : Bool) (w : World) (h : scale_wrong.f a0 a1 = some r) :
  Calls Try.prog 40 #[.int .i64 a0, .int .i64 a1] w fun e w' => e = .returned (.bool r) ∧ Drawn0 w w' := by
 have H : (if a1 < (-4) then (some true) else (some (decide (a1 > a0)))) = some r := h
 clear h
 by_cases c3 : a1 < (-4)
 ·rw [if_pos c3] at H
  have c3b0 : decide (a1 < (-4)) = true := decide_eq_true c3
  clear c3
  obtain rfl := Option.some.inj H
  go_enter Try.func40, Try.ntmps40
  go_wp2
  go_ret
  exact ⟨by first | rfl | (simp; done) | (simp [*]; done), by repeat (first | exact Drawn0.refl _ | apply Drawn0.step)⟩
 ·rw [if_neg c3] at H
  have c3b0 : decide (a1 < (-4)) = false := decide_eq_false c3
  clear c3
  obtain rfl := Option.some.inj H
  go_enter Try.func40, Try.ntmps40
  go_wp2
  go_ret
  exact ⟨by first | rfl | (simp; done) | (simp [*]; done), by repeat (first | exact Drawn0.refl _ | apply Drawn0.step)⟩
def scale_whole.f (a0 : Int) (a1 : Int) : Option (Int × Bool) := some (wrap64 (a0 + a1), decide (a0 ≤ (wrap64 (9223372036854775807 - a1))))
set_option maxHeartbeats 8000000 in
set_option maxRecDepth 100000 in
theorem scale_whole.calls (a0 : Int) (a1 : Int) (r1 : Int) (r2 : Bool) (w : World) (h : scale_whole.f a0 a1 = some (r1, r2)) :
  Calls Try.prog 42 #[.int .i64 a0, .int .i64 a1] w fun e w' => e = .returned (.tuple #[.int .i64 r1, .bool r2]) ∧ Drawn0 w w' := by
 have H : (some (wrap64 (a0 + a1), decide (a0 ≤ (wrap64 (9223372036854775807 - a1))))) = some (r1, r2) := h
 clear h
 simp only [Option.some.injEq, Prod.mk.injEq] at H
 obtain ⟨rfl, rfl⟩ := H
 go_enter Try.func42, Try.ntmps42
 go_wp2
 go_ret2
 exact ⟨by first | rfl | (simp; done) | (simp [*]; done), by repeat (first | exact Drawn0.refl _ | apply Drawn0.step)⟩
end Go.Proofs.Ytgkplhdcafbfbaa.P
namespace Go.Proofs.Ytgkplhdcafbfbaa.P
open Go.RowKit Go.Proofs.YtgkplhdcafbfbaaW.PrintWords Go.Proofs.YtgkplhdcafbfbaaW.PrintLast Go.Proofs.YtgkplhdcafbfbaaW.PrintMore
attribute [local go_sem] max2_int min2_int max_two min_two max_three min_three max_four min_four
set_option linter.unusedVariables false
set_option linter.unusedSimpArgs false
mutual
def tidepoleref25_Place.j0 : Nat → Int → Int → Bool → Option (Int)
 | 0, _, _, _ => none
 | k + 1, x0, x1, x13 => if x13 = true then (some x0) else (tidepoleref25_Place.l0 k x0 x1 1 0)
def tidepoleref25_Place.l0 : Nat → Int → Int → Int → Int → Option (Int)
 | 0, _, _, _, _ => none
 | k + 1, x0, x1, x5, x6 => if x6 < x1 then (tidepoleref25_Place.l0 k x0 x1 (wrap64 (x5 * 2)) (wrap64 (x6 + 1))) else (if x5 = 0 then (none) else (if x0 > 0 then (if (wrap64 ((wrap64 (Int.tdiv x0 x5)) * x5)) = x0 then (some (wrap64 (Int.tdiv x0 x5))) else (some (wrap64 ((wrap64 (Int.tdiv x0 x5)) + 1)))) else (some (wrap64 (Int.tdiv x0 x5)))))
end
def tidepoleref25_Place.f (k : Nat) (a0 : Int) (a1 : Int) : Option (Int) := if a1 < 0 then (tidepoleref25_Place.j0 k a0 a1 true) else (tidepoleref25_Place.j0 k a0 a1 (decide (a1 > 62)))
set_option maxHeartbeats 8000000 in
set_option maxRecDepth 100000 in
theorem tidepoleref25_Place.calls (k : Nat) (a0 : Int) (a1 : Int) (r : Int) (w : World) (h : tidepoleref25_Place.f k a0 a1 = some r) :
  Calls Try.prog 12 #[.int .i64 a0, .int .i64 a1] w fun e w' => e = .returned (.int .i64 r) ∧ Drawn0 w w' := by
 have H : (if a1 < 0 then (tidepoleref25_Place.j0 k a0 a1 true) else (tidepoleref25_Place.j0 k a0 a1 (decide (a1 > 62)))) = some r := h
 clear h
 have HC3 := Aside0.mk H
 clear H
 go_enter Try.func12, Try.ntmps12
 go_upto_region 1 with (fail)
 go_cut [13] (fun v13 wc => ∃ (kq : Nat) (x13_2 : Bool), v13 = .bool x13_2 ∧ Aside0 (tidepoleref25_Place.j0 kq a0 a1 x13_2 = some r) ∧ Aside0 (kq ≤ k) ∧ Drawn0 w wc)
 case first =>
  have H := HC3.out
  clear HC3
  by_cases c4 : a1 < 0
  ·rw [if_pos c4] at H
   have c4b0 : decide (a1 < 0) = true := decide_eq_true c4
   clear c4
   (first | rw [c4b0] | (simp only [i64_w, i32_w]; rw [c4b0]) | skip)
   have H' := Aside0.mk H
   clear H
   go_wp2
   go_meet
   case rel => exact ⟨_, (true), (by first | rfl | (simp; done) | (simp [*]; done)), H', ⟨by first | omega | exact Nat.le_refl _⟩, by repeat (first | exact Drawn0.refl _ | apply Drawn0.step)⟩
  ·rw [if_neg c4] at H
   have c4b0 : decide (a1 < 0) = false := decide_eq_false c4
   clear c4
   (first | rw [c4b0] | (simp only [i64_w, i32_w]; rw [c4b0]) | skip)
   have H' := Aside0.mk H
   clear H
   go_wp2
   go_meet
   case rel => exact ⟨_, (decide (a1 > 62)), (by first | rfl | (simp; done) | (simp [*]; done)), H', ⟨by first | omega | exact Nat.le_refl _⟩, by repeat (first | exact Drawn0.refl _ | apply Drawn0.step)⟩
 case rest =>
  clear HC3
  try clear c1
  try clear p2
  try clear c4
  try clear c4b0
  obtain ⟨kq, x13_2, rfl, HA, HJ2, ⟨mc2, rfl⟩⟩ := hcut
  cases kq with
  | zero => exact absurd HA.out (by simp [tidepoleref25_Place.j0])
  | succ kj2 =>
   have H := HA.out
   clear HA
   simp only [tidepoleref25_Place.j0] at H
   by_cases c5 : x13_2 = true
   ·subst c5
    have H1 : (some a0) = some r := by rw [if_pos rfl] at H; exact H
    clear H
    have H := H1
    clear H1
    obtain rfl := Option.some.inj H
    go_wp2
    go_ret
    exact ⟨by first | rfl | (simp; done) | (simp [*]; done), by repeat (first | exact Drawn0.refl _ | apply Drawn0.step)⟩
   ·replace c5 := Bool.eq_false_iff.mpr c5
    subst c5
    have H1 : (tidepoleref25_Place.l0 kj2 a0 a1 1 0) = some r := by rw [if_neg (show ¬ (false = true) by decide)] at H; exact H
    clear H
    have H := H1
    clear H1
    have H' := Aside0.mk H
    clear H
    go_wp2
    go_loopg [5, 6] kj2 (fun kq v5 v6 w' => ∃ (x5_2 : Int) (x6_2 : Int), v5 = .int .i64 x5_2 ∧ v6 = .int .i64 x6_2 ∧ Aside0 (tidepoleref25_Place.l0 kq a0 a1 x5_2 x6_2 = some r) ∧ Aside0 (kq ≤ kj2) ∧ Drawn0 w w')
    case atStart => exact ⟨(1), (0), (by first | rfl | (simp; done) | (simp [*]; done)), (by first | rfl | (simp; done) | (simp [*]; done)), H', ⟨Nat.le_refl _⟩, by repeat (first | exact Drawn0.refl _ | apply Drawn0.step)⟩
    case round =>
     clear H'
     try clear c1
     try clear c2
     try clear p2
     try clear c4
     try clear c4b0
     try clear c5
     try clear p2
     obtain ⟨x5_2, x6_2, rfl, rfl, HA, HK2, ⟨m2, rfl⟩⟩ := hrel
     cases gk with
     | zero => exact absurd HA.out (by simp [tidepoleref25_Place.l0])
     | succ k2 =>
      have H := HA.out
      clear HA
      simp only [tidepoleref25_Place.l0] at H
      by_cases c6 : x6_2 < a1
      ·rw [if_pos c6] at H
       have c6b0 : decide (x6_2 < a1) = true := decide_eq_true c6
       clear c6
       have H' := Aside0.mk H
       clear H
       go_wp2
       go_roundg k2
       case measure => have := HJ2.out; have := HK2.out; omega
       case rel => exact ⟨(wrap64 (x5_2 * 2)), (wrap64 (x6_2 + 1)), (by first | rfl | (simp; done) | (simp [*]; done)), (by first | rfl | (simp; done) | (simp [*]; done)), H', ⟨by have := HJ2.out; have := HK2.out; omega⟩, by repeat (first | exact Drawn0.refl _ | apply Drawn0.step)⟩
      ·rw [if_neg c6] at H
       have c6b0 : decide (x6_2 < a1) = false := decide_eq_false c6
       clear c6
       by_cases c7 : x5_2 = 0
       ·rw [if_pos c7] at H
        exact absurd H (by simp)
       ·rw [if_neg c7] at H
        have c7b0 : (x5_2 == 0) = false := beq_eq_false_iff_ne.mpr c7
        have c7b1 : (x5_2 != 0) = true := bne_iff_ne.mpr c7
        by_cases c8 : a0 > 0
        ·rw [if_pos c8] at H
         have c8b0 : decide (0 < a0) = true := decide_eq_true c8
         clear c8
         by_cases c9 : (wrap64 ((wrap64 (Int.tdiv a0 x5_2)) * x5_2)) = a0
         ·rw [if_pos c9] at H
          have c9b0 : ((wrap64 ((wrap64 (Int.tdiv a0 x5_2)) * x5_2)) == a0) = true := beq_iff_eq.mpr c9
          have c9b1 : ((wrap64 ((wrap64 (Int.tdiv a0 x5_2)) * x5_2)) != a0) = false := bne_eq_false_iff_eq.mpr c9
          clear c9
          obtain rfl := Option.some.inj H
          go_wp2
          go_ret
          exact ⟨by first | rfl | (simp; done) | (simp [*]; done), by repeat (first | exact Drawn0.refl _ | apply Drawn0.step)⟩
         ·rw [if_neg c9] at H
          have c9b0 : ((wrap64 ((wrap64 (Int.tdiv a0 x5_2)) * x5_2)) == a0) = false := beq_eq_false_iff_ne.mpr c9
          have c9b1 : ((wrap64 ((wrap64 (Int.tdiv a0 x5_2)) * x5_2)) != a0) = true := bne_iff_ne.mpr c9
          obtain rfl := Option.some.inj H
          go_wp2
          go_ret
          exact ⟨by first | rfl | (simp; done) | (simp [*]; done), by repeat (first | exact Drawn0.refl _ | apply Drawn0.step)⟩
        ·rw [if_neg c8] at H
         have c8b0 : decide (0 < a0) = false := decide_eq_false c8
         clear c8
         obtain rfl := Option.some.inj H
         go_wp2
         go_ret
         exact ⟨by first | rfl | (simp; done) | (simp [*]; done), by repeat (first | exact Drawn0.refl _ | apply Drawn0.step)⟩
end Go.Proofs.Ytgkplhdcafbfbaa.P
namespace Go.Proofs.Ytgkplhdcafbfbaa.P
open Go.RowKit Go.Proofs.YtgkplhdcafbfbaaW.PrintWords Go.Proofs.YtgkplhdcafbfbaaW.PrintLast Go.Proofs.YtgkplhdcafbfbaaW.PrintMore
set_option linter.unusedVariables false
set_option linter.unusedSimpArgs false
theorem wrap_id {x : Int} (h0 : -9223372036854775808 ≤ x) (h1 : x ≤ 9223372036854775807) : wrap64 x = x := by unfold wrap64; omega
theorem wrap_succ {i : Nat} (h : i < 9223372036854775807) : wrap64 ((i : Int) + 1) = ((i + 1 : Nat) : Int) := by unfold wrap64; omega
theorem wrap_range (x : Int) : -9223372036854775808 ≤ wrap64 x ∧ wrap64 x ≤ 9223372036854775807 := by unfold wrap64; omega
theorem rd_at {l : List Int} {i : Nat} (h : i < l.length) : rd l (i : Int) = l[i] := by unfold rd; simp [List.getD, h]
theorem drop_at {α : Type} {l : List α} {i : Nat} (h : i < l.length) : l.drop i = l[i] :: l.drop (i + 1) := List.drop_eq_getElem_cons h
theorem take_at {α : Type} {l : List α} {i : Nat} (h : i < l.length) : l.take (i + 1) = l.take i ++ [l[i]] := List.take_succ_eq_append_getElem h
theorem drop_end {α : Type} {l : List α} {i : Nat} (h : l.length ≤ i) : l.drop i = [] := List.drop_eq_nil_of_le h
def i64 (x : Int) : Prop := -9223372036854775808 ≤ x ∧ x ≤ 9223372036854775807
instance (x : Int) : Decidable (i64 x) := by unfold i64; exact inferInstance
def u64 (x : Int) : Prop := 0 ≤ x ∧ x ≤ 18446744073709551615
instance (x : Int) : Decidable (u64 x) := by unfold u64; exact inferInstance
theorem i64_of {x : Int} (h : inI .i64 x) : i64 x := inI_i64 h
theorem wrap_i64 (x : Int) : i64 (wrap64 x) := wrap_range x
theorem wrap_of_i64 {x : Int} (h : i64 x) : wrap64 x = x := wrap_id h.1 h.2
end Go.Proofs.Ytgkplhdcafbfbaa.P
namespace Go.Proofs.Ytgkplhdcafbfbaa.P
open Go.RowKit Go.Proofs.YtgkplhdcafbfbaaW.PrintWords Go.Proofs.YtgkplhdcafbfbaaW.PrintLast Go.Proofs.YtgkplhdcafbfbaaW.PrintMore
set_option linter.unusedVariables false
set_option linter.unusedSimpArgs false
def placeR (i s : Int) : Int := if s < 0 ∨ s > 62 then i else -((-i) / 2 ^ s.toNat)
theorem ceil_of {i D q : Int} (hD : 0 < D) (h1 : D * (q - 1) < i) (h2 : i ≤ D * q) : -((-i) / D) = q := by
  rw [Int.mul_sub, Int.mul_one] at h1
  have := ((Int.ediv_emod_unique (a := -i) (b := D) (r := D * q - i) (q := -q) hD).2 ⟨by rw [Int.mul_neg]; omega, by omega, by omega⟩).1
  rw [this, Int.neg_neg]
theorem pow62 {n : Nat} (h : n ≤ 62) : (0 : Int) < 2 ^ n ∧ (2 : Int) ^ n ≤ 4611686018427387904 ∧ ∃ c : Int, 9223372036854775808 = 2 ^ n * c := by
  refine ⟨Int.pow_pos (by decide), ?_, ⟨2 ^ (63 - n), ?_⟩⟩
  · have h1 : (2 : Nat) ^ n ≤ 2 ^ 62 := Nat.pow_le_pow_right (by decide) h
    have h2 : ((2 ^ n : Nat) : Int) ≤ ((2 ^ 62 : Nat) : Int) := Int.ofNat_le.2 h1
    rw [Int.natCast_pow, Int.natCast_pow] at h2
    exact h2
  · rw [← Int.pow_add, show n + (63 - n) = 63 by omega]; rfl
theorem div_bounds {i : Int} (hi : i64 i) {n : Nat} (h : n ≤ 62) : -9223372036854775808 ≤ i / 2 ^ n * 2 ^ n ∧ i / 2 ^ n * 2 ^ n ≤ i ∧ i < i / 2 ^ n * 2 ^ n + 2 ^ n ∧ -9223372036854775808 ≤ i / 2 ^ n ∧ i / 2 ^ n ≤ 9223372036854775807 ∧ (i / 2 ^ n * 2 ^ n < i → i / 2 ^ n < 9223372036854775807) := by
  obtain ⟨h0, h1, c, hc⟩ := pow62 h
  generalize (2 : Int) ^ n = D at *
  obtain ⟨i1, i2⟩ := hi
  have e := Int.mul_ediv_add_emod i D
  have m0 := Int.emod_nonneg i (by omega : D ≠ 0)
  have m1 := Int.emod_lt_of_pos i h0
  have hq : -c ≤ i / D := by
    rw [Int.le_ediv_iff_mul_le h0, Int.neg_mul, Int.mul_comm c D, ← hc]; omega
  have hcD := Int.mul_le_mul_of_nonneg_right hq (by omega : 0 ≤ D)
  rw [Int.neg_mul, Int.mul_comm c D, ← hc] at hcD
  rw [Int.mul_comm D] at e
  generalize i / D = q at *
  have hneg : q ≤ 0 → q * D ≤ q := fun hq => by
    have := Int.mul_le_mul_of_nonneg_left (a := 1) (b := D) (c := -q) (by omega) (by omega)
    rw [Int.neg_mul, Int.neg_mul] at this
    omega
  have hpos : 0 ≤ q → q ≤ q * D := fun hq => by
    have := Int.mul_le_mul_of_nonneg_left (a := 1) (b := D) (c := q) (by omega) hq
    omega
  rcases Int.le_total q 0 with hq0 | hq0
  · have := hneg hq0
    refine ⟨by omega, by omega, by omega, by omega, by omega, by omega⟩
  · have := hpos hq0
    refine ⟨by omega, by omega, by omega, by omega, by omega, by omega⟩
theorem scale_Place_f (k : Nat) (i s : Int) (hi : i64 i) : scale_Place.f (k + 1) i s = some (placeR i s) := by
  unfold scale_Place.f placeR
  by_cases h0 : s < 0
  · rw [if_pos h0, if_pos (.inl h0)]; rfl
  rw [if_neg h0]
  simp only [scale_Place.j0]
  by_cases h1 : s > 62
  · rw [if_pos (by simpa using h1), if_pos (.inr h1)]
  rw [if_neg (by simpa using h1), if_pos (by omega), if_neg (show ¬ (s < 0 ∨ s > 62) by omega)]
  have hn : s.toNat ≤ 62 := by omega
  have hs64 : min s.toNat (IntKind.i64).bits = s.toNat := Nat.min_eq_left (by have : IntKind.i64.bits = 64 := rfl; omega)
  simp only [shl, shr, hs64, i64_w]
  generalize s.toNat = n at hn
  have hb := div_bounds hi hn
  obtain ⟨h0, -, -⟩ := pow62 hn
  generalize (2 : Int) ^ n = D at *
  have hc := Int.mul_comm (i / D) D
  obtain ⟨i1, i2⟩ := hi
  rw [wrap_id (x := i / D * D) (by omega) (by omega)]
  by_cases he : i / D * D = i
  · rw [if_pos he, ceil_of h0 (q := i / D) (by rw [Int.mul_sub]; omega) (by omega)]
  · rw [if_neg he, wrap_id (x := i / D + 1) (by omega) (by omega), ceil_of h0 (q := i / D + 1) (by rw [Int.add_sub_cancel]; omega) (by rw [Int.mul_add]; omega)]
theorem placeR_i64 {i s : Int} (hi : i64 i) : i64 (placeR i s) := by
  unfold placeR
  by_cases h : s < 0 ∨ s > 62
  · rw [if_pos h]; exact hi
  rw [if_neg h]
  have hn : s.toNat ≤ 62 := by omega
  generalize s.toNat = n at hn
  have hb := div_bounds hi hn
  obtain ⟨h0, -, -⟩ := pow62 hn
  generalize (2 : Int) ^ n = D at *
  have hc := Int.mul_comm (i / D) D
  obtain ⟨i1, i2⟩ := hi
  by_cases he : i / D * D = i
  · rw [ceil_of h0 (q := i / D) (by rw [Int.mul_sub]; omega) (by omega)]; exact ⟨by omega, by omega⟩
  · rw [ceil_of h0 (q := i / D + 1) (by rw [Int.add_sub_cancel]; omega) (by rw [Int.mul_add]; omega)]; exact ⟨by omega, by omega⟩
theorem refPlace_loop (i : Int) (hi : i64 i) (n : Nat) (hn : n ≤ 62) : ∀ (d k j : Nat), n - j = d → d < k → j ≤ n → tidepoleref25_Place.l0 k i (n : Int) (2 ^ j : Int) (j : Int) = some (-((-i) / 2 ^ n)) := by
  intro d
  induction d with
  | zero =>
    intro k j hd hk hj
    obtain ⟨k, rfl⟩ : ∃ m, k = m + 1 := ⟨k - 1, by omega⟩
    obtain rfl : j = n := by omega
    simp only [tidepoleref25_Place.l0]
    have hb := div_bounds hi hn
    obtain ⟨h0, -, -⟩ := pow62 hn
    generalize (2 : Int) ^ j = D at *
    have hc := Int.mul_comm (i / D) D
    obtain ⟨i1, i2⟩ := hi
    rw [if_neg (by omega), if_neg (by omega)]
    by_cases hp : i > 0
    · rw [if_pos hp, Int.tdiv_eq_ediv_of_nonneg (by omega), wrap_id (x := i / D) (by omega) (by omega), wrap_id (x := i / D * D) (by omega) (by omega)]
      by_cases he : i / D * D = i
      · rw [if_pos he, ceil_of h0 (q := i / D) (by rw [Int.mul_sub]; omega) (by omega)]
      · rw [if_neg he, wrap_id (x := i / D + 1) (by omega) (by omega), ceil_of h0 (q := i / D + 1) (by rw [Int.add_sub_cancel]; omega) (by rw [Int.mul_add]; omega)]
    · rw [if_neg hp]
      have : Int.tdiv i D = -((-i) / D) := by
        rw [← Int.tdiv_eq_ediv_of_nonneg (a := -i) (by omega), Int.neg_tdiv, Int.neg_neg]
      rw [this]
      have hR : i64 (-((-i) / D)) := by
        by_cases he : i / D * D = i
        · rw [ceil_of h0 (q := i / D) (by rw [Int.mul_sub]; omega) (by omega)]; exact ⟨by omega, by omega⟩
        · rw [ceil_of h0 (q := i / D + 1) (by rw [Int.add_sub_cancel]; omega) (by rw [Int.mul_add]; omega)]; exact ⟨by omega, by omega⟩
      rw [wrap_of_i64 hR]
  | succ d ih =>
    intro k j hd hk hj
    obtain ⟨k, rfl⟩ : ∃ m, k = m + 1 := ⟨k - 1, by omega⟩
    simp only [tidepoleref25_Place.l0]
    obtain ⟨h0, h1, -⟩ := pow62 (n := j + 1) (by omega)
    rw [if_pos (by omega), wrap_succ (by omega), ← Int.pow_succ, wrap_id (by omega) (by omega)]
    exact ih k (j + 1) (by omega) (by omega) (by omega)
theorem refPlace_f (k : Nat) (hk : 66 ≤ k) (i s : Int) (hi : i64 i) : tidepoleref25_Place.f k i s = some (placeR i s) := by
  obtain ⟨k, rfl⟩ : ∃ m, k = m + 1 := ⟨k - 1, by omega⟩
  unfold tidepoleref25_Place.f placeR
  by_cases h0 : s < 0
  · rw [if_pos h0, if_pos (.inl h0)]; simp only [tidepoleref25_Place.j0, if_true]
  rw [if_neg h0]
  simp only [tidepoleref25_Place.j0]
  by_cases h1 : s > 62
  · rw [if_pos (by simpa using h1), if_pos (.inr h1)]
  rw [if_neg (by simpa using h1), if_neg (show ¬ (s < 0 ∨ s > 62) by omega)]
  obtain ⟨n, rfl⟩ : ∃ n : Nat, s = n := ⟨s.toNat, by omega⟩
  exact refPlace_loop i hi n (by omega) n k 0 (by omega) (by omega) (by omega)
theorem place_place {i : Int} {a b : Nat} (h : a + b ≤ 62) : placeR (placeR i a) b = placeR i ((a : Int) + b) := by
  unfold placeR
  rw [if_neg (by omega), if_neg (by omega), if_neg (by omega), show ((a : Int) + b).toNat = a + b by omega, Int.neg_neg, Int.toNat_natCast, Int.toNat_natCast, Int.pow_add, Int.ediv_ediv_of_nonneg (Int.le_of_lt (Int.pow_pos (by decide)))]
theorem place_mono {i j s : Int} (h : i ≤ j) : placeR i s ≤ placeR j s := by
  unfold placeR
  by_cases hs : s < 0 ∨ s > 62
  · rw [if_pos hs, if_pos hs]; exact h
  rw [if_neg hs, if_neg hs]
  have := Int.ediv_le_ediv (a := -j) (b := -i) (c := 2 ^ s.toNat) (Int.pow_pos (by decide)) (by omega)
  omega
end Go.Proofs.Ytgkplhdcafbfbaa.P
namespace Go.Proofs.Ytgkplhdcafbfbaa.P
open Go.RowKit Go.Shelf Go.Proofs.YtgkplhdcafbfbaaW.PrintWords Go.Proofs.YtgkplhdcafbfbaaW.PrintLast Go.Proofs.YtgkplhdcafbfbaaW.PrintMore
set_option linter.unusedVariables false
set_option linter.unusedSimpArgs false
def idxP {α : Type} (p : α → Bool) (l : List α) : Int := match l.findIdx? p with
  | some i => (i : Int)
  | none => -1
theorem idxP_hit {α : Type} (p : α → Bool) (l : List α) (i : Nat) (h : i < l.length) (hp : p l[i] = true) (hb : ∀ j (hj : j < i), p (l[j]'(Nat.lt_trans hj h)) = false) : idxP p l = i := by
  have : l.findIdx? p = some i := by
    rw [List.findIdx?_eq_some_iff_getElem]
    exact ⟨h, hp, fun j hj => by simp [hb j hj]⟩
  unfold idxP; rw [this]
theorem idxP_miss {α : Type} (p : α → Bool) (l : List α) (hb : ∀ j (hj : j < l.length), p l[j] = false) : idxP p l = -1 := by
  have : l.findIdx? p = none := by
    rw [List.findIdx?_eq_none_iff]
    intro x hx
    obtain ⟨j, hj, rfl⟩ := List.getElem_of_mem hx
    exact hb j hj
  unfold idxP; rw [this]
theorem of_ite_some {α : Type} {c : Prop} [Decidable c] {a r : α} (h : (if c then some a else none) = some r) : c ∧ a = r := by
  by_cases hc : c
  · rw [if_pos hc] at h; exact ⟨hc, Option.some.inj h⟩
  · rw [if_neg hc] at h; cases h
theorem find_idx {α : Type} (p : α → Bool) (l : List α) : (idxP p l = -1 ∧ l.find? p = none) ∨ (∃ i : Nat, ∃ h : i < l.length, idxP p l = (i : Int) ∧ l.find? p = some l[i]) := by
  unfold idxP
  cases h : l.findIdx? p with
  | none => exact .inl ⟨rfl, by rw [List.find?_eq_none]; rw [List.findIdx?_eq_none_iff] at h; intro x hx; simp [h x hx]⟩
  | some i =>
    rw [List.findIdx?_eq_some_iff_getElem] at h
    obtain ⟨hi, hp, hb⟩ := h
    exact .inr ⟨i, hi, rfl, by rw [List.find?_eq_some_iff_getElem]; exact ⟨hp, i, hi, rfl, fun j hj => by simpa using hb j hj⟩⟩
theorem R_beyond {α : Type} {d : Kd α} (hM : ∀ w w1 base ok x cs, d.M w base ok x cs → d.M w1 base ok x cs) {e : Nat} {w : World} {base : Nat} {ok : Nat → Prop} {g n cap : Nat} {xs : List α}
    (h : d.R e w base ok (.slice (some ⟨g, 0, none⟩) n cap) xs) (o : Nat) (seg : List Value) (ho : n * d.sz ≤ o) (hs : o + seg.length ≤ cap * d.sz) : d.R e (w.setCells g o seg) base ok (.slice (some ⟨g, 0, none⟩) n cap) xs := by
  obtain ⟨h0, inner, hown, hr⟩ := h
  refine ⟨h0, inner, ⟨hown.1, ?_⟩, hr.imp_ (fun p c hp => hM _ _ _ _ _ _ hp)⟩
  rcases hown.2 with ⟨hv, _⟩ | ⟨g', cap', cur, hv, hb, hh, hnc, hcm, hcs, ht⟩
  · cases hv
  injection hv with ha hn hc
  injection ha with ha
  injection ha with hg'
  subst hg'; subst hc
  obtain ⟨cur', h3, h4, h5⟩ := setCells_row seg o w cur hh (by omega)
  refine .inr ⟨g, cap, cur', by rw [hn], hb, h3, hnc, hcm, by omega, ?_⟩
  rw [← hn] at ht ⊢
  have hl : cur.toList.length = cap * d.sz := by rw [Array.length_toList]; exact hcs
  rw [h5, List.append_assoc, List.take_append_of_le_length (by rw [List.length_take]; omega), List.take_take, Nat.min_eq_left ho]
  exact ht
theorem piece_there {w : World} {g : Nat} {cur : Array Value} {e : TypeId} (hh : w.heap[g]? = some (.cells cur e (0, 0))) (o n : Nat) (h : o + n ≤ cur.size) :
    (∀ j, j < n → (w.cell? ⟨g, o + j, none⟩).isSome = true) ∧ (∀ j, j < n → w.frozen? ⟨g, o + j, none⟩ = false) :=
  ⟨fun j hj => by rw [blk_cell hh]; simp; omega, fun j _ => blk_frozen hh _⟩
theorem run_clear_cells {P : Program} (w : World) (t e ty : TypeId) (z : Value) (ht : P.underlying t = some (.slice e)) (hv : ∀ w, (zeroValue e).run P w = .ok z w) (g o n c : Nat) (hn : 0 < n)
    (hz : ∀ v ∈ (Builtin.zeroCells z.cells n).toList, v.oneCell' = true)
    (hc : ∀ j, j < (Builtin.zeroCells z.cells n).toList.length → (w.cell? ⟨g, o + j, none⟩).isSome = true) (hf : ∀ j, j < (Builtin.zeroCells z.cells n).toList.length → w.frozen? ⟨g, o + j, none⟩ = false) :
    (Builtin.clear_ #[t] ty #[.slice (some ⟨g, o, none⟩) n c]).run P w = .ok (.tuple #[]) (w.setCells g o (Builtin.zeroCells z.cells n).toList) := by
  have hst := run_storeCells_cells (P := P) g o (Builtin.zeroCells z.cells n).toList 0 w (by simpa using hc) (by simpa using hf) hz
  simp only [Nat.add_zero] at hst
  obtain ⟨m, rfl⟩ : ∃ m, n = m + 1 := ⟨n - 1, by omega⟩
  simp [Builtin.clear_, run_underlying ht, hv, hst]
structure DelInv {α : Type} (p : α → Bool) (xs : List α) (i j : Nat) (ys : List α) : Prop where
  len : ys.length = xs.length
  lt : i < j
  le : j ≤ xs.length
  low : ys.take i = (xs.take j).filter (fun x => !p x)
  high : ys.drop j = xs.drop j
theorem DelInv.start {α : Type} {p : α → Bool} {xs : List α} {i : Nat} (h : i < xs.length) (hp : p xs[i] = true) (hb : ∀ j (hj : j < i), p (xs[j]'(Nat.lt_trans hj h)) = false) : DelInv p xs i (i + 1) xs := by
  refine ⟨rfl, Nat.lt_succ_self _, h, ?_, rfl⟩
  rw [List.take_succ_eq_append_getElem h, List.filter_append]
  have h1 : (xs.take i).filter (fun x => !p x) = xs.take i := by
    rw [List.filter_eq_self]
    intro x hx
    obtain ⟨j, hj, rfl⟩ := List.getElem_of_mem hx
    rw [List.length_take] at hj
    rw [List.getElem_take, hb j (by omega)]; rfl
  rw [h1]; simp [hp]
theorem DelInv.at_ {α : Type} {p : α → Bool} {xs ys : List α} {i j : Nat} (h : DelInv p xs i j ys) (hj : j < xs.length) : ∃ h2 : j < ys.length, ys[j] = xs[j] := by
  have h2 : j < ys.length := by rw [h.len]; exact hj
  refine ⟨h2, ?_⟩
  have := congrArg (fun l => l[0]?) h.high
  simp only [List.getElem?_drop, Nat.add_zero, List.getElem?_eq_getElem h2, List.getElem?_eq_getElem hj] at this
  exact Option.some.inj this
theorem DelInv.skip {α : Type} {p : α → Bool} {xs ys : List α} {i j : Nat} (h : DelInv p xs i j ys) (hj : j < xs.length) (hp : p xs[j] = true) : DelInv p xs i (j + 1) ys := by
  refine ⟨h.len, by have := h.lt; omega, hj, ?_, ?_⟩
  · rw [h.low, List.take_succ_eq_append_getElem hj, List.filter_append]; simp [hp]
  · have := congrArg (List.drop 1) h.high
    rwa [List.drop_drop, List.drop_drop] at this
theorem DelInv.keep {α : Type} {p : α → Bool} {xs ys : List α} {i j : Nat} (h : DelInv p xs i j ys) (hj : j < xs.length) (hp : p xs[j] = false) : DelInv p xs (i + 1) (j + 1) (ys.set i xs[j]) := by
  have hlt := h.lt
  have hi : i < ys.length := by rw [h.len]; omega
  refine ⟨by rw [List.length_set]; exact h.len, by omega, hj, ?_, ?_⟩
  · rw [List.take_succ_eq_append_getElem (by rw [List.length_set]; exact hi), List.getElem_set_self, List.take_set_of_le (by omega), h.low, List.take_succ_eq_append_getElem hj, List.filter_append]; simp [hp]
  · rw [List.drop_set_of_lt (by omega)]
    have := congrArg (List.drop 1) h.high
    rwa [List.drop_drop, List.drop_drop] at this
theorem DelInv.done {α : Type} {p : α → Bool} {xs ys : List α} {i : Nat} (h : DelInv p xs i xs.length ys) : ys.take i = xs.filter (fun x => !p x) := by
  rw [h.low, List.take_of_length_le (Nat.le_refl _)]
theorem idxP_cases {α : Type} (p : α → Bool) (l : List α) : (idxP p l = -1 ∧ l.filter (fun x => !p x) = l) ∨ (∃ i : Nat, ∃ h : i < l.length, idxP p l = (i : Int) ∧ p l[i] = true ∧ ∀ j (hj : j < i), p (l[j]'(Nat.lt_trans hj h)) = false) := by
  unfold idxP
  cases h : l.findIdx? p with
  | none =>
    refine .inl ⟨rfl, ?_⟩
    rw [List.findIdx?_eq_none_iff] at h
    rw [List.filter_eq_self]
    intro x hx; simp [h x hx]
  | some i =>
    rw [List.findIdx?_eq_some_iff_getElem] at h
    obtain ⟨hi, hp, hb⟩ := h
    exact .inr ⟨i, hi, rfl, hp, fun j hj => by simpa using hb j hj⟩
end Go.Proofs.Ytgkplhdcafbfbaa.P
namespace Go.Proofs.Ytgkplhdcafbfbaa.P
open Go.RowKit Go.Shelf Go.Proofs.YtgkplhdcafbfbaaW.PrintWords Go.Proofs.YtgkplhdcafbfbaaW.PrintLast Go.Proofs.YtgkplhdcafbfbaaW.PrintMore
set_option linter.unusedVariables false
set_option linter.unusedSimpArgs false
def slices_Clone_span.f (l0 : List S87) : Option (List S87) := if l0.length < 8796093022208 then some l0 else none
set_option maxHeartbeats 2000000 in
set_option maxRecDepth 100000 in
theorem slices_Clone_span.calls (A0 : Option Addr) (c0 : Nat) (l0 r : List S87) (w : World) (hr0 : Kd.C k87 w A0 l0.length l0) (hc0 : l0.length ≤ c0) (h : slices_Clone_span.f l0 = some r) :
    Calls Try.prog 80 #[.slice A0 l0.length c0] w fun e w' => ∃ v0_ : Value, e = .returned (v0_) ∧ Kd.R k87 87 w' w.heap.size (fun _ => True) v0_ r ∧ Below w.heap.size w w' := by
  obtain ⟨hm, h2⟩ := of_ite_some h
  subst h2
  clear h
  have hu := Try.underlying27
  have HM := Aside0.mk hm
  clear hm
  cases A0 with
  | none =>
    have hl : l0 = [] := by
      rcases Nat.eq_zero_or_pos l0.length with h | h
      · exact List.length_eq_zero_iff.1 h
      · obtain ⟨ad, e, _⟩ := hr0.2.2 h
        cases e
    subst hl
    have hn : ∀ W n c, (binOp .eql 27 (.slice none n c) (.slice none 0 0)).run Try.prog W = .ok (.bool true) W := fun W n c => by
      exact Lib.run_eql_slice_nil W _ _ none n c 0 0 Try.underlying27
    go_enter Try.func80, Try.ntmps80
    go_wp2
    go_ret
    exact ⟨_, rfl, Kd.R_nil _ _ _ _ _, Below.refl _ _⟩
  | some ad =>
    have hn : ∀ W n c, (binOp .eql 27 (.slice (some ad) n c) (.slice none 0 0)).run Try.prog W = .ok (.bool false) W := fun W n c => by
      exact Lib.run_eql_slice_nil W _ _ (some ad) n c 0 0 Try.underlying27
    have HR := Aside0.mk hr0
    clear hr0
    go_enter Try.func80, Try.ntmps80
    go_wp2_with ((with_reducible refine gate_builtin (b := .append) (xs := #[.tmp 5, .tmp 6]) rfl ?_); at_builtin; refine Kd.R_append_rows k87 (w0 := w) (Rr := k87.K w) w.heap.size rfl (.tmp 5) (.tmp 6) 27 87 _ 16 rfl Try.underlying27 info87 rfl (by decide) (by omega) (.slice (some ⟨w.heap.size, 0, none⟩) 0 0) [] l0 (some ad) l0.length c0 (fun _ => True) (fun _ => False) rfl rfl ?aO ?aR ?aK (fun _ hk => hk.elim) (fun _ _ => trivial) ?aB ?aS ?aL ?_; (case aO => exact ⟨fun _ _ => trivial, [], ⟨rfl, .inr ⟨w.heap.size, 0, #[], rfl, Nat.le_refl _, by simpa using blk_new w _, Nat.le_refl _, by unfold maxLen; omega, rfl, rfl⟩⟩, Reps.none _ _⟩); (case aR => exact HR.out.imp_ (below_alloc (Below.refl _ _) _) (fun _ _ h => h)); (case aK => intro x cs hx; rw [k87_open hx]; exact k87_mkM _ _ _ x); (case aB => exact below_alloc (Below.refl _ _) _); (case aS => simp); (case aL => have := HM.out; simp; omega); intro v1 w1 ho hb hg hat; rw [List.nil_append] at ho; have HO := Aside0.mk ho; have HB := Aside0.mk hb; clear ho hb hg hat)
    go_ret
    exact ⟨_, rfl, HO.out, HB.out⟩
end Go.Proofs.Ytgkplhdcafbfbaa.P
namespace Go.Proofs.Ytgkplhdcafbfbaa.P
open Go.RowKit Go.Proofs.YtgkplhdcafbfbaaW.PrintWords Go.Proofs.YtgkplhdcafbfbaaW.PrintLast Go.Proofs.YtgkplhdcafbfbaaW.PrintMore
attribute [local go_sem] max2_int min2_int max_two min_two max_three min_three max_four min_four
set_option linter.unusedVariables false
set_option linter.unusedSimpArgs false
def span_in.f (a0 : Int) : Option (Bool) := if a0 ≥ (-1048576) then (some (decide (a0 ≤ 1048576))) else (some false)
set_option maxHeartbeats 8000000 in
set_option maxRecDepth 100000 in
theorem span_in.calls (a0 : Int) (r : Bool) (w : World) (h : span_in.f a0 = some r) :
  Calls Try.prog 136 #[.int .i64 a0] w fun e w' => e = .returned (.bool r) ∧ Drawn0 w w' := by
 have H : (if a0 ≥ (-1048576) then (some (decide (a0 ≤ 1048576))) else (some false)) = some r := h
 clear h
 by_cases c2 : a0 ≥ (-1048576)
 ·rw [if_pos c2] at H
  have c2b0 : decide ((-1048576) ≤ a0) = true := decide_eq_true c2
  clear c2
  obtain rfl := Option.some.inj H
  go_enter Try.func136, Try.ntmps136
  go_wp2
  go_ret
  exact ⟨by first | rfl | (simp; done) | (simp [*]; done), by repeat (first | exact Drawn0.refl _ | apply Drawn0.step)⟩
 ·rw [if_neg c2] at H
  have c2b0 : decide ((-1048576) ≤ a0) = false := decide_eq_false c2
  clear c2
  obtain rfl := Option.some.inj H
  go_enter Try.func136, Try.ntmps136
  go_wp2
  go_ret
  exact ⟨by first | rfl | (simp; done) | (simp [*]; done), by repeat (first | exact Drawn0.refl _ | apply Drawn0.step)⟩
mutual
def span_right.l0 : Nat → Int → Int → List (S87) → Int → Int → Option (Bool)
 | 0, _, _, _, _, _ => none
 | k + 1, x3, x4, x7, x8, x9 => if x9 < x8 then (if 0 ≤ x9 then (if x9 < (x7.length : Int) then (if ((rd_T87 x7 x9).f0) > 2097152 then (span_right.j1 k x3 x4 x7 x8 x9 true ((rd_T87 x7 x9).f0) ((rd_T87 x7 x9).f1)) else (if ((rd_T87 x7 x9).f1) < 0 then (span_right.j1 k x3 x4 x7 x8 x9 true ((rd_T87 x7 x9).f0) ((rd_T87 x7 x9).f1)) else (if ((rd_T87 x7 x9).f1) > 4096 then (span_right.j1 k x3 x4 x7 x8 x9 true ((rd_T87 x7 x9).f0) ((rd_T87 x7 x9).f1)) else (if ((rd_T87 x7 x9).f0) < 0 then (if x9 > 0 then (span_right.j1 k x3 x4 x7 x8 x9 true ((rd_T87 x7 x9).f0) ((rd_T87 x7 x9).f1)) else ((span_in.f ((rd_T87 x7 x9).f0)).bind fun t103 => (span_right.j1 k x3 x4 x7 x8 x9 (!t103) ((rd_T87 x7 x9).f0) ((rd_T87 x7 x9).f1)))) else (span_right.j1 k x3 x4 x7 x8 x9 false ((rd_T87 x7 x9).f0) ((rd_T87 x7 x9).f1)))))) else (none)) else (none)) else (some true)
def span_right.j1 : Nat → Int → Int → List (S87) → Int → Int → Bool → Int → Int → Option (Bool)
 | 0, _, _, _, _, _, _, _, _ => none
 | k + 1, x3, x4, x7, x8, x9, x41, x103000, x103001 => if x41 = true then (some false) else ((span_in.f (wrap64 (x3 + x103000))).bind fun t104 => (if t104 = true then ((span_in.f (wrap64 ((wrap64 (x3 + x103000)) + (mx (wrap64 (x103001 - 1)) 0)))).bind fun t105 => (if t105 = true then (if (wrap64 (x4 + x103001)) > 4096 then (some false) else (span_right.l0 k (wrap64 ((wrap64 (x3 + x103000)) + x103001)) (wrap64 (x4 + x103001)) x7 x8 (wrap64 (x9 + 1)))) else (some false))) else (some false)))
end
def span_right.f (k : Nat) (l0 : List (S87)) : Option (Bool) := span_right.l0 k 0 0 l0 (l0.length : Int) 0
set_option maxHeartbeats 8000000 in
set_option maxRecDepth 100000 in
theorem span_right.calls (k : Nat) (A0 : Option Addr) (c0 : Nat) (l0 : List (S87)) (r : Bool) (w : World) (hr0 : Kd.C k87 w A0 l0.length l0) (hc0 : l0.length ≤ c0) (h : span_right.f k l0 = some r) :
  Calls Try.prog 133 #[.slice A0 l0.length c0] w fun e w' => e = .returned (.bool r) ∧ Below w.heap.size w w' := by
 have hu87 := Try.underlying87
 have HR0 := Aside0.mk hr0
 have HC0 := Aside0.mk hc0
 clear hr0 hc0
 have HB := Aside0.mk (Below.refl w.heap.size w)
 have H : (span_right.l0 k 0 0 l0 (l0.length : Int) 0) = some r := h
 clear h
 have H' := Aside0.mk H
 clear H
 go_enter Try.func133, Try.ntmps133
 go_wp2
 go_loopg [3, 4, 9] k (fun kq v3 v4 v9 w' => ∃ (x3_1 : Int) (x4_1 : Int) (x9_1 : Int), v3 = .int .i64 x3_1 ∧ v4 = .int .i64 x4_1 ∧ v9 = .int .i64 x9_1 ∧ Aside0 (span_right.l0 kq x3_1 x4_1 l0 (l0.length : Int) x9_1 = some r) ∧ Aside0 (kq ≤ k) ∧ Aside0 (Below w.heap.size w w'))
 case atStart => exact ⟨(0), (0), (0), (by first | rfl | (simp; done) | (simp [*]; done)), (by first | rfl | (simp; done) | (simp [*]; done)), (by first | rfl | (simp; done) | (simp [*]; done)), H', ⟨Nat.le_refl _⟩, ⟨by repeat (first | (with_reducible first | exact HB.out | apply below_alloc | apply pw_below_drewN | apply below_drew1) | exact HB.out)⟩⟩
 case round =>
  clear H'
  try clear c1
  obtain ⟨x3_1, x4_1, x9_1, rfl, rfl, rfl, HA, HK1, HB⟩ := hrel
  cases gk with
  | zero => exact absurd HA.out (by simp [span_right.l0])
  | succ k1 =>
   have H := HA.out
   clear HA
   simp only [span_right.l0] at H
   by_cases c2 : x9_1 < (l0.length : Int)
   ·rw [if_pos c2] at H
    have c2b0 : decide (x9_1 < (l0.length : Int)) = true := decide_eq_true c2
    clear c2
    by_cases c3 : 0 ≤ x9_1
    ·rw [if_pos c3] at H
     have c3b0 : decide (0 ≤ x9_1) = true := decide_eq_true c3
     clear c3
     by_cases c4 : x9_1 < (l0.length : Int)
     ·rw [if_pos c4] at H
      have c4b0 : decide (x9_1 < (l0.length : Int)) = true := decide_eq_true c4
      clear c4
      have HC5 := Aside0.mk H
      clear H
      have p101 : 0 ≤ (x9_1 : Int) := of_decide_eq_true (by first | (with_reducible assumption) | assumption)
      have q101 : x9_1 < (l0.length : Int) := of_decide_eq_true (by first | (with_reducible assumption) | assumption)
      obtain ⟨ad101, e101, hx101_0, hx101_1⟩ := at_T87 HR0.out x9_1 p101 q101
      cases e101
      replace hx101_0 := (HB.out.cell (World.block_lt_of_cell? w _ hx101_0)).trans hx101_0
      replace hx101_1 := (HB.out.cell (World.block_lt_of_cell? w _ hx101_1)).trans hx101_1
      replace p101 := eq_true p101
      replace q101 := eq_true q101
      go_upto_region 5 with (first | ((with_reducible refine gate_dst (N := 6) rfl ?_); (try (refine gate_guard (by rfl) ?_; dsimp only)); refine box_event ?hg (N := 6) ?hd (cs := #[.int .i64 0, .int .i64 0]) (t := 87) ?hr ?_; (case hd => rfl); (case hg => rfl); (case hr => first | (go_simp; done) | (go_simp; rfl)); intro gb102 hg w6 hbox hb; have n0_ := Aside0.mk (below_step (by repeat (first | (with_reducible first | exact HB.out | apply below_alloc | apply pw_below_drewN | apply below_drew1) | exact HB.out)) hb); have n1_ := Aside0.mk (hbox); have n2_ := Aside0.mk ((by rw [hg]; exact (below_size (by repeat (first | (with_reducible first | exact HB.out | apply below_alloc | apply pw_below_drewN | apply below_drew1) | exact HB.out))) : w.heap.size ≤ gb102)); have n3_ := Aside0.mk ((by rw [hg]; exact (below_size (by repeat (first | (with_reducible first | exact HB.out | apply below_alloc | apply pw_below_drewN | apply below_drew1) | exact HB.out))) : w.heap.size ≤ gb102)); clear HB; have HB := n0_; have BK102 := n1_; have GW102 := n2_; have GE102 := n3_; clear n0_ n1_ n2_ n3_; clear hb hbox hg; have hcz7_0 : w6.cell? ⟨gb102, 0, none⟩ = some (.int .i64 0) := (blk_cell BK102.out 0).trans rfl; have hcz7_1 : w6.cell? ⟨gb102, 1, none⟩ = some (.int .i64 0) := (blk_cell BK102.out 1).trans rfl; have hfz7_0 := blk_frozen BK102.out 0; have hfz7_1 := blk_frozen BK102.out 1))
      (try simp only [Act.put, List.setIfInBounds_toArray, List.set_cons_zero, List.set_cons_succ])
      go_cut [41] (fun v41 wc => ∃ (kq : Nat) (x41_4 : Bool), v41 = .bool x41_4 ∧ Aside0 (span_right.j1 kq x3_1 x4_1 l0 (l0.length : Int) x9_1 x41_4 ((rd_T87 l0 x9_1).f0) ((rd_T87 l0 x9_1).f1) = some r) ∧ Aside0 (kq ≤ k1) ∧ Aside0 (wc.heap[gb102]? = some (.cells #[.int .i64 ((rd_T87 l0 x9_1).f0), .int .i64 ((rd_T87 l0 x9_1).f1)] 87 (0, 0))) ∧ Aside0 (Below w.heap.size w wc))
      case first =>
       have H := HC5.out
       clear HC5
       by_cases c8 : ((rd_T87 l0 x9_1).f0) > 2097152
       ·rw [if_pos c8] at H
        have c8b0 : decide (2097152 < ((rd_T87 l0 x9_1).f0)) = true := decide_eq_true c8
        clear c8
        (first | rw [c8b0] | (simp only [i64_w, i32_w]; rw [c8b0]) | skip)
        have H' := Aside0.mk H
        clear H
        have hcz9_0 : w6.cell? ⟨gb102, 0, none⟩ = some (.int .i64 0) := (blk_cell BK102.out 0).trans rfl
        have hcz9_1 : w6.cell? ⟨gb102, 1, none⟩ = some (.int .i64 0) := (blk_cell BK102.out 1).trans rfl
        have hfz9_0 := blk_frozen BK102.out 0
        have hfz9_1 := blk_frozen BK102.out 1
        go_wp2
        go_meet
        case rel => exact ⟨_, (true), (by first | rfl | (simp; done) | (simp [*]; done)), H', ⟨by have := HK1.out; first | omega | exact Nat.le_refl _⟩, ⟨by (with_reducible repeat (first | refine blk_drewN ?_ _ | refine blk_drew ?_ | refine blk_alloc ?_ _)); refine blk_put (cs := #[.int .i64 ((rd_T87 l0 x9_1).f0), .int .i64 0]) ?_ 1 _ rfl; (with_reducible repeat (first | refine blk_drewN ?_ _ | refine blk_drew ?_ | refine blk_alloc ?_ _)); refine blk_put (cs := #[.int .i64 0, .int .i64 0]) ?_ 0 _ rfl; (with_reducible repeat (first | refine blk_drewN ?_ _ | refine blk_drew ?_ | refine blk_alloc ?_ _)); exact BK102.out⟩, ⟨by repeat (first | (with_reducible first | exact HB.out | apply below_alloc | apply pw_below_drewN | apply below_drew1 | refine below_set ?_ GE102.out) | exact HB.out)⟩⟩
       ·rw [if_neg c8] at H
        have c8b0 : decide (2097152 < ((rd_T87 l0 x9_1).f0)) = false := decide_eq_false c8
        clear c8
        (first | rw [c8b0] | (simp only [i64_w, i32_w]; rw [c8b0]) | skip)
        by_cases c10 : ((rd_T87 l0 x9_1).f1) < 0
        ·rw [if_pos c10] at H
         have c10b0 : decide (((rd_T87 l0 x9_1).f1) < 0) = true := decide_eq_true c10
         clear c10
         have H' := Aside0.mk H
         clear H
         have hcz11_0 : w6.cell? ⟨gb102, 0, none⟩ = some (.int .i64 0) := (blk_cell BK102.out 0).trans rfl
         have hcz11_1 : w6.cell? ⟨gb102, 1, none⟩ = some (.int .i64 0) := (blk_cell BK102.out 1).trans rfl
         have hfz11_0 := blk_frozen BK102.out 0
         have hfz11_1 := blk_frozen BK102.out 1
         go_wp2
         go_meet
         case rel => exact ⟨_, (true), (by first | rfl | (simp; done) | (simp [*]; done)), H', ⟨by have := HK1.out; first | omega | exact Nat.le_refl _⟩, ⟨by (with_reducible repeat (first | refine blk_drewN ?_ _ | refine blk_drew ?_ | refine blk_alloc ?_ _)); refine blk_put (cs := #[.int .i64 ((rd_T87 l0 x9_1).f0), .int .i64 0]) ?_ 1 _ rfl; (with_reducible repeat (first | refine blk_drewN ?_ _ | refine blk_drew ?_ | refine blk_alloc ?_ _)); refine blk_put (cs := #[.int .i64 0, .int .i64 0]) ?_ 0 _ rfl; (with_reducible repeat (first | refine blk_drewN ?_ _ | refine blk_drew ?_ | refine blk_alloc ?_ _)); exact BK102.out⟩, ⟨by repeat (first | (with_reducible first | exact HB.out | apply below_alloc | apply pw_below_drewN | apply below_drew1 | refine below_set ?_ GE102.out) | exact HB.out)⟩⟩
        ·rw [if_neg c10] at H
         have c10b0 : decide (((rd_T87 l0 x9_1).f1) < 0) = false := decide_eq_false c10
         clear c10
         by_cases c12 : ((rd_T87 l0 x9_1).f1) > 4096
         ·rw [if_pos c12] at H
          have c12b0 : decide (4096 < ((rd_T87 l0 x9_1).f1)) = true := decide_eq_true c12
          clear c12
          have H' := Aside0.mk H
          clear H
          have hcz13_0 : w6.cell? ⟨gb102, 0, none⟩ = some (.int .i64 0) := (blk_cell BK102.out 0).trans rfl
          have hcz13_1 : w6.cell? ⟨gb102, 1, none⟩ = some (.int .i64 0) := (blk_cell BK102.out 1).trans rfl
          have hfz13_0 := blk_frozen BK102.out 0
          have hfz13_1 := blk_frozen BK102.out 1
          go_wp2
          go_meet
          case rel => exact ⟨_, (true), (by first | rfl | (simp; done) | (simp [*]; done)), H', ⟨by have := HK1.out; first | omega | exact Nat.le_refl _⟩, ⟨by (with_reducible repeat (first | refine blk_drewN ?_ _ | refine blk_drew ?_ | refine blk_alloc ?_ _)); refine blk_put (cs := #[.int .i64 ((rd_T87 l0 x9_1).f0), .int .i64 0]) ?_ 1 _ rfl; (with_reducible repeat (first | refine blk_drewN ?_ _ | refine blk_drew ?_ | refine blk_alloc ?_ _)); refine blk_put (cs := #[.int .i64 0, .int .i64 0]) ?_ 0 _ rfl; (with_reducible repeat (first | refine blk_drewN ?_ _ | refine blk_drew ?_ | refine blk_alloc ?_ _)); exact BK102.out⟩, ⟨by repeat (first | (with_reducible first | exact HB.out | apply below_alloc | apply pw_below_drewN | apply below_drew1 | refine below_set ?_ GE102.out) | exact HB.out)⟩⟩
         ·rw [if_neg c12] at H
          have c12b0 : decide (4096 < ((rd_T87 l0 x9_1).f1)) = false := decide_eq_false c12
          clear c12
          by_cases c14 : ((rd_T87 l0 x9_1).f0) < 0
          ·rw [if_pos c14] at H
           have c14b0 : decide (((rd_T87 l0 x9_1).f0) < 0) = true := decide_eq_true c14
           clear c14
           by_cases c15 : x9_1 > 0
           ·rw [if_pos c15] at H
            have c15b0 : decide (0 < x9_1) = true := decide_eq_true c15
            clear c15
            have H' := Aside0.mk H
            clear H
            have hcz16_0 : w6.cell? ⟨gb102, 0, none⟩ = some (.int .i64 0) := (blk_cell BK102.out 0).trans rfl
            have hcz16_1 : w6.cell? ⟨gb102, 1, none⟩ = some (.int .i64 0) := (blk_cell BK102.out 1).trans rfl
            have hfz16_0 := blk_frozen BK102.out 0
            have hfz16_1 := blk_frozen BK102.out 1
            go_wp2
            go_meet
            case rel => exact ⟨_, (true), (by first | rfl | (simp; done) | (simp [*]; done)), H', ⟨by have := HK1.out; first | omega | exact Nat.le_refl _⟩, ⟨by (with_reducible repeat (first | refine blk_drewN ?_ _ | refine blk_drew ?_ | refine blk_alloc ?_ _)); refine blk_put (cs := #[.int .i64 ((rd_T87 l0 x9_1).f0), .int .i64 0]) ?_ 1 _ rfl; (with_reducible repeat (first | refine blk_drewN ?_ _ | refine blk_drew ?_ | refine blk_alloc ?_ _)); refine blk_put (cs := #[.int .i64 0, .int .i64 0]) ?_ 0 _ rfl; (with_reducible repeat (first | refine blk_drewN ?_ _ | refine blk_drew ?_ | refine blk_alloc ?_ _)); exact BK102.out⟩, ⟨by repeat (first | (with_reducible first | exact HB.out | apply below_alloc | apply pw_below_drewN | apply below_drew1 | refine below_set ?_ GE102.out) | exact HB.out)⟩⟩
           ·rw [if_neg c15] at H
            have c15b0 : decide (0 < x9_1) = false := decide_eq_false c15
            clear c15
            replace H := Option.bind_eq_some_iff.mp H
            obtain ⟨t103, A170, H⟩ := H
            replace H : (span_right.j1 k1 x3_1 x4_1 l0 (l0.length : Int) x9_1 (!t103) ((rd_T87 l0 x9_1).f0) ((rd_T87 l0 x9_1).f1)) = some r := H
            have A17 := Aside0.mk A170
            clear A170
            have H' := Aside0.mk H
            clear H
            have hcz18_0 : w6.cell? ⟨gb102, 0, none⟩ = some (.int .i64 0) := (blk_cell BK102.out 0).trans rfl
            have hcz18_1 : w6.cell? ⟨gb102, 1, none⟩ = some (.int .i64 0) := (blk_cell BK102.out 1).trans rfl
            have hfz18_0 := blk_frozen BK102.out 0
            have hfz18_1 := blk_frozen BK102.out 1
            go_wp2_with (first | (go_at_call 136; (with_reducible refine (span_in.calls ((rd_T87 l0 x9_1).f0) t103 _ A17.out).mono ?_); rintro e w' ⟨rfl, ⟨nd, rfl⟩⟩; clear A17))
            go_meet
            case rel => exact ⟨_, (!t103), (by first | rfl | (simp; done) | (simp [*]; done)), H', ⟨by have := HK1.out; first | omega | exact Nat.le_refl _⟩, ⟨by (with_reducible repeat (first | refine blk_drewN ?_ _ | refine blk_drew ?_ | refine blk_alloc ?_ _)); refine blk_put (cs := #[.int .i64 ((rd_T87 l0 x9_1).f0), .int .i64 0]) ?_ 1 _ rfl; (with_reducible repeat (first | refine blk_drewN ?_ _ | refine blk_drew ?_ | refine blk_alloc ?_ _)); refine blk_put (cs := #[.int .i64 0, .int .i64 0]) ?_ 0 _ rfl; (with_reducible repeat (first | refine blk_drewN ?_ _ | refine blk_drew ?_ | refine blk_alloc ?_ _)); exact BK102.out⟩, ⟨by repeat (first | (with_reducible first | exact HB.out | apply below_alloc | apply pw_below_drewN | apply below_drew1 | refine below_set ?_ GE102.out) | exact HB.out)⟩⟩
          ·rw [if_neg c14] at H
           have c14b0 : decide (((rd_T87 l0 x9_1).f0) < 0) = false := decide_eq_false c14
           clear c14
           have H' := Aside0.mk H
           clear H
           have hcz19_0 : w6.cell? ⟨gb102, 0, none⟩ = some (.int .i64 0) := (blk_cell BK102.out 0).trans rfl
           have hcz19_1 : w6.cell? ⟨gb102, 1, none⟩ = some (.int .i64 0) := (blk_cell BK102.out 1).trans rfl
           have hfz19_0 := blk_frozen BK102.out 0
           have hfz19_1 := blk_frozen BK102.out 1
           go_wp2
           go_meet
           case rel => exact ⟨_, (false), (by first | rfl | (simp; done) | (simp [*]; done)), H', ⟨by have := HK1.out; first | omega | exact Nat.le_refl _⟩, ⟨by (with_reducible repeat (first | refine blk_drewN ?_ _ | refine blk_drew ?_ | refine blk_alloc ?_ _)); refine blk_put (cs := #[.int .i64 ((rd_T87 l0 x9_1).f0), .int .i64 0]) ?_ 1 _ rfl; (with_reducible repeat (first | refine blk_drewN ?_ _ | refine blk_drew ?_ | refine blk_alloc ?_ _)); refine blk_put (cs := #[.int .i64 0, .int .i64 0]) ?_ 0 _ rfl; (with_reducible repeat (first | refine blk_drewN ?_ _ | refine blk_drew ?_ | refine blk_alloc ?_ _)); exact BK102.out⟩, ⟨by repeat (first | (with_reducible first | exact HB.out | apply below_alloc | apply pw_below_drewN | apply below_drew1 | refine below_set ?_ GE102.out) | exact HB.out)⟩⟩
      case rest =>
       clear HC5
       try clear c1
       try clear p1
       try clear q1
       try clear hx1
       try clear c2
       try clear c2b0
       try clear p2
       try clear c3
       try clear c3b0
       try clear c4
       try clear c4b0
       try clear c8
       try clear c8b0
       try clear c10
       try clear c10b0
       try clear p10
       try clear q10
       try clear hx10
       try clear c12
       try clear c12b0
       try clear c13
       try clear c14
       try clear c14b0
       try clear c15
       try clear c15b0
       try clear hcz11_0
       try clear hcz11_1
       try clear hcz13_0
       try clear hcz13_1
       try clear hcz16_0
       try clear hcz16_1
       try clear hcz18_0
       try clear hcz18_1
       try clear hcz19_0
       try clear hcz19_1
       try clear hcz7_0
       try clear hcz7_1
       try clear hcz9_0
       try clear hcz9_1
       try clear hfz11_0
       try clear hfz11_1
       try clear hfz13_0
       try clear hfz13_1
       try clear hfz16_0
       try clear hfz16_1
       try clear hfz18_0
       try clear hfz18_1
       try clear hfz19_0
       try clear hfz19_1
       try clear hfz7_0
       try clear hfz7_1
       try clear hfz9_0
       try clear hfz9_1
       try clear hx101_0
       try clear hx101_1
       try clear p101
       try clear q101
       obtain ⟨kq, x41_4, rfl, HA, HJ4, BK102, HB⟩ := hcut
       cases kq with
       | zero => exact absurd HA.out (by simp [span_right.j1])
       | succ kj4 =>
        have H := HA.out
        clear HA
        simp only [span_right.j1] at H
        by_cases c20 : x41_4 = true
        ·subst c20
         have H1 : (some false) = some r := by rw [if_pos rfl] at H; exact H
         clear H
         have H := H1
         clear H1
         obtain rfl := Option.some.inj H
         go_wp2
         go_ret
         exact ⟨by first | rfl | (simp [errW_none, errW_some] <;> rfl) | (simp [*, errW_none, errW_some] <;> rfl), by repeat (first | (with_reducible first | exact HB.out | apply below_alloc | apply pw_below_drewN | apply below_drew1 | refine below_set ?_ GE102.out) | exact HB.out)⟩
        ·replace c20 := Bool.eq_false_iff.mpr c20
         subst c20
         have H1 : ((span_in.f (wrap64 (x3_1 + ((rd_T87 l0 x9_1).f0)))).bind fun t104 => (if t104 = true then ((span_in.f (wrap64 ((wrap64 (x3_1 + ((rd_T87 l0 x9_1).f0))) + (mx (wrap64 (((rd_T87 l0 x9_1).f1) - 1)) 0)))).bind fun t105 => (if t105 = true then (if (wrap64 (x4_1 + ((rd_T87 l0 x9_1).f1))) > 4096 then (some false) else (span_right.l0 kj4 (wrap64 ((wrap64 (x3_1 + ((rd_T87 l0 x9_1).f0))) + ((rd_T87 l0 x9_1).f1))) (wrap64 (x4_1 + ((rd_T87 l0 x9_1).f1))) l0 (l0.length : Int) (wrap64 (x9_1 + 1)))) else (some false))) else (some false))) = some r := by rw [if_neg (show ¬ (false = true) by decide)] at H; exact H
         clear H
         have H := H1
         clear H1
         replace H := Option.bind_eq_some_iff.mp H
         obtain ⟨t104, A210, H⟩ := H
         replace H : (if t104 = true then ((span_in.f (wrap64 ((wrap64 (x3_1 + ((rd_T87 l0 x9_1).f0))) + (mx (wrap64 (((rd_T87 l0 x9_1).f1) - 1)) 0)))).bind fun t105 => (if t105 = true then (if (wrap64 (x4_1 + ((rd_T87 l0 x9_1).f1))) > 4096 then (some false) else (span_right.l0 kj4 (wrap64 ((wrap64 (x3_1 + ((rd_T87 l0 x9_1).f0))) + ((rd_T87 l0 x9_1).f1))) (wrap64 (x4_1 + ((rd_T87 l0 x9_1).f1))) l0 (l0.length : Int) (wrap64 (x9_1 + 1)))) else (some false))) else (some false)) = some r := H
         have A21 := Aside0.mk A210
         clear A210
         by_cases c22 : t104 = true
         ·subst c22
          have H1 : ((span_in.f (wrap64 ((wrap64 (x3_1 + ((rd_T87 l0 x9_1).f0))) + (mx (wrap64 (((rd_T87 l0 x9_1).f1) - 1)) 0)))).bind fun t105 => (if t105 = true then (if (wrap64 (x4_1 + ((rd_T87 l0 x9_1).f1))) > 4096 then (some false) else (span_right.l0 kj4 (wrap64 ((wrap64 (x3_1 + ((rd_T87 l0 x9_1).f0))) + ((rd_T87 l0 x9_1).f1))) (wrap64 (x4_1 + ((rd_T87 l0 x9_1).f1))) l0 (l0.length : Int) (wrap64 (x9_1 + 1)))) else (some false))) = some r := by rw [if_pos rfl] at H; exact H
          clear H
          have H := H1
          clear H1
          obtain ⟨ji23, hji23⟩ : ∃ j_ : Int, (mx (wrap64 (((rd_T87 l0 x9_1).f1) - 1)) 0) = j_ := ⟨_, rfl⟩
          replace H : ((span_in.f (wrap64 ((wrap64 (x3_1 + ((rd_T87 l0 x9_1).f0))) + (ji23)))).bind fun t105 => (if t105 = true then (if (wrap64 (x4_1 + ((rd_T87 l0 x9_1).f1))) > 4096 then (some false) else (span_right.l0 kj4 (wrap64 ((wrap64 (x3_1 + ((rd_T87 l0 x9_1).f0))) + ((rd_T87 l0 x9_1).f1))) (wrap64 (x4_1 + ((rd_T87 l0 x9_1).f1))) l0 (l0.length : Int) (wrap64 (x9_1 + 1)))) else (some false))) = some r := by first | (rw [hji23] at H; exact H) | (simp only [hji23] at H ⊢; exact H)
          (try rw [hji23] at A21)
          have hji23_ : (if (wrap64 (((rd_T87 l0 x9_1).f1) - 1)) < 0 then 0 else (wrap64 (((rd_T87 l0 x9_1).f1) - 1))) = ji23 := hji23
          replace H := Option.bind_eq_some_iff.mp H
          obtain ⟨t105, A240, H⟩ := H
          replace H : (if t105 = true then (if (wrap64 (x4_1 + ((rd_T87 l0 x9_1).f1))) > 4096 then (some false) else (span_right.l0 kj4 (wrap64 ((wrap64 (x3_1 + ((rd_T87 l0 x9_1).f0))) + ((rd_T87 l0 x9_1).f1))) (wrap64 (x4_1 + ((rd_T87 l0 x9_1).f1))) l0 (l0.length : Int) (wrap64 (x9_1 + 1)))) else (some false)) = some r := H
          have A24 := Aside0.mk A240
          clear A240
          by_cases c25 : t105 = true
          ·subst c25
           have H1 : (if (wrap64 (x4_1 + ((rd_T87 l0 x9_1).f1))) > 4096 then (some false) else (span_right.l0 kj4 (wrap64 ((wrap64 (x3_1 + ((rd_T87 l0 x9_1).f0))) + ((rd_T87 l0 x9_1).f1))) (wrap64 (x4_1 + ((rd_T87 l0 x9_1).f1))) l0 (l0.length : Int) (wrap64 (x9_1 + 1)))) = some r := by rw [if_pos rfl] at H; exact H
           clear H
           have H := H1
           clear H1
           by_cases c26 : (wrap64 (x4_1 + ((rd_T87 l0 x9_1).f1))) > 4096
           ·rw [if_pos c26] at H
            have c26b0 : decide (4096 < (wrap64 (x4_1 + ((rd_T87 l0 x9_1).f1)))) = true := decide_eq_true c26
            clear c26
            obtain rfl := Option.some.inj H
            have hcz27_0 : wc.cell? ⟨gb102, 0, none⟩ = some (.int .i64 ((rd_T87 l0 x9_1).f0)) := (blk_cell BK102.out 0).trans rfl
            have hcz27_1 : wc.cell? ⟨gb102, 1, none⟩ = some (.int .i64 ((rd_T87 l0 x9_1).f1)) := (blk_cell BK102.out 1).trans rfl
            have hfz27_0 := blk_frozen BK102.out 0
            have hfz27_1 := blk_frozen BK102.out 1
            go_wp2_with (first | ((with_reducible refine gate_callee (f := 136) rfl ?_); refine goesL_ (some 51) rfl rfl Try.func136 (by kernel_rfl) rfl #[.int .i64 (wrap64 (x3_1 + ((rd_T87 l0 x9_1).f0)))] rfl (by (try simp only [List.map_toArray, List.map_cons, List.map_nil]); first | done | rfl | (simp only [List.length_drop, List.length_take]; rfl)) ?_; (with_reducible refine (span_in.calls (wrap64 (x3_1 + ((rd_T87 l0 x9_1).f0))) true _ A21.out).mono ?_); rintro e w' ⟨rfl, ⟨nd, rfl⟩⟩; refine ⟨_, rfl, ?_⟩; clear A21) | (go_at_call 136; (with_reducible refine (span_in.calls (wrap64 ((wrap64 (x3_1 + ((rd_T87 l0 x9_1).f0))) + (ji23))) true _ A24.out).mono ?_); rintro e w' ⟨rfl, ⟨nd, rfl⟩⟩; clear A24))
            go_ret
            exact ⟨by first | rfl | (simp [errW_none, errW_some] <;> rfl) | (simp only [← hji23]; first | rfl | (simp [errW_none, errW_some] <;> rfl)) | (simp [*, errW_none, errW_some] <;> rfl), by repeat (first | (with_reducible first | exact HB.out | apply below_alloc | apply pw_below_drewN | apply below_drew1 | refine below_set ?_ GE102.out) | exact HB.out)⟩
           ·rw [if_neg c26] at H
            have c26b0 : decide (4096 < (wrap64 (x4_1 + ((rd_T87 l0 x9_1).f1)))) = false := decide_eq_false c26
            clear c26
            have H' := Aside0.mk H
            clear H
            have hcz28_0 : wc.cell? ⟨gb102, 0, none⟩ = some (.int .i64 ((rd_T87 l0 x9_1).f0)) := (blk_cell BK102.out 0).trans rfl
            have hcz28_1 : wc.cell? ⟨gb102, 1, none⟩ = some (.int .i64 ((rd_T87 l0 x9_1).f1)) := (blk_cell BK102.out 1).trans rfl
            have hfz28_0 := blk_frozen BK102.out 0
            have hfz28_1 := blk_frozen BK102.out 1
            go_wp2_with (first | ((with_reducible refine gate_callee (f := 136) rfl ?_); refine goesL_ (some 51) rfl rfl Try.func136 (by kernel_rfl) rfl #[.int .i64 (wrap64 (x3_1 + ((rd_T87 l0 x9_1).f0)))] rfl (by (try simp only [List.map_toArray, List.map_cons, List.map_nil]); first | done | rfl | (simp only [List.length_drop, List.length_take]; rfl)) ?_; (with_reducible refine (span_in.calls (wrap64 (x3_1 + ((rd_T87 l0 x9_1).f0))) true _ A21.out).mono ?_); rintro e w' ⟨rfl, ⟨nd, rfl⟩⟩; refine ⟨_, rfl, ?_⟩; clear A21) | (go_at_call 136; (with_reducible refine (span_in.calls (wrap64 ((wrap64 (x3_1 + ((rd_T87 l0 x9_1).f0))) + (ji23))) true _ A24.out).mono ?_); rintro e w' ⟨rfl, ⟨nd, rfl⟩⟩; clear A24))
            go_roundg kj4
            case measure => have := HK1.out; have := HJ4.out; omega
            case rel => exact ⟨(wrap64 ((wrap64 (x3_1 + ((rd_T87 l0 x9_1).f0))) + ((rd_T87 l0 x9_1).f1))), (wrap64 (x4_1 + ((rd_T87 l0 x9_1).f1))), (wrap64 (x9_1 + 1)), (by first | rfl | (simp; done) | (simp [*]; done)), (by first | rfl | (simp; done) | (simp [*]; done)), (by first | rfl | (simp; done) | (simp [*]; done)), H', ⟨by have := HK1.out; have := HJ4.out; omega⟩, ⟨by repeat (first | (with_reducible first | exact HB.out | apply below_alloc | apply pw_below_drewN | apply below_drew1 | refine below_set ?_ GE102.out) | exact HB.out)⟩⟩
          ·replace c25 := Bool.eq_false_iff.mpr c25
           subst c25
           have H1 : (some false) = some r := by rw [if_neg (show ¬ (false = true) by decide)] at H; exact H
           clear H
           have H := H1
           clear H1
           obtain rfl := Option.some.inj H
           have hcz29_0 : wc.cell? ⟨gb102, 0, none⟩ = some (.int .i64 ((rd_T87 l0 x9_1).f0)) := (blk_cell BK102.out 0).trans rfl
           have hcz29_1 : wc.cell? ⟨gb102, 1, none⟩ = some (.int .i64 ((rd_T87 l0 x9_1).f1)) := (blk_cell BK102.out 1).trans rfl
           have hfz29_0 := blk_frozen BK102.out 0
           have hfz29_1 := blk_frozen BK102.out 1
           go_wp2_with (first | ((with_reducible refine gate_callee (f := 136) rfl ?_); refine goesL_ (some 51) rfl rfl Try.func136 (by kernel_rfl) rfl #[.int .i64 (wrap64 (x3_1 + ((rd_T87 l0 x9_1).f0)))] rfl (by (try simp only [List.map_toArray, List.map_cons, List.map_nil]); first | done | rfl | (simp only [List.length_drop, List.length_take]; rfl)) ?_; (with_reducible refine (span_in.calls (wrap64 (x3_1 + ((rd_T87 l0 x9_1).f0))) true _ A21.out).mono ?_); rintro e w' ⟨rfl, ⟨nd, rfl⟩⟩; refine ⟨_, rfl, ?_⟩; clear A21) | (go_at_call 136; (with_reducible refine (span_in.calls (wrap64 ((wrap64 (x3_1 + ((rd_T87 l0 x9_1).f0))) + (ji23))) false _ A24.out).mono ?_); rintro e w' ⟨rfl, ⟨nd, rfl⟩⟩; clear A24))
           go_ret
           exact ⟨by first | rfl | (simp [errW_none, errW_some] <;> rfl) | (simp only [← hji23]; first | rfl | (simp [errW_none, errW_some] <;> rfl)) | (simp [*, errW_none, errW_some] <;> rfl), by repeat (first | (with_reducible first | exact HB.out | apply below_alloc | apply pw_below_drewN | apply below_drew1 | refine below_set ?_ GE102.out) | exact HB.out)⟩
         ·replace c22 := Bool.eq_false_iff.mpr c22
          subst c22
          have H1 : (some false) = some r := by rw [if_neg (show ¬ (false = true) by decide)] at H; exact H
          clear H
          have H := H1
          clear H1
          obtain rfl := Option.some.inj H
          have hcz30_0 : wc.cell? ⟨gb102, 0, none⟩ = some (.int .i64 ((rd_T87 l0 x9_1).f0)) := (blk_cell BK102.out 0).trans rfl
          have hcz30_1 : wc.cell? ⟨gb102, 1, none⟩ = some (.int .i64 ((rd_T87 l0 x9_1).f1)) := (blk_cell BK102.out 1).trans rfl
          have hfz30_0 := blk_frozen BK102.out 0
          have hfz30_1 := blk_frozen BK102.out 1
          go_wp2_with (first | ((with_reducible refine gate_callee (f := 136) rfl ?_); refine goesL_ (some 51) rfl rfl Try.func136 (by kernel_rfl) rfl #[.int .i64 (wrap64 (x3_1 + ((rd_T87 l0 x9_1).f0)))] rfl (by (try simp only [List.map_toArray, List.map_cons, List.map_nil]); first | done | rfl | (simp only [List.length_drop, List.length_take]; rfl)) ?_; (with_reducible refine (span_in.calls (wrap64 (x3_1 + ((rd_T87 l0 x9_1).f0))) false _ A21.out).mono ?_); rintro e w' ⟨rfl, ⟨nd, rfl⟩⟩; refine ⟨_, rfl, ?_⟩; clear A21))
          go_ret
          exact ⟨by first | rfl | (simp [errW_none, errW_some] <;> rfl) | (simp [*, errW_none, errW_some] <;> rfl), by repeat (first | (with_reducible first | exact HB.out | apply below_alloc | apply pw_below_drewN | apply below_drew1 | refine below_set ?_ GE102.out) | exact HB.out)⟩
     ·rw [if_neg c4] at H
      exact absurd H (by simp)
    ·rw [if_neg c3] at H
     exact absurd H (by simp)
   ·rw [if_neg c2] at H
    have c2b0 : decide (x9_1 < (l0.length : Int)) = false := decide_eq_false c2
    clear c2
    obtain rfl := Option.some.inj H
    go_wp2
    go_ret
    exact ⟨by first | rfl | (simp [errW_none, errW_some] <;> rfl) | (simp [*, errW_none, errW_some] <;> rfl), by repeat (first | (with_reducible first | exact HB.out | apply below_alloc | apply pw_below_drewN | apply below_drew1) | exact HB.out)⟩
def span_Check.f (k : Nat) (l0 : List (S87)) : Option (Int) := if (l0.length : Int) > 1024 then (some 12) else ((span_right.f k l0).bind fun t101 => (if t101 = true then (some 0) else (some 20)))
set_option maxHeartbeats 8000000 in
set_option maxRecDepth 100000 in
theorem span_Check.calls (k : Nat) (A0 : Option Addr) (c0 : Nat) (l0 : List (S87)) (r : Int) (w : World) (hr0 : Kd.C k87 w A0 l0.length l0) (hc0 : l0.length ≤ c0) (h : span_Check.f k l0 = some r) :
  Calls Try.prog 118 #[.slice A0 l0.length c0] w fun e w' => e = .returned (.int .i64 r) ∧ Below w.heap.size w w' := by
 have HR0 := Aside0.mk hr0
 have HC0 := Aside0.mk hc0
 clear hr0 hc0
 have HB := Aside0.mk (Below.refl w.heap.size w)
 have H : (if (l0.length : Int) > 1024 then (some 12) else ((span_right.f k l0).bind fun t101 => (if t101 = true then (some 0) else (some 20)))) = some r := h
 clear h
 by_cases c2 : (l0.length : Int) > 1024
 ·rw [if_pos c2] at H
  have c2b0 : decide (1024 < (l0.length : Int)) = true := decide_eq_true c2
  have c2b1 : decide (1024 < l0.length) = true := decide_eq_true (by omega)
  clear c2
  obtain rfl := Option.some.inj H
  go_enter Try.func118, Try.ntmps118
  go_wp2
  go_ret
  exact ⟨by first | rfl | (simp [errW_none, errW_some] <;> rfl) | (simp [*, errW_none, errW_some] <;> rfl), by repeat (first | (with_reducible first | exact HB.out | apply below_alloc | apply pw_below_drewN | apply below_drew1) | exact HB.out)⟩
 ·rw [if_neg c2] at H
  have c2b0 : decide (1024 < (l0.length : Int)) = false := decide_eq_false c2
  have c2b1 : decide (1024 < l0.length) = false := decide_eq_false (by omega)
  clear c2
  replace H := Option.bind_eq_some_iff.mp H
  obtain ⟨t101, A30, H⟩ := H
  replace H : (if t101 = true then (some 0) else (some 20)) = some r := H
  have A3 := Aside0.mk A30
  clear A30
  by_cases c4 : t101 = true
  ·subst c4
   have H1 : (some 0) = some r := by rw [if_pos rfl] at H; exact H
   clear H
   have H := H1
   clear H1
   obtain rfl := Option.some.inj H
   go_enter Try.func118, Try.ntmps118
   go_wp2_with (first | ((with_reducible refine gate_callee (f := 133) rfl ?_); refine goesL_ (some 9) rfl rfl Try.func133 (by kernel_rfl) rfl #[.slice A0 l0.length c0] rfl (by (try simp only [List.map_toArray, List.map_cons, List.map_nil]); first | done | rfl | (simp only [List.length_drop, List.length_take]; rfl)) ?_; (with_reducible refine (span_right.calls k _ _ l0 true _ ?side1 ?side2 A3.out).mono ?_); (case side1 => repeat (first | exact HR0.out | (with_reducible refine Kd.C_alloc ?_ _) | (with_reducible refine Kd.C_drewN ?_ _) | (with_reducible refine Kd.C_drew ?_))); (case side2 => exact HC0.out); rintro e w5 ⟨rfl, hb⟩; refine ⟨_, rfl, ?_⟩; have n0_ := Aside0.mk (below_step (by repeat (first | (with_reducible first | exact HB.out | apply below_alloc | apply pw_below_drewN | apply below_drew1) | exact HB.out)) hb); clear HB; have HB := n0_; clear n0_; (try clear hb); (try clear hb2); (try clear hk); (try clear hi); clear A3))
   go_ret
   exact ⟨by first | rfl | (simp [errW_none, errW_some] <;> rfl) | (simp [*, errW_none, errW_some] <;> rfl), by repeat (first | (with_reducible first | exact HB.out | apply below_alloc | apply pw_below_drewN | apply below_drew1) | exact HB.out)⟩
  ·replace c4 := Bool.eq_false_iff.mpr c4
   subst c4
   have H1 : (some 20) = some r := by rw [if_neg (show ¬ (false = true) by decide)] at H; exact H
   clear H
   have H := H1
   clear H1
   obtain rfl := Option.some.inj H
   go_enter Try.func118, Try.ntmps118
   go_wp2_with (first | ((with_reducible refine gate_callee (f := 133) rfl ?_); refine goesL_ (some 9) rfl rfl Try.func133 (by kernel_rfl) rfl #[.slice A0 l0.length c0] rfl (by (try simp only [List.map_toArray, List.map_cons, List.map_nil]); first | done | rfl | (simp only [List.length_drop, List.length_take]; rfl)) ?_; (with_reducible refine (span_right.calls k _ _ l0 false _ ?side1 ?side2 A3.out).mono ?_); (case side1 => repeat (first | exact HR0.out | (with_reducible refine Kd.C_alloc ?_ _) | (with_reducible refine Kd.C_drewN ?_ _) | (with_reducible refine Kd.C_drew ?_))); (case side2 => exact HC0.out); rintro e w6 ⟨rfl, hb⟩; refine ⟨_, rfl, ?_⟩; have n0_ := Aside0.mk (below_step (by repeat (first | (with_reducible first | exact HB.out | apply below_alloc | apply pw_below_drewN | apply below_drew1) | exact HB.out)) hb); clear HB; have HB := n0_; clear n0_; (try clear hb); (try clear hb2); (try clear hk); (try clear hi); clear A3))
   go_ret
   exact ⟨by first | rfl | (simp [errW_none, errW_some] <;> rfl) | (simp [*, errW_none, errW_some] <;> rfl), by repeat (first | (with_reducible first | exact HB.out | apply below_alloc | apply pw_below_drewN | apply below_drew1) | exact HB.out)⟩
def span_Count.l0 : Nat → Int → List (S87) → Int → Int → Option (Int)
 | 0, _, _, _, _ => none
 | k + 1, x3, x9, x10, x11 => if x11 < x10 then (if 0 ≤ x11 then (if x11 < (x9.length : Int) then (span_Count.l0 k (wrap64 (x3 + ((rd_T87 x9 x11).f1))) x9 x10 (wrap64 (x11 + 1))) else (none)) else (none)) else (some x3)
def span_Count.f (k : Nat) (l0 : List (S87)) : Option (Int) := (span_Check.f k l0).bind fun t101 => (if t101 = 0 then (span_Count.l0 k 0 l0 (l0.length : Int) 0) else (some 0))
set_option maxHeartbeats 8000000 in
set_option maxRecDepth 100000 in
theorem span_Count.calls (k : Nat) (A0 : Option Addr) (c0 : Nat) (l0 : List (S87)) (r : Int) (w : World) (hr0 : Kd.C k87 w A0 l0.length l0) (hc0 : l0.length ≤ c0) (h : span_Count.f k l0 = some r) :
  Calls Try.prog 119 #[.slice A0 l0.length c0] w fun e w' => e = .returned (.int .i64 r) ∧ Below w.heap.size w w' := by
 have hu87 := Try.underlying87
 have HR0 := Aside0.mk hr0
 have HC0 := Aside0.mk hc0
 clear hr0 hc0
 have HB := Aside0.mk (Below.refl w.heap.size w)
 have H : ((span_Check.f k l0).bind fun t101 => (if t101 = 0 then (span_Count.l0 k 0 l0 (l0.length : Int) 0) else (some 0))) = some r := h
 clear h
 replace H := Option.bind_eq_some_iff.mp H
 obtain ⟨t101, A20, H⟩ := H
 replace H : (if t101 = 0 then (span_Count.l0 k 0 l0 (l0.length : Int) 0) else (some 0)) = some r := H
 have A2 := Aside0.mk A20
 clear A20
 by_cases c3 : t101 = 0
 ·rw [if_pos c3] at H
  have c3b0 : (t101 == 0) = true := beq_iff_eq.mpr c3
  have c3b1 : (t101 != 0) = false := bne_eq_false_iff_eq.mpr c3
  clear c3
  have H' := Aside0.mk H
  clear H
  go_enter Try.func119, Try.ntmps119
  go_wp2_with (first | ((with_reducible refine gate_callee (f := 118) rfl ?_); refine goesL_ (some 7) rfl rfl Try.func118 (by kernel_rfl) rfl #[.slice A0 l0.length c0] rfl (by (try simp only [List.map_toArray, List.map_cons, List.map_nil]); first | done | rfl | (simp only [List.length_drop, List.length_take]; rfl)) ?_; (with_reducible refine (span_Check.calls k _ _ l0 t101 _ ?side1 ?side2 A2.out).mono ?_); (case side1 => repeat (first | exact HR0.out | (with_reducible refine Kd.C_alloc ?_ _) | (with_reducible refine Kd.C_drewN ?_ _) | (with_reducible refine Kd.C_drew ?_))); (case side2 => exact HC0.out); rintro e w4 ⟨rfl, hb⟩; refine ⟨_, rfl, ?_⟩; have n0_ := Aside0.mk (below_step (by repeat (first | (with_reducible first | exact HB.out | apply below_alloc | apply pw_below_drewN | apply below_drew1) | exact HB.out)) hb); clear HB; have HB := n0_; clear n0_; (try clear hb); (try clear hb2); (try clear hk); (try clear hi); clear A2))
  go_loopg [3, 11] k (fun kq v3 v11 w' => ∃ (x3_1 : Int) (x11_1 : Int), v3 = .int .i64 x3_1 ∧ v11 = .int .i64 x11_1 ∧ Aside0 (span_Count.l0 kq x3_1 l0 (l0.length : Int) x11_1 = some r) ∧ Aside0 (kq ≤ k) ∧ Aside0 (Below w.heap.size w w'))
  case atStart => exact ⟨(0), (0), (by first | rfl | (simp; done) | (simp [*]; done)), (by first | rfl | (simp; done) | (simp [*]; done)), H', ⟨Nat.le_refl _⟩, ⟨by repeat (first | (with_reducible first | exact HB.out | apply below_alloc | apply pw_below_drewN | apply below_drew1) | exact HB.out)⟩⟩
  case round =>
   clear H'
   try clear c1
   try clear p2
   try clear c3
   try clear c3b0
   try clear c3b1
   obtain ⟨x3_1, x11_1, rfl, rfl, HA, HK1, HB⟩ := hrel
   cases gk with
   | zero => exact absurd HA.out (by simp [span_Count.l0])
   | succ k1 =>
    have H := HA.out
    clear HA
    simp only [span_Count.l0] at H
    by_cases c5 : x11_1 < (l0.length : Int)
    ·rw [if_pos c5] at H
     have c5b0 : decide (x11_1 < (l0.length : Int)) = true := decide_eq_true c5
     clear c5
     by_cases c6 : 0 ≤ x11_1
     ·rw [if_pos c6] at H
      have c6b0 : decide (0 ≤ x11_1) = true := decide_eq_true c6
      clear c6
      by_cases c7 : x11_1 < (l0.length : Int)
      ·rw [if_pos c7] at H
       have c7b0 : decide (x11_1 < (l0.length : Int)) = true := decide_eq_true c7
       clear c7
       have H' := Aside0.mk H
       clear H
       have p102 : 0 ≤ (x11_1 : Int) := of_decide_eq_true (by first | (with_reducible assumption) | assumption)
       have q102 : x11_1 < (l0.length : Int) := of_decide_eq_true (by first | (with_reducible assumption) | assumption)
       obtain ⟨ad102, e102, hx102_0, hx102_1⟩ := at_T87 HR0.out x11_1 p102 q102
       cases e102
       replace hx102_0 := (HB.out.cell (World.block_lt_of_cell? w _ hx102_0)).trans hx102_0
       replace hx102_1 := (HB.out.cell (World.block_lt_of_cell? w _ hx102_1)).trans hx102_1
       replace p102 := eq_true p102
       replace q102 := eq_true q102
       go_wp2_with (first | ((with_reducible refine gate_dst (N := 5) rfl ?_); refine box_event ?hg (N := 5) ?hd (cs := #[.int .i64 0, .int .i64 0]) (t := 87) ?hr ?_; (case hd => rfl); (case hg => rfl); (case hr => first | (go_simp; done) | (go_simp; rfl)); intro gb103 hg w8 hbox hb; have n0_ := Aside0.mk (below_step (by repeat (first | (with_reducible first | exact HB.out | apply below_alloc | apply pw_below_drewN | apply below_drew1) | exact HB.out)) hb); have n1_ := Aside0.mk (hbox); have n2_ := Aside0.mk ((by rw [hg]; exact (below_size (by repeat (first | (with_reducible first | exact HB.out | apply below_alloc | apply pw_below_drewN | apply below_drew1) | exact HB.out))) : w.heap.size ≤ gb103)); have n3_ := Aside0.mk ((by rw [hg]; exact (below_size (by repeat (first | (with_reducible first | exact HB.out | apply below_alloc | apply pw_below_drewN | apply below_drew1) | exact HB.out))) : w.heap.size ≤ gb103)); clear HB; have HB := n0_; have BK103 := n1_; have GW103 := n2_; have GE103 := n3_; clear n0_ n1_ n2_ n3_; clear hb hbox hg; have hcz9_0 : w8.cell? ⟨gb103, 0, none⟩ = some (.int .i64 0) := (blk_cell BK103.out 0).trans rfl; have hcz9_1 : w8.cell? ⟨gb103, 1, none⟩ = some (.int .i64 0) := (blk_cell BK103.out 1).trans rfl; have hfz9_0 := blk_frozen BK103.out 0; have hfz9_1 := blk_frozen BK103.out 1))
       go_roundg k1
       case measure => have := HK1.out; omega
       case rel => exact ⟨(wrap64 (x3_1 + ((rd_T87 l0 x11_1).f1))), (wrap64 (x11_1 + 1)), (by first | rfl | (simp; done) | (simp [*]; done)), (by first | rfl | (simp; done) | (simp [*]; done)), H', ⟨by have := HK1.out; omega⟩, ⟨by repeat (first | (with_reducible first | exact HB.out | apply below_alloc | apply pw_below_drewN | apply below_drew1 | refine below_set ?_ GE103.out) | exact HB.out)⟩⟩
      ·rw [if_neg c7] at H
       exact absurd H (by simp)
     ·rw [if_neg c6] at H
      exact absurd H (by simp)
    ·rw [if_neg c5] at H
     have c5b0 : decide (x11_1 < (l0.length : Int)) = false := decide_eq_false c5
     clear c5
     obtain rfl := Option.some.inj H
     go_wp2
     go_ret
     exact ⟨by first | rfl | (simp [errW_none, errW_some] <;> rfl) | (simp [*, errW_none, errW_some] <;> rfl), by repeat (first | (with_reducible first | exact HB.out | apply below_alloc | apply pw_below_drewN | apply below_drew1) | exact HB.out)⟩
 ·rw [if_neg c3] at H
  have c3b0 : (t101 == 0) = false := beq_eq_false_iff_ne.mpr c3
  have c3b1 : (t101 != 0) = true := bne_iff_ne.mpr c3
  obtain rfl := Option.some.inj H
  go_enter Try.func119, Try.ntmps119
  go_wp2_with (first | ((with_reducible refine gate_callee (f := 118) rfl ?_); refine goesL_ (some 7) rfl rfl Try.func118 (by kernel_rfl) rfl #[.slice A0 l0.length c0] rfl (by (try simp only [List.map_toArray, List.map_cons, List.map_nil]); first | done | rfl | (simp only [List.length_drop, List.length_take]; rfl)) ?_; (with_reducible refine (span_Check.calls k _ _ l0 t101 _ ?side1 ?side2 A2.out).mono ?_); (case side1 => repeat (first | exact HR0.out | (with_reducible refine Kd.C_alloc ?_ _) | (with_reducible refine Kd.C_drewN ?_ _) | (with_reducible refine Kd.C_drew ?_))); (case side2 => exact HC0.out); rintro e w10 ⟨rfl, hb⟩; refine ⟨_, rfl, ?_⟩; have n0_ := Aside0.mk (below_step (by repeat (first | (with_reducible first | exact HB.out | apply below_alloc | apply pw_below_drewN | apply below_drew1) | exact HB.out)) hb); clear HB; have HB := n0_; clear n0_; (try clear hb); (try clear hb2); (try clear hk); (try clear hi); clear A2))
  go_ret
  exact ⟨by first | rfl | (simp [errW_none, errW_some] <;> rfl) | (simp [*, errW_none, errW_some] <;> rfl), by repeat (first | (with_reducible first | exact HB.out | apply below_alloc | apply pw_below_drewN | apply below_drew1) | exact HB.out)⟩
mutual
def span_From.l0 : Nat → List Int → List (S87) → Int → List Int → Int → Int → Option ((List (S87)) × Int)
 | 0, _, _, _, _, _, _ => none
 | k + 1, x0, x4, x5, x8, x9, x10 => if x10 < x9 then (if 0 ≤ x10 then (if x10 < (x8.length : Int) then ((span_in.f (rd x8 x10)).bind fun t102 => (if t102 = true then (if x10 > 0 then (span_From.j1 k x0 x4 x5 x10 (rd x8 x10) x8 x9 x10 (decide ((rd x8 x10) < x5))) else (span_From.j1 k x0 x4 x5 x10 (rd x8 x10) x8 x9 x10 false)) else (span_From.j1 k x0 x4 x5 x10 (rd x8 x10) x8 x9 x10 true))) else (none)) else (none)) else (if (x0.length : Int) > 4096 then (some (([] : List (S87)), 12)) else (if (x4.length : Int) > 1024 then (some (([] : List (S87)), 12)) else (some (x4, 0))))
def span_From.j1 : Nat → List Int → List (S87) → Int → Int → Int → List Int → Int → Int → Bool → Option ((List (S87)) × Int)
 | 0, _, _, _, _, _, _, _, _, _ => none
 | k + 1, x0, x4, x5, x6, x7, x8, x9, x10, x26 => if x26 = true then (some (([] : List (S87)), 11)) else (if x6 = 0 then (if x4.length < 8796093022208 then ((some (x4 ++ [(⟨wrap64 (x7 - x5), 0⟩ : S87)] : List (S87))).bind fun y103 => (if 0 ≤ (wrap64 ((y103.length : Int) - 1)) then (if (wrap64 ((y103.length : Int) - 1)) < (y103.length : Int) then (span_From.l0 k x0 (y103.set ((wrap64 ((y103.length : Int) - 1)) : Int).toNat (⟨(rd_T87 y103 (wrap64 ((y103.length : Int) - 1))).f0, wrap64 (((rd_T87 y103 (wrap64 ((y103.length : Int) - 1))).f1) + 1)⟩ : S87)) (wrap64 (x7 + 1)) x8 x9 (wrap64 (x10 + 1))) else (none)) else (none))) else (none)) else (if x7 > x5 then (if x4.length < 8796093022208 then ((some (x4 ++ [(⟨wrap64 (x7 - x5), 0⟩ : S87)] : List (S87))).bind fun y108 => (if 0 ≤ (wrap64 ((y108.length : Int) - 1)) then (if (wrap64 ((y108.length : Int) - 1)) < (y108.length : Int) then (span_From.l0 k x0 (y108.set ((wrap64 ((y108.length : Int) - 1)) : Int).toNat (⟨(rd_T87 y108 (wrap64 ((y108.length : Int) - 1))).f0, wrap64 (((rd_T87 y108 (wrap64 ((y108.length : Int) - 1))).f1) + 1)⟩ : S87)) (wrap64 (x7 + 1)) x8 x9 (wrap64 (x10 + 1))) else (none)) else (none))) else (none)) else (if 0 ≤ (wrap64 ((x4.length : Int) - 1)) then (if (wrap64 ((x4.length : Int) - 1)) < (x4.length : Int) then (span_From.l0 k x0 (x4.set ((wrap64 ((x4.length : Int) - 1)) : Int).toNat (⟨(rd_T87 x4 (wrap64 ((x4.length : Int) - 1))).f0, wrap64 (((rd_T87 x4 (wrap64 ((x4.length : Int) - 1))).f1) + 1)⟩ : S87)) (wrap64 (x7 + 1)) x8 x9 (wrap64 (x10 + 1))) else (none)) else (none))))
end
def span_From.f (k : Nat) (l0 : List Int) : Option ((List (S87)) × Int) := span_From.l0 k l0 ([] : List (S87)) 0 l0 (l0.length : Int) 0
set_option maxHeartbeats 8000000 in
set_option maxRecDepth 100000 in
theorem span_From.calls (k : Nat) (A0 : Option Addr) (c0 : Nat) (l0 : List Int) (r1 : List (S87)) (r2 : Int) (w : World) (hr0 : Kd.C (Kd.int .i64) w A0 l0.length l0) (hc0 : l0.length ≤ c0) (h : span_From.f k l0 = some (r1, r2)) :
  Calls Try.prog 124 #[.slice A0 l0.length c0] w fun e w' => ∃ v0_ : Value, e = .returned (.tuple #[v0_, .int .i64 r2]) ∧ Kd.R k87 87 w' w.heap.size (fun _ => True) v0_ r1 ∧ Below w.heap.size w w' := by
 have hu87 := Try.underlying87
 have HR0 := Aside0.mk hr0
 have HC0 := Aside0.mk hc0
 clear hr0 hc0
 have HB := Aside0.mk (Below.refl w.heap.size w)
 have H : (span_From.l0 k l0 ([] : List (S87)) 0 l0 (l0.length : Int) 0) = some (r1, r2) := h
 clear h
 have H' := Aside0.mk H
 clear H
 go_enter Try.func124, Try.ntmps124
 go_wp2
 go_loopg [4, 5, 10] k (fun kq v4 v5 v10 w' => ∃ (x4_1 : List (S87)) (x5_1 : Int) (x10_1 : Int), v5 = .int .i64 x5_1 ∧ v10 = .int .i64 x10_1 ∧ Aside0 (span_From.l0 kq l0 x4_1 x5_1 l0 (l0.length : Int) x10_1 = some (r1, r2)) ∧ Aside0 (kq ≤ k) ∧ Aside0 (Kd.R k87 87 w' w.heap.size (fun _ => True) v4 x4_1) ∧ Aside0 (Below w.heap.size w w'))
 case atStart => exact ⟨(([] : List (S87))), (0), (0), (by first | rfl | (simp; done) | (simp [*]; done)), (by first | rfl | (simp; done) | (simp [*]; done)), H', ⟨Nat.le_refl _⟩, ⟨by first | exact Kd.R_nil _ _ _ _ _ | exact Kd.N_nil _ _ _ _ _ | exact Kd.V_nil _ _ _ _ _ | exact Kd.Q_nil _ _ _ _ _ | exact Kd.S_nil _ _ _ _ _⟩, ⟨by repeat (first | (with_reducible first | exact HB.out | apply below_alloc | apply pw_below_drewN | apply below_drew1) | exact HB.out)⟩⟩
 case round =>
  clear H'
  try clear c1
  obtain ⟨x4_1, x5_1, x10_1, rfl, rfl, HA, HK1, HO_4, HB⟩ := hrel
  cases gk with
  | zero => exact absurd HA.out (by simp [span_From.l0])
  | succ k1 =>
   have H := HA.out
   clear HA
   simp only [span_From.l0] at H
   by_cases c2 : x10_1 < (l0.length : Int)
   ·rw [if_pos c2] at H
    have c2b0 : decide (x10_1 < (l0.length : Int)) = true := decide_eq_true c2
    clear c2
    by_cases c3 : 0 ≤ x10_1
    ·rw [if_pos c3] at H
     have c3b0 : decide (0 ≤ x10_1) = true := decide_eq_true c3
     clear c3
     by_cases c4 : x10_1 < (l0.length : Int)
     ·rw [if_pos c4] at H
      have c4b0 : decide (x10_1 < (l0.length : Int)) = true := decide_eq_true c4
      clear c4
      have HC5 := Aside0.mk H
      clear H
      have p101 : 0 ≤ (x10_1 : Int) := of_decide_eq_true (by first | (with_reducible assumption) | assumption)
      have q101 : x10_1 < (l0.length : Int) := of_decide_eq_true (by first | (with_reducible assumption) | assumption)
      obtain ⟨ad101, e101, hx101_0⟩ := Kd.at_int HR0.out x10_1 p101 q101
      cases e101
      replace hx101_0 := (HB.out.cell (World.block_lt_of_cell? w _ hx101_0)).trans hx101_0
      replace p101 := eq_true p101
      replace q101 := eq_true q101
      go_upto_region 6 with (fail)
      go_cut [26] (fun v26 wc => ∃ (kq : Nat) (x26_4 : Bool), v26 = .bool x26_4 ∧ Aside0 (span_From.j1 kq l0 x4_1 x5_1 x10_1 (rd l0 x10_1) l0 (l0.length : Int) x10_1 x26_4 = some (r1, r2)) ∧ Aside0 (kq ≤ k1) ∧ Aside0 (Kd.R k87 87 wc w.heap.size (fun _ => True) u4 x4_1) ∧ Aside0 (Below w.heap.size w wc))
      case first =>
       have H := HC5.out
       clear HC5
       replace H := Option.bind_eq_some_iff.mp H
       obtain ⟨t102, A60, H⟩ := H
       replace H : (if t102 = true then (if x10_1 > 0 then (span_From.j1 k1 l0 x4_1 x5_1 x10_1 (rd l0 x10_1) l0 (l0.length : Int) x10_1 (decide ((rd l0 x10_1) < x5_1))) else (span_From.j1 k1 l0 x4_1 x5_1 x10_1 (rd l0 x10_1) l0 (l0.length : Int) x10_1 false)) else (span_From.j1 k1 l0 x4_1 x5_1 x10_1 (rd l0 x10_1) l0 (l0.length : Int) x10_1 true)) = some (r1, r2) := H
       have A6 := Aside0.mk A60
       clear A60
       by_cases c7 : t102 = true
       ·subst c7
        have H1 : (if x10_1 > 0 then (span_From.j1 k1 l0 x4_1 x5_1 x10_1 (rd l0 x10_1) l0 (l0.length : Int) x10_1 (decide ((rd l0 x10_1) < x5_1))) else (span_From.j1 k1 l0 x4_1 x5_1 x10_1 (rd l0 x10_1) l0 (l0.length : Int) x10_1 false)) = some (r1, r2) := by rw [if_pos rfl] at H; exact H
        clear H
        have H := H1
        clear H1
        by_cases c8 : x10_1 > 0
        ·rw [if_pos c8] at H
         have c8b0 : decide (0 < x10_1) = true := decide_eq_true c8
         clear c8
         (first | rw [c8b0] | (simp only [i64_w, i32_w]; rw [c8b0]) | skip)
         have H' := Aside0.mk H
         clear H
         go_wp2_with (first | ((with_reducible refine gate_callee (f := 136) rfl ?_); refine goesL_ (some 16) rfl rfl Try.func136 (by kernel_rfl) rfl #[.int .i64 (rd l0 x10_1)] rfl (by (try simp only [List.map_toArray, List.map_cons, List.map_nil]); first | done | rfl | (simp only [List.length_drop, List.length_take]; rfl)) ?_; (with_reducible refine (span_in.calls (rd l0 x10_1) true _ A6.out).mono ?_); rintro e w' ⟨rfl, ⟨nd, rfl⟩⟩; refine ⟨_, rfl, ?_⟩; clear A6))
         go_meet
         case rel => exact ⟨_, (decide ((rd l0 x10_1) < x5_1)), (by first | rfl | (simp; done) | (simp [*]; done)), H', ⟨by have := HK1.out; first | omega | exact Nat.le_refl _⟩, ⟨by (with_reducible repeat (first | apply Kd.R_alloc | apply Kd.R_drewN | apply Kd.R_drew)); exact HO_4.out⟩, ⟨by repeat (first | (with_reducible first | exact HB.out | apply below_alloc | apply pw_below_drewN | apply below_drew1) | exact HB.out)⟩⟩
        ·rw [if_neg c8] at H
         have c8b0 : decide (0 < x10_1) = false := decide_eq_false c8
         clear c8
         (first | rw [c8b0] | (simp only [i64_w, i32_w]; rw [c8b0]) | skip)
         have H' := Aside0.mk H
         clear H
         go_wp2_with (first | ((with_reducible refine gate_callee (f := 136) rfl ?_); refine goesL_ (some 16) rfl rfl Try.func136 (by kernel_rfl) rfl #[.int .i64 (rd l0 x10_1)] rfl (by (try simp only [List.map_toArray, List.map_cons, List.map_nil]); first | done | rfl | (simp only [List.length_drop, List.length_take]; rfl)) ?_; (with_reducible refine (span_in.calls (rd l0 x10_1) true _ A6.out).mono ?_); rintro e w' ⟨rfl, ⟨nd, rfl⟩⟩; refine ⟨_, rfl, ?_⟩; clear A6))
         go_meet
         case rel => exact ⟨_, (false), (by first | rfl | (simp; done) | (simp [*]; done)), H', ⟨by have := HK1.out; first | omega | exact Nat.le_refl _⟩, ⟨by (with_reducible repeat (first | apply Kd.R_alloc | apply Kd.R_drewN | apply Kd.R_drew)); exact HO_4.out⟩, ⟨by repeat (first | (with_reducible first | exact HB.out | apply below_alloc | apply pw_below_drewN | apply below_drew1) | exact HB.out)⟩⟩
       ·replace c7 := Bool.eq_false_iff.mpr c7
        subst c7
        have H1 : (span_From.j1 k1 l0 x4_1 x5_1 x10_1 (rd l0 x10_1) l0 (l0.length : Int) x10_1 true) = some (r1, r2) := by rw [if_neg (show ¬ (false = true) by decide)] at H; exact H
        clear H
        have H := H1
        clear H1
        have H' := Aside0.mk H
        clear H
        go_wp2_with (first | ((with_reducible refine gate_callee (f := 136) rfl ?_); refine goesL_ (some 16) rfl rfl Try.func136 (by kernel_rfl) rfl #[.int .i64 (rd l0 x10_1)] rfl (by (try simp only [List.map_toArray, List.map_cons, List.map_nil]); first | done | rfl | (simp only [List.length_drop, List.length_take]; rfl)) ?_; (with_reducible refine (span_in.calls (rd l0 x10_1) false _ A6.out).mono ?_); rintro e w' ⟨rfl, ⟨nd, rfl⟩⟩; refine ⟨_, rfl, ?_⟩; clear A6))
        go_meet
        case rel => exact ⟨_, (true), (by first | rfl | (simp; done) | (simp [*]; done)), H', ⟨by have := HK1.out; first | omega | exact Nat.le_refl _⟩, ⟨by (with_reducible repeat (first | apply Kd.R_alloc | apply Kd.R_drewN | apply Kd.R_drew)); exact HO_4.out⟩, ⟨by repeat (first | (with_reducible first | exact HB.out | apply below_alloc | apply pw_below_drewN | apply below_drew1) | exact HB.out)⟩⟩
      case rest =>
       clear HC5
       try clear c1
       try clear p1
       try clear q1
       try clear hx1
       try clear c2
       try clear c2b0
       try clear p2
       try clear c3
       try clear c3b0
       try clear c4
       try clear c4b0
       try clear c7
       try clear c8
       try clear c8b0
       try clear hx101_0
       try clear p101
       try clear q101
       obtain ⟨kq, x26_4, rfl, HA, HJ4, HO_4, HB⟩ := hcut
       cases kq with
       | zero => exact absurd HA.out (by simp [span_From.j1])
       | succ kj4 =>
        have H := HA.out
        clear HA
        simp only [span_From.j1] at H
        by_cases c9 : x26_4 = true
        ·subst c9
         have H1 : (some (([] : List (S87)), 11)) = some (r1, r2) := by rw [if_pos rfl] at H; exact H
         clear H
         have H := H1
         clear H1
         simp only [Option.some.injEq, Prod.mk.injEq] at H
         obtain ⟨rfl, rfl⟩ := H
         go_wp2
         go_ret2
         exact ⟨_, by first | rfl | (simp [errW_none, errW_some] <;> rfl) | (simp [*, errW_none, errW_some] <;> rfl), by first | exact Kd.R_nil _ _ _ _ _ | exact Kd.N_nil _ _ _ _ _ | exact Kd.V_nil _ _ _ _ _ | exact Kd.Q_nil _ _ _ _ _ | exact Kd.S_nil _ _ _ _ _, by repeat (first | (with_reducible first | exact HB.out | apply below_alloc | apply pw_below_drewN | apply below_drew1) | exact HB.out)⟩
        ·replace c9 := Bool.eq_false_iff.mpr c9
         subst c9
         have H1 : (if x10_1 = 0 then (if x4_1.length < 8796093022208 then ((some (x4_1 ++ [(⟨wrap64 ((rd l0 x10_1) - x5_1), 0⟩ : S87)] : List (S87))).bind fun y103 => (if 0 ≤ (wrap64 ((y103.length : Int) - 1)) then (if (wrap64 ((y103.length : Int) - 1)) < (y103.length : Int) then (span_From.l0 kj4 l0 (y103.set ((wrap64 ((y103.length : Int) - 1)) : Int).toNat (⟨(rd_T87 y103 (wrap64 ((y103.length : Int) - 1))).f0, wrap64 (((rd_T87 y103 (wrap64 ((y103.length : Int) - 1))).f1) + 1)⟩ : S87)) (wrap64 ((rd l0 x10_1) + 1)) l0 (l0.length : Int) (wrap64 (x10_1 + 1))) else (none)) else (none))) else (none)) else (if (rd l0 x10_1) > x5_1 then (if x4_1.length < 8796093022208 then ((some (x4_1 ++ [(⟨wrap64 ((rd l0 x10_1) - x5_1), 0⟩ : S87)] : List (S87))).bind fun y108 => (if 0 ≤ (wrap64 ((y108.length : Int) - 1)) then (if (wrap64 ((y108.length : Int) - 1)) < (y108.length : Int) then (span_From.l0 kj4 l0 (y108.set ((wrap64 ((y108.length : Int) - 1)) : Int).toNat (⟨(rd_T87 y108 (wrap64 ((y108.length : Int) - 1))).f0, wrap64 (((rd_T87 y108 (wrap64 ((y108.length : Int) - 1))).f1) + 1)⟩ : S87)) (wrap64 ((rd l0 x10_1) + 1)) l0 (l0.length : Int) (wrap64 (x10_1 + 1))) else (none)) else (none))) else (none)) else (if 0 ≤ (wrap64 ((x4_1.length : Int) - 1)) then (if (wrap64 ((x4_1.length : Int) - 1)) < (x4_1.length : Int) then (span_From.l0 kj4 l0 (x4_1.set ((wrap64 ((x4_1.length : Int) - 1)) : Int).toNat (⟨(rd_T87 x4_1 (wrap64 ((x4_1.length : Int) - 1))).f0, wrap64 (((rd_T87 x4_1 (wrap64 ((x4_1.length : Int) - 1))).f1) + 1)⟩ : S87)) (wrap64 ((rd l0 x10_1) + 1)) l0 (l0.length : Int) (wrap64 (x10_1 + 1))) else (none)) else (none)))) = some (r1, r2) := by rw [if_neg (show ¬ (false = true) by decide)] at H; exact H
         clear H
         have H := H1
         clear H1
         by_cases c10 : x10_1 = 0
         ·rw [if_pos c10] at H
          have c10b0 : (x10_1 == 0) = true := beq_iff_eq.mpr c10
          have c10b1 : (x10_1 != 0) = false := bne_eq_false_iff_eq.mpr c10
          clear c10
          by_cases c11 : x4_1.length < 8796093022208
          ·rw [if_pos c11] at H
           have LMc11 := Aside0.mk c11
           clear c11
           obtain ⟨y103, hy103⟩ : ∃ y_ : List (S87), y_ = (x4_1 ++ [(⟨wrap64 ((rd l0 x10_1) - x5_1), 0⟩ : S87)]) := ⟨_, rfl⟩
           replace H : (if 0 ≤ (wrap64 ((y103.length : Int) - 1)) then (if (wrap64 ((y103.length : Int) - 1)) < (y103.length : Int) then (span_From.l0 kj4 l0 (y103.set ((wrap64 ((y103.length : Int) - 1)) : Int).toNat (⟨(rd_T87 y103 (wrap64 ((y103.length : Int) - 1))).f0, wrap64 (((rd_T87 y103 (wrap64 ((y103.length : Int) - 1))).f1) + 1)⟩ : S87)) (wrap64 ((rd l0 x10_1) + 1)) l0 (l0.length : Int) (wrap64 (x10_1 + 1))) else (none)) else (none)) = some (r1, r2) := by first | (rw [hy103]; with_reducible exact H) | (have H2_ := (Option.bind_some _ _).symm.trans H; rw [hy103]; with_reducible exact H2_) | (have H2_ := (Option.bind_some _ _).symm.trans H; with_reducible exact H2_) | with_reducible exact H | (rw [hy103]; exact H) | exact H
           have Ny103 := Aside0.mk hy103
           clear hy103
           obtain ⟨ji12, hji12⟩ : ∃ j_ : Int, (wrap64 ((y103.length : Int) - 1)) = j_ := ⟨_, rfl⟩
           replace H : (if 0 ≤ (ji12) then (if (ji12) < (y103.length : Int) then (span_From.l0 kj4 l0 (y103.set ((ji12) : Int).toNat (⟨(rd_T87 y103 (ji12)).f0, wrap64 (((rd_T87 y103 (ji12)).f1) + 1)⟩ : S87)) (wrap64 ((rd l0 x10_1) + 1)) l0 (l0.length : Int) (wrap64 (x10_1 + 1))) else (none)) else (none)) = some (r1, r2) := by first | (rw [hji12] at H; exact H) | (simp only [hji12] at H ⊢; exact H)
           have hji12w : (IntKind.i64.wrap ((y103.length : Int) - 1)) = ji12 := (i64_w _).trans hji12
           by_cases c13 : 0 ≤ (ji12)
           ·rw [if_pos c13] at H
            have c13b0 : decide (0 ≤ (ji12)) = true := decide_eq_true c13
            clear c13
            by_cases c14 : (ji12) < (y103.length : Int)
            ·rw [if_pos c14] at H
             have c14b0 : decide ((ji12) < (y103.length : Int)) = true := decide_eq_true c14
             clear c14
             obtain ⟨y107, hy107⟩ : ∃ y_ : List (S87), y_ = (y103.set ((ji12) : Int).toNat (⟨(rd_T87 y103 (ji12)).f0, wrap64 (((rd_T87 y103 (ji12)).f1) + 1)⟩ : S87)) := ⟨_, rfl⟩
             replace H : (span_From.l0 kj4 l0 y107 (wrap64 ((rd l0 x10_1) + 1)) l0 (l0.length : Int) (wrap64 (x10_1 + 1))) = some (r1, r2) := by first | (rw [hy107]; with_reducible exact H) | (have H2_ := (Option.bind_some _ _).symm.trans H; rw [hy107]; with_reducible exact H2_) | (have H2_ := (Option.bind_some _ _).symm.trans H; with_reducible exact H2_) | with_reducible exact H | (rw [hy107]; exact H) | exact H
             have Ny107 := Aside0.mk hy107
             clear hy107
             have H' := Aside0.mk H
             clear H
             go_wp2_with (first | ((with_reducible refine gate_builtin (b := .append) (xs := #[.tmp 34, .tmp 39]) rfl ?_); (try (refine gate_guard (by rfl) ?_; dsimp only)); at_builtin; refine Kd.R_append k87 (w0 := w) w.heap.size rfl (.tmp 34) (.tmp 39) 27 87 (.agg #[(.int .i64 0), (.int .i64 0)]) 16 rfl Try.underlying27 info87 rfl (by decide) (by omega) u4 x4_1 (⟨wrap64 ((rd l0 x10_1) - x5_1), 0⟩ : S87) [.int .i64 (wrap64 ((rd l0 x10_1) - x5_1)), .int .i64 0] (fun _ => True) (fun _ => False) rfl rfl ?aP (fun _ hk => hk.elim) ?aF ?aO ?aB ?aS ?aL ?_; (case aP => exact k87_mkM _ _ _ (⟨wrap64 ((rd l0 x10_1) - x5_1), 0⟩ : S87)); (case aB => exact (by repeat (first | (with_reducible first | exact HB.out | apply below_alloc | apply pw_below_drewN | apply below_drew1) | exact HB.out))); (case aF => exact (fun _ _ => trivial)); (case aO => exact (by (with_reducible repeat (first | apply Kd.R_alloc | apply Kd.R_drewN | apply Kd.R_drew)); exact HO_4.out)); (case aS => exact (below_size (by repeat (first | (with_reducible first | exact HB.out | apply below_alloc | apply pw_below_drewN | apply below_drew1) | exact HB.out)))); (case aL => have := LMc11.out; omega); intro v104 w16 ho hb hg hat; rw [← Ny103.out] at ho; have n0_ := Aside0.mk (hb); have n1_ := Aside0.mk (ho); clear HB; clear HO_4; have HB := n0_; have HO105 := n1_; clear n0_ n1_; clear ho hb hg hat; obtain ⟨Ao17, co17, eo17⟩ := Kd.R_slice HO105.out; subst eo17; have p106 : 0 ≤ ((ji12) : Int) := of_decide_eq_true (by first | (with_reducible assumption) | assumption); have q106 : (ji12) < (y103.length : Int) := of_decide_eq_true (by first | (with_reducible assumption) | assumption); obtain ⟨ad106, e106, hx106_0, hx106_1⟩ := at_T87 (Kd.R_reads' HO105.out).2.2 (ji12) p106 q106; cases e106; replace p106 := eq_true p106; replace q106 := eq_true q106; have p15 : 0 ≤ ((ji12) : Int) := of_decide_eq_true (by first | (with_reducible assumption) | assumption); have q15 : ((ji12) : Int) < ((y103.length : Int) : Int) := of_decide_eq_true (by first | (with_reducible assumption) | assumption); obtain ⟨go15, co15, eo15, gb15, gl15, cl15, HG15⟩ := Kd.R_form HO105.out (by omega); (first | cases eo15 | (injection eo15 with ea_ en_ ec_; (first | subst ea_ | (injection ea_ with ea_; subst ea_)); subst ec_; clear en_)); have GB15 := Aside0.mk gb15; have GG15 := Aside0.mk HG15; clear gb15 gl15 HG15; (first | simp only [add_plain] at hx106_0 | skip); (first | simp only [add_plain] at hx106_1 | skip); obtain ⟨ce15, hcl15, hM15, hcc15, hfr15⟩ := Kd.R_elem HO105.out z87 ((ji12) : Int) p15 q15; obtain rfl := k87_openM hM15; have hx15_0 : w16.cell? ⟨go15, ((ji12) : Int).toNat * 2, none⟩ = some (.int .i64 ((rd_T87 y103 (ji12)).f0)) := hcc15 0 _ rfl; have hx15_1 : w16.cell? ⟨go15, ((ji12) : Int).toNat * 2 + 1, none⟩ = some (.int .i64 ((rd_T87 y103 (ji12)).f1)) := hcc15 1 _ rfl; have hf15_0 : w16.frozen? ⟨go15, ((ji12) : Int).toNat * 2, none⟩ = false := hfr15 0; have hf15_1 : w16.frozen? ⟨go15, ((ji12) : Int).toNat * 2 + 1, none⟩ = false := hfr15 1; clear hcl15 hcc15 hfr15 hM15; replace p15 := eq_true p15; replace q15 := eq_true q15; have HX18 := Aside0.mk (show Kd.R k87 87 w16 w.heap.size (fun _ => True) (.slice (some ⟨go15, 0, none⟩) y103.length co17) y103 from (by (with_reducible repeat (first | apply Kd.R_alloc | apply Kd.R_drewN | apply Kd.R_drew)); exact HO105.out)); obtain ⟨ce18, hcl18, hM18, hcc18, hfr18⟩ := Kd.R_elem HX18.out z87 ((ji12) : Int) (of_decide_eq_true (by first | (with_reducible assumption) | assumption)) (by have h_ : ((ji12) : Int) < ((y103.length : Int) : Int) := of_decide_eq_true (by first | (with_reducible assumption) | assumption); first | exact h_ | (have e_ := (Kd.R_reads' HO105.out).1; omega) | simpa using h_); obtain rfl := k87_openM hM18; have HP18 := Kd.R_seg HX18.out ((ji12) : Int) (of_decide_eq_true (by first | (with_reducible assumption) | assumption)) (by have h_ : ((ji12) : Int) < ((y103.length : Int) : Int) := of_decide_eq_true (by first | (with_reducible assumption) | assumption); first | exact h_ | (have e_ := (Kd.R_reads' HO105.out).1; omega) | simpa using h_) (seg := [.int .i64 (wrap64 (((rd_T87 y103 (ji12)).f1) + 1))]) (j := 1) hcl18 hcc18 (show 2 ≤ 2 from by decide) (x' := (⟨(rd_T87 y103 (ji12)).f0, wrap64 (((rd_T87 y103 (ji12)).f1) + 1)⟩ : S87)) (k87_mkM _ _ _ (⟨(rd_T87 y103 (ji12)).f0, wrap64 (((rd_T87 y103 (ji12)).f1) + 1)⟩ : S87) ) (fun _ hk => hk); have hx18_1 := hcc18 1 _ rfl; (try simp only [show (k87).sz = 2 from rfl, Nat.mul_one, Nat.add_zero] at hx18_1); have hf18_1 := hfr18 1; (try simp only [show (k87).sz = 2 from rfl, Nat.mul_one, Nat.add_zero] at hf18_1); clear hcl18 hcc18 hfr18 hM18) | ((with_reducible refine gate_store (t := 3) (p := 50) rfl ?_); refine store_event (t := 3) (p := 50) (v := ?vo_w19) (w1 := (w16.setCell ⟨go15, ((ji12) : Int).toNat * 2 + 1, none⟩ (.int .i64 (wrap64 (((rd_T87 y103 (ji12)).f1) + 1))))) ?hg ?ho ?hn ?hr ?_; (case ho => rfl); (case hg => rfl); (case hn => rfl); (case hr => first | (go_simp; done) | (go_simp; rfl)); intro w19 hw; have hg : w16.grownBy w19 (some go15) := (by rw [hw]; exact HP18.2); have hp_ : Kd.R k87 87 w19 w.heap.size (fun _ => True) (.slice (some ⟨go15, 0, none⟩) y103.length co17) y107 := (by rw [hw, Ny107.out]; exact HP18.1); clear HP18; have n0_ := Aside0.mk (hp_); have n1_ := Aside0.mk ((by rw [hw]; exact below_set (HB.out) GB15.out : Below w.heap.size w w19)); clear HO105; clear HB; have HO105 := n0_; have HB := n1_; clear n0_ n1_; clear hg hw hp_))
             go_roundg kj4
             case measure => have := HK1.out; have := HJ4.out; omega
             case rel => exact ⟨(y107), (wrap64 ((rd l0 x10_1) + 1)), (wrap64 (x10_1 + 1)), (by first | rfl | (simp; done) | (simp [*]; done)), (by first | rfl | (simp; done) | (simp [*]; done)), H', ⟨by have := HK1.out; have := HJ4.out; omega⟩, ⟨by (with_reducible repeat (first | apply Kd.R_alloc | apply Kd.R_drewN | apply Kd.R_drew)); exact HO105.out⟩, ⟨by repeat (first | (with_reducible first | exact HB.out | apply below_alloc | apply pw_below_drewN | apply below_drew1) | exact HB.out)⟩⟩
            ·rw [if_neg c14] at H
             exact absurd H (by simp)
           ·rw [if_neg c13] at H
            exact absurd H (by simp)
          ·rw [if_neg c11] at H
           exact absurd H (by simp)
         ·rw [if_neg c10] at H
          have c10b0 : (x10_1 == 0) = false := beq_eq_false_iff_ne.mpr c10
          have c10b1 : (x10_1 != 0) = true := bne_iff_ne.mpr c10
          by_cases c20 : (rd l0 x10_1) > x5_1
          ·rw [if_pos c20] at H
           have c20b0 : decide (x5_1 < (rd l0 x10_1)) = true := decide_eq_true c20
           clear c20
           by_cases c21 : x4_1.length < 8796093022208
           ·rw [if_pos c21] at H
            have LMc21 := Aside0.mk c21
            clear c21
            obtain ⟨y108, hy108⟩ : ∃ y_ : List (S87), y_ = (x4_1 ++ [(⟨wrap64 ((rd l0 x10_1) - x5_1), 0⟩ : S87)]) := ⟨_, rfl⟩
            replace H : (if 0 ≤ (wrap64 ((y108.length : Int) - 1)) then (if (wrap64 ((y108.length : Int) - 1)) < (y108.length : Int) then (span_From.l0 kj4 l0 (y108.set ((wrap64 ((y108.length : Int) - 1)) : Int).toNat (⟨(rd_T87 y108 (wrap64 ((y108.length : Int) - 1))).f0, wrap64 (((rd_T87 y108 (wrap64 ((y108.length : Int) - 1))).f1) + 1)⟩ : S87)) (wrap64 ((rd l0 x10_1) + 1)) l0 (l0.length : Int) (wrap64 (x10_1 + 1))) else (none)) else (none)) = some (r1, r2) := by first | (rw [hy108]; with_reducible exact H) | (have H2_ := (Option.bind_some _ _).symm.trans H; rw [hy108]; with_reducible exact H2_) | (have H2_ := (Option.bind_some _ _).symm.trans H; with_reducible exact H2_) | with_reducible exact H | (rw [hy108]; exact H) | exact H
            have Ny108 := Aside0.mk hy108
            clear hy108
            obtain ⟨ji22, hji22⟩ : ∃ j_ : Int, (wrap64 ((y108.length : Int) - 1)) = j_ := ⟨_, rfl⟩
            replace H : (if 0 ≤ (ji22) then (if (ji22) < (y108.length : Int) then (span_From.l0 kj4 l0 (y108.set ((ji22) : Int).toNat (⟨(rd_T87 y108 (ji22)).f0, wrap64 (((rd_T87 y108 (ji22)).f1) + 1)⟩ : S87)) (wrap64 ((rd l0 x10_1) + 1)) l0 (l0.length : Int) (wrap64 (x10_1 + 1))) else (none)) else (none)) = some (r1, r2) := by first | (rw [hji22] at H; exact H) | (simp only [hji22] at H ⊢; exact H)
            have hji22w : (IntKind.i64.wrap ((y108.length : Int) - 1)) = ji22 := (i64_w _).trans hji22
            by_cases c23 : 0 ≤ (ji22)
            ·rw [if_pos c23] at H
             have c23b0 : decide (0 ≤ (ji22)) = true := decide_eq_true c23
             clear c23
             by_cases c24 : (ji22) < (y108.length : Int)
             ·rw [if_pos c24] at H
              have c24b0 : decide ((ji22) < (y108.length : Int)) = true := decide_eq_true c24
              clear c24
              obtain ⟨y112, hy112⟩ : ∃ y_ : List (S87), y_ = (y108.set ((ji22) : Int).toNat (⟨(rd_T87 y108 (ji22)).f0, wrap64 (((rd_T87 y108 (ji22)).f1) + 1)⟩ : S87)) := ⟨_, rfl⟩
              replace H : (span_From.l0 kj4 l0 y112 (wrap64 ((rd l0 x10_1) + 1)) l0 (l0.length : Int) (wrap64 (x10_1 + 1))) = some (r1, r2) := by first | (rw [hy112]; with_reducible exact H) | (have H2_ := (Option.bind_some _ _).symm.trans H; rw [hy112]; with_reducible exact H2_) | (have H2_ := (Option.bind_some _ _).symm.trans H; with_reducible exact H2_) | with_reducible exact H | (rw [hy112]; exact H) | exact H
              have Ny112 := Aside0.mk hy112
              clear hy112
              have H' := Aside0.mk H
              clear H
              go_wp2_with (first | ((with_reducible refine gate_builtin (b := .append) (xs := #[.tmp 34, .tmp 39]) rfl ?_); (try (refine gate_guard (by rfl) ?_; dsimp only)); at_builtin; refine Kd.R_append k87 (w0 := w) w.heap.size rfl (.tmp 34) (.tmp 39) 27 87 (.agg #[(.int .i64 0), (.int .i64 0)]) 16 rfl Try.underlying27 info87 rfl (by decide) (by omega) u4 x4_1 (⟨wrap64 ((rd l0 x10_1) - x5_1), 0⟩ : S87) [.int .i64 (wrap64 ((rd l0 x10_1) - x5_1)), .int .i64 0] (fun _ => True) (fun _ => False) rfl rfl ?aP (fun _ hk => hk.elim) ?aF ?aO ?aB ?aS ?aL ?_; (case aP => exact k87_mkM _ _ _ (⟨wrap64 ((rd l0 x10_1) - x5_1), 0⟩ : S87)); (case aB => exact (by repeat (first | (with_reducible first | exact HB.out | apply below_alloc | apply pw_below_drewN | apply below_drew1) | exact HB.out))); (case aF => exact (fun _ _ => trivial)); (case aO => exact (by (with_reducible repeat (first | apply Kd.R_alloc | apply Kd.R_drewN | apply Kd.R_drew)); exact HO_4.out)); (case aS => exact (below_size (by repeat (first | (with_reducible first | exact HB.out | apply below_alloc | apply pw_below_drewN | apply below_drew1) | exact HB.out)))); (case aL => have := LMc21.out; omega); intro v109 w26 ho hb hg hat; rw [← Ny108.out] at ho; have n0_ := Aside0.mk (hb); have n1_ := Aside0.mk (ho); clear HB; clear HO_4; have HB := n0_; have HO110 := n1_; clear n0_ n1_; clear ho hb hg hat; obtain ⟨Ao27, co27, eo27⟩ := Kd.R_slice HO110.out; subst eo27; have p111 : 0 ≤ ((ji22) : Int) := of_decide_eq_true (by first | (with_reducible assumption) | assumption); have q111 : (ji22) < (y108.length : Int) := of_decide_eq_true (by first | (with_reducible assumption) | assumption); obtain ⟨ad111, e111, hx111_0, hx111_1⟩ := at_T87 (Kd.R_reads' HO110.out).2.2 (ji22) p111 q111; cases e111; replace p111 := eq_true p111; replace q111 := eq_true q111; have p25 : 0 ≤ ((ji22) : Int) := of_decide_eq_true (by first | (with_reducible assumption) | assumption); have q25 : ((ji22) : Int) < ((y108.length : Int) : Int) := of_decide_eq_true (by first | (with_reducible assumption) | assumption); obtain ⟨go25, co25, eo25, gb25, gl25, cl25, HG25⟩ := Kd.R_form HO110.out (by omega); (first | cases eo25 | (injection eo25 with ea_ en_ ec_; (first | subst ea_ | (injection ea_ with ea_; subst ea_)); subst ec_; clear en_)); have GB25 := Aside0.mk gb25; have GG25 := Aside0.mk HG25; clear gb25 gl25 HG25; (first | simp only [add_plain] at hx111_0 | skip); (first | simp only [add_plain] at hx111_1 | skip); obtain ⟨ce25, hcl25, hM25, hcc25, hfr25⟩ := Kd.R_elem HO110.out z87 ((ji22) : Int) p25 q25; obtain rfl := k87_openM hM25; have hx25_0 : w26.cell? ⟨go25, ((ji22) : Int).toNat * 2, none⟩ = some (.int .i64 ((rd_T87 y108 (ji22)).f0)) := hcc25 0 _ rfl; have hx25_1 : w26.cell? ⟨go25, ((ji22) : Int).toNat * 2 + 1, none⟩ = some (.int .i64 ((rd_T87 y108 (ji22)).f1)) := hcc25 1 _ rfl; have hf25_0 : w26.frozen? ⟨go25, ((ji22) : Int).toNat * 2, none⟩ = false := hfr25 0; have hf25_1 : w26.frozen? ⟨go25, ((ji22) : Int).toNat * 2 + 1, none⟩ = false := hfr25 1; clear hcl25 hcc25 hfr25 hM25; replace p25 := eq_true p25; replace q25 := eq_true q25; have HX28 := Aside0.mk (show Kd.R k87 87 w26 w.heap.size (fun _ => True) (.slice (some ⟨go25, 0, none⟩) y108.length co27) y108 from (by (with_reducible repeat (first | apply Kd.R_alloc | apply Kd.R_drewN | apply Kd.R_drew)); exact HO110.out)); obtain ⟨ce28, hcl28, hM28, hcc28, hfr28⟩ := Kd.R_elem HX28.out z87 ((ji22) : Int) (of_decide_eq_true (by first | (with_reducible assumption) | assumption)) (by have h_ : ((ji22) : Int) < ((y108.length : Int) : Int) := of_decide_eq_true (by first | (with_reducible assumption) | assumption); first | exact h_ | (have e_ := (Kd.R_reads' HO110.out).1; omega) | simpa using h_); obtain rfl := k87_openM hM28; have HP28 := Kd.R_seg HX28.out ((ji22) : Int) (of_decide_eq_true (by first | (with_reducible assumption) | assumption)) (by have h_ : ((ji22) : Int) < ((y108.length : Int) : Int) := of_decide_eq_true (by first | (with_reducible assumption) | assumption); first | exact h_ | (have e_ := (Kd.R_reads' HO110.out).1; omega) | simpa using h_) (seg := [.int .i64 (wrap64 (((rd_T87 y108 (ji22)).f1) + 1))]) (j := 1) hcl28 hcc28 (show 2 ≤ 2 from by decide) (x' := (⟨(rd_T87 y108 (ji22)).f0, wrap64 (((rd_T87 y108 (ji22)).f1) + 1)⟩ : S87)) (k87_mkM _ _ _ (⟨(rd_T87 y108 (ji22)).f0, wrap64 (((rd_T87 y108 (ji22)).f1) + 1)⟩ : S87) ) (fun _ hk => hk); have hx28_1 := hcc28 1 _ rfl; (try simp only [show (k87).sz = 2 from rfl, Nat.mul_one, Nat.add_zero] at hx28_1); have hf28_1 := hfr28 1; (try simp only [show (k87).sz = 2 from rfl, Nat.mul_one, Nat.add_zero] at hf28_1); clear hcl28 hcc28 hfr28 hM28) | ((with_reducible refine gate_store (t := 3) (p := 50) rfl ?_); refine store_event (t := 3) (p := 50) (v := ?vo_w29) (w1 := (w26.setCell ⟨go25, ((ji22) : Int).toNat * 2 + 1, none⟩ (.int .i64 (wrap64 (((rd_T87 y108 (ji22)).f1) + 1))))) ?hg ?ho ?hn ?hr ?_; (case ho => rfl); (case hg => rfl); (case hn => rfl); (case hr => first | (go_simp; done) | (go_simp; rfl)); intro w29 hw; have hg : w26.grownBy w29 (some go25) := (by rw [hw]; exact HP28.2); have hp_ : Kd.R k87 87 w29 w.heap.size (fun _ => True) (.slice (some ⟨go25, 0, none⟩) y108.length co27) y112 := (by rw [hw, Ny112.out]; exact HP28.1); clear HP28; have n0_ := Aside0.mk (hp_); have n1_ := Aside0.mk ((by rw [hw]; exact below_set (HB.out) GB25.out : Below w.heap.size w w29)); clear HO110; clear HB; have HO110 := n0_; have HB := n1_; clear n0_ n1_; clear hg hw hp_))
              go_roundg kj4
              case measure => have := HK1.out; have := HJ4.out; omega
              case rel => exact ⟨(y112), (wrap64 ((rd l0 x10_1) + 1)), (wrap64 (x10_1 + 1)), (by first | rfl | (simp; done) | (simp [*]; done)), (by first | rfl | (simp; done) | (simp [*]; done)), H', ⟨by have := HK1.out; have := HJ4.out; omega⟩, ⟨by (with_reducible repeat (first | apply Kd.R_alloc | apply Kd.R_drewN | apply Kd.R_drew)); exact HO110.out⟩, ⟨by repeat (first | (with_reducible first | exact HB.out | apply below_alloc | apply pw_below_drewN | apply below_drew1) | exact HB.out)⟩⟩
             ·rw [if_neg c24] at H
              exact absurd H (by simp)
            ·rw [if_neg c23] at H
             exact absurd H (by simp)
           ·rw [if_neg c21] at H
            exact absurd H (by simp)
          ·rw [if_neg c20] at H
           have c20b0 : decide (x5_1 < (rd l0 x10_1)) = false := decide_eq_false c20
           clear c20
           obtain ⟨ji30, hji30⟩ : ∃ j_ : Int, (wrap64 ((x4_1.length : Int) - 1)) = j_ := ⟨_, rfl⟩
           replace H : (if 0 ≤ (ji30) then (if (ji30) < (x4_1.length : Int) then (span_From.l0 kj4 l0 (x4_1.set ((ji30) : Int).toNat (⟨(rd_T87 x4_1 (ji30)).f0, wrap64 (((rd_T87 x4_1 (ji30)).f1) + 1)⟩ : S87)) (wrap64 ((rd l0 x10_1) + 1)) l0 (l0.length : Int) (wrap64 (x10_1 + 1))) else (none)) else (none)) = some (r1, r2) := by first | (rw [hji30] at H; exact H) | (simp only [hji30] at H ⊢; exact H)
           have hji30w : (IntKind.i64.wrap ((x4_1.length : Int) - 1)) = ji30 := (i64_w _).trans hji30
           by_cases c31 : 0 ≤ (ji30)
           ·rw [if_pos c31] at H
            have c31b0 : decide (0 ≤ (ji30)) = true := decide_eq_true c31
            clear c31
            by_cases c32 : (ji30) < (x4_1.length : Int)
            ·rw [if_pos c32] at H
             have c32b0 : decide ((ji30) < (x4_1.length : Int)) = true := decide_eq_true c32
             clear c32
             obtain ⟨y114, hy114⟩ : ∃ y_ : List (S87), y_ = (x4_1.set ((ji30) : Int).toNat (⟨(rd_T87 x4_1 (ji30)).f0, wrap64 (((rd_T87 x4_1 (ji30)).f1) + 1)⟩ : S87)) := ⟨_, rfl⟩
             replace H : (span_From.l0 kj4 l0 y114 (wrap64 ((rd l0 x10_1) + 1)) l0 (l0.length : Int) (wrap64 (x10_1 + 1))) = some (r1, r2) := by first | (rw [hy114]; with_reducible exact H) | (have H2_ := (Option.bind_some _ _).symm.trans H; rw [hy114]; with_reducible exact H2_) | (have H2_ := (Option.bind_some _ _).symm.trans H; with_reducible exact H2_) | with_reducible exact H | (rw [hy114]; exact H) | exact H
             have Ny114 := Aside0.mk hy114
             clear hy114
             have H' := Aside0.mk H
             clear H
             obtain ⟨Ao34, co34, eo34⟩ := Kd.R_slice HO_4.out
             subst eo34
             have p113 : 0 ≤ ((ji30) : Int) := of_decide_eq_true (by first | (with_reducible assumption) | assumption)
             have q113 : (ji30) < (x4_1.length : Int) := of_decide_eq_true (by first | (with_reducible assumption) | assumption)
             obtain ⟨ad113, e113, hx113_0, hx113_1⟩ := at_T87 (Kd.R_reads' HO_4.out).2.2 (ji30) p113 q113
             cases e113
             replace p113 := eq_true p113
             replace q113 := eq_true q113
             have p33 : 0 ≤ ((ji30) : Int) := of_decide_eq_true (by first | (with_reducible assumption) | assumption)
             have q33 : ((ji30) : Int) < ((x4_1.length : Int) : Int) := of_decide_eq_true (by first | (with_reducible assumption) | assumption)
             obtain ⟨go33, co33, eo33, gb33, gl33, cl33, HG33⟩ := Kd.R_form HO_4.out (by omega)
             (first | cases eo33 | (injection eo33 with ea_ en_ ec_; (first | subst ea_ | (injection ea_ with ea_; subst ea_)); subst ec_; clear en_))
             have GB33 := Aside0.mk gb33
             have GG33 := Aside0.mk HG33
             clear gb33 gl33 HG33
             (first | simp only [add_plain] at hx113_0 | skip)
             (first | simp only [add_plain] at hx113_1 | skip)
             obtain ⟨ce33, hcl33, hM33, hcc33, hfr33⟩ := Kd.R_elem HO_4.out z87 ((ji30) : Int) p33 q33
             obtain rfl := k87_openM hM33
             have hx33_0 : wc.cell? ⟨go33, ((ji30) : Int).toNat * 2, none⟩ = some (.int .i64 ((rd_T87 x4_1 (ji30)).f0)) := hcc33 0 _ rfl
             have hx33_1 : wc.cell? ⟨go33, ((ji30) : Int).toNat * 2 + 1, none⟩ = some (.int .i64 ((rd_T87 x4_1 (ji30)).f1)) := hcc33 1 _ rfl
             have hf33_0 : wc.frozen? ⟨go33, ((ji30) : Int).toNat * 2, none⟩ = false := hfr33 0
             have hf33_1 : wc.frozen? ⟨go33, ((ji30) : Int).toNat * 2 + 1, none⟩ = false := hfr33 1
             clear hcl33 hcc33 hfr33 hM33
             replace p33 := eq_true p33
             replace q33 := eq_true q33
             have HX35 := Aside0.mk (show Kd.R k87 87 wc w.heap.size (fun _ => True) (.slice (some ⟨go33, 0, none⟩) x4_1.length co34) x4_1 from (by (with_reducible repeat (first | apply Kd.R_alloc | apply Kd.R_drewN | apply Kd.R_drew)); exact HO_4.out))
             obtain ⟨ce35, hcl35, hM35, hcc35, hfr35⟩ := Kd.R_elem HX35.out z87 ((ji30) : Int) (of_decide_eq_true (by first | (with_reducible assumption) | assumption)) (by have h_ : ((ji30) : Int) < ((x4_1.length : Int) : Int) := of_decide_eq_true (by first | (with_reducible assumption) | assumption); first | exact h_ | (have e_ := (Kd.R_reads' HO_4.out).1; omega) | simpa using h_)
             obtain rfl := k87_openM hM35
             have HP35 := Kd.R_seg HX35.out ((ji30) : Int) (of_decide_eq_true (by first | (with_reducible assumption) | assumption)) (by have h_ : ((ji30) : Int) < ((x4_1.length : Int) : Int) := of_decide_eq_true (by first | (with_reducible assumption) | assumption); first | exact h_ | (have e_ := (Kd.R_reads' HO_4.out).1; omega) | simpa using h_) (seg := [.int .i64 (wrap64 (((rd_T87 x4_1 (ji30)).f1) + 1))]) (j := 1) hcl35 hcc35 (show 2 ≤ 2 from by decide) (x' := (⟨(rd_T87 x4_1 (ji30)).f0, wrap64 (((rd_T87 x4_1 (ji30)).f1) + 1)⟩ : S87)) (k87_mkM _ _ _ (⟨(rd_T87 x4_1 (ji30)).f0, wrap64 (((rd_T87 x4_1 (ji30)).f1) + 1)⟩ : S87) ) (fun _ hk => hk)
             have hx35_1 := hcc35 1 _ rfl
             (try simp only [show (k87).sz = 2 from rfl, Nat.mul_one, Nat.add_zero] at hx35_1)
             have hf35_1 := hfr35 1
             (try simp only [show (k87).sz = 2 from rfl, Nat.mul_one, Nat.add_zero] at hf35_1)
             clear hcl35 hcc35 hfr35 hM35
             go_wp2_with (first | ((with_reducible refine gate_store (t := 3) (p := 50) rfl ?_); refine store_event (t := 3) (p := 50) (v := ?vo_w36) (w1 := (wc.setCell ⟨go33, ((ji30) : Int).toNat * 2 + 1, none⟩ (.int .i64 (wrap64 (((rd_T87 x4_1 (ji30)).f1) + 1))))) ?hg ?ho ?hn ?hr ?_; (case ho => rfl); (case hg => rfl); (case hn => rfl); (case hr => first | (go_simp; done) | (go_simp; rfl)); intro w36 hw; have hg : wc.grownBy w36 (some go33) := (by rw [hw]; exact HP35.2); have hp_ : Kd.R k87 87 w36 w.heap.size (fun _ => True) (.slice (some ⟨go33, 0, none⟩) x4_1.length co34) y114 := (by rw [hw, Ny114.out]; exact HP35.1); clear HP35; have n0_ := Aside0.mk (hp_); have n1_ := Aside0.mk ((by rw [hw]; exact below_set (HB.out) GB33.out : Below w.heap.size w w36)); clear HO_4; clear HB; have HO_4 := n0_; have HB := n1_; clear n0_ n1_; clear hg hw hp_))
             go_roundg kj4
             case measure => have := HK1.out; have := HJ4.out; omega
             case rel => exact ⟨(y114), (wrap64 ((rd l0 x10_1) + 1)), (wrap64 (x10_1 + 1)), (by first | rfl | (simp; done) | (simp [*]; done)), (by first | rfl | (simp; done) | (simp [*]; done)), H', ⟨by have := HK1.out; have := HJ4.out; omega⟩, ⟨by (with_reducible repeat (first | apply Kd.R_alloc | apply Kd.R_drewN | apply Kd.R_drew)); exact HO_4.out⟩, ⟨by repeat (first | (with_reducible first | exact HB.out | apply below_alloc | apply pw_below_drewN | apply below_drew1) | exact HB.out)⟩⟩
            ·rw [if_neg c32] at H
             exact absurd H (by simp)
           ·rw [if_neg c31] at H
            exact absurd H (by simp)
     ·rw [if_neg c4] at H
      exact absurd H (by simp)
    ·rw [if_neg c3] at H
     exact absurd H (by simp)
   ·rw [if_neg c2] at H
    have c2b0 : decide (x10_1 < (l0.length : Int)) = false := decide_eq_false c2
    clear c2
    by_cases c37 : (l0.length : Int) > 4096
    ·rw [if_pos c37] at H
     have c37b0 : decide (4096 < (l0.length : Int)) = true := decide_eq_true c37
     have c37b1 : decide (4096 < l0.length) = true := decide_eq_true (by omega)
     clear c37
     simp only [Option.some.injEq, Prod.mk.injEq] at H
     obtain ⟨rfl, rfl⟩ := H
     go_wp2
     go_ret2
     exact ⟨_, by first | rfl | (simp [errW_none, errW_some] <;> rfl) | (simp [*, errW_none, errW_some] <;> rfl), by first | exact Kd.R_nil _ _ _ _ _ | exact Kd.N_nil _ _ _ _ _ | exact Kd.V_nil _ _ _ _ _ | exact Kd.Q_nil _ _ _ _ _ | exact Kd.S_nil _ _ _ _ _, by repeat (first | (with_reducible first | exact HB.out | apply below_alloc | apply pw_below_drewN | apply below_drew1) | exact HB.out)⟩
    ·rw [if_neg c37] at H
     have c37b0 : decide (4096 < (l0.length : Int)) = false := decide_eq_false c37
     have c37b1 : decide (4096 < l0.length) = false := decide_eq_false (by omega)
     clear c37
     by_cases c38 : (x4_1.length : Int) > 1024
     ·rw [if_pos c38] at H
      have c38b0 : decide (1024 < (x4_1.length : Int)) = true := decide_eq_true c38
      have c38b1 : decide (1024 < x4_1.length) = true := decide_eq_true (by omega)
      clear c38
      simp only [Option.some.injEq, Prod.mk.injEq] at H
      obtain ⟨rfl, rfl⟩ := H
      obtain ⟨Ao39, co39, eo39⟩ := Kd.R_slice HO_4.out
      subst eo39
      go_wp2
      go_ret2
      exact ⟨_, by first | rfl | (simp [errW_none, errW_some] <;> rfl) | (simp [*, errW_none, errW_some] <;> rfl), by first | exact Kd.R_nil _ _ _ _ _ | exact Kd.N_nil _ _ _ _ _ | exact Kd.V_nil _ _ _ _ _ | exact Kd.Q_nil _ _ _ _ _ | exact Kd.S_nil _ _ _ _ _, by repeat (first | (with_reducible first | exact HB.out | apply below_alloc | apply pw_below_drewN | apply below_drew1) | exact HB.out)⟩
     ·rw [if_neg c38] at H
      have c38b0 : decide (1024 < (x4_1.length : Int)) = false := decide_eq_false c38
      have c38b1 : decide (1024 < x4_1.length) = false := decide_eq_false (by omega)
      clear c38
      simp only [Option.some.injEq, Prod.mk.injEq] at H
      obtain ⟨rfl, rfl⟩ := H
      obtain ⟨Ao40, co40, eo40⟩ := Kd.R_slice HO_4.out
      subst eo40
      go_wp2
      go_ret2
      exact ⟨_, by first | rfl | (simp [errW_none, errW_some] <;> rfl) | (simp [*, errW_none, errW_some] <;> rfl), by (with_reducible repeat (first | apply Kd.R_alloc | apply Kd.R_drewN | apply Kd.R_drew)); exact HO_4.out, by repeat (first | (with_reducible first | exact HB.out | apply below_alloc | apply pw_below_drewN | apply below_drew1) | exact HB.out)⟩
end Go.Proofs.Ytgkplhdcafbfbaa.P
namespace Go.Proofs.Ytgkplhdcafbfbaa.P
open Go.RowKit Go.Shelf Go.Proofs.YtgkplhdcafbfbaaW.PrintWords Go.Proofs.YtgkplhdcafbfbaaW.PrintLast Go.Proofs.YtgkplhdcafbfbaaW.PrintMore
set_option linter.unusedVariables false
set_option linter.unusedSimpArgs false
attribute [local go_sem] Oper.semAt_some
def runAt : Int → Nat → List Int
  | _, 0 => []
  | a, n + 1 => a :: runAt (wrap64 (a + 1)) n
def runEnd : Int → Nat → Int
  | a, 0 => a
  | a, n + 1 => runEnd (wrap64 (a + 1)) n
theorem runAt_snoc : ∀ (n : Nat) (a : Int), runAt a (n + 1) = runAt a n ++ [runEnd a n]
  | 0, _ => rfl
  | n + 1, a => by
    show a :: runAt (wrap64 (a + 1)) (n + 1) = a :: runAt (wrap64 (a + 1)) n ++ [runEnd (wrap64 (a + 1)) n]
    rw [runAt_snoc n]; rfl
theorem runEnd_snoc : ∀ (n : Nat) (a : Int), runEnd a (n + 1) = wrap64 (runEnd a n + 1)
  | 0, _ => rfl
  | n + 1, a => by
    show runEnd (wrap64 (a + 1)) (n + 1) = wrap64 (runEnd (wrap64 (a + 1)) n + 1)
    rw [runEnd_snoc n]
theorem runAt_length : ∀ (n : Nat) (a : Int), (runAt a n).length = n
  | 0, _ => rfl
  | n + 1, a => by show (runAt (wrap64 (a + 1)) n).length + 1 = n + 1; rw [runAt_length n]
def placesAt : Int → List S87 → List Int
  | _, [] => []
  | a, s :: r => runAt (wrap64 (a + s.f0)) s.f1.toNat ++ placesAt (runEnd (wrap64 (a + s.f0)) s.f1.toNat) r
def endAt : Int → List S87 → Int
  | a, [] => a
  | a, s :: r => endAt (runEnd (wrap64 (a + s.f0)) s.f1.toNat) r
theorem placesAt_snoc (s : S87) : ∀ (l : List S87) (a : Int), placesAt a (l ++ [s]) = placesAt a l ++ runAt (wrap64 (endAt a l + s.f0)) s.f1.toNat
  | [], a => by simp [placesAt, endAt]
  | x :: l, a => by simp [placesAt, endAt, placesAt_snoc s l]
theorem endAt_snoc (s : S87) : ∀ (l : List S87) (a : Int), endAt a (l ++ [s]) = runEnd (wrap64 (endAt a l + s.f0)) s.f1.toNat
  | [], a => by simp [endAt]
  | x :: l, a => by simp [endAt, endAt_snoc s l]
theorem placesAt_take_le (l : List S87) (k : Nat) : (placesAt 0 (l.take k)).length ≤ (placesAt 0 l).length := by
  have : ∀ (l r : List S87) (a : Int), (placesAt a l).length ≤ (placesAt a (l ++ r)).length := by
    intro l
    induction l with
    | nil => intro r a; simp [placesAt]
    | cons x l ih => intro r a; simp [placesAt]; exact ih _ _
  have h := this (l.take k) (l.drop k) 0
  rwa [List.take_append_drop] at h
theorem placesAt_prefix (l r : List S87) : placesAt 0 l <+: placesAt 0 (l ++ r) := by
  have : ∀ (l r : List S87) (a : Int), placesAt a l <+: placesAt a (l ++ r) := by
    intro l
    induction l with
    | nil => intro r a; simp [placesAt]
    | cons x l ih => intro r a; simp only [placesAt, List.cons_append]; exact (List.prefix_append_right_inj _).2 (ih _ _)
  exact this l r 0
def numd (ps : List Int) : List (Int × Int) := ps.zipIdx.map fun p => (((p.2 : Nat) : Int), p.1)
theorem numd_snoc (ps : List Int) (p : Int) : numd (ps ++ [p]) = numd ps ++ [((ps.length : Int), p)] := by
  simp [numd, List.zipIdx_append]
theorem numd_length (ps : List Int) : (numd ps).length = ps.length := by simp [numd]
theorem numd_prefix {a b : List Int} (h : a <+: b) : numd a <+: numd b := by
  obtain ⟨c, rfl⟩ := h
  unfold numd
  rw [List.zipIdx_append, List.map_append]
  exact List.prefix_append _ _
def KeepR (n0 n1 : Nat) (W W' : World) : Prop := W.heap.size ≤ W'.heap.size ∧ ∀ k, n0 ≤ k → k < n1 → W'.heap[k]? = W.heap[k]?
theorem KeepR.refl (n0 n1 : Nat) (W : World) : KeepR n0 n1 W W := ⟨Nat.le_refl _, fun _ _ _ => rfl⟩
theorem KeepR.trans {n0 n1 : Nat} {A B C : World} (h : KeepR n0 n1 A B) (k : KeepR n0 n1 B C) : KeepR n0 n1 A C := ⟨Nat.le_trans h.1 k.1, fun i h0 h1 => (k.2 i h0 h1).trans (h.2 i h0 h1)⟩
theorem KeepR.put {n0 n1 : Nat} {w : World} (hn : n1 ≤ w.heap.size) (W : World) (l : Nat) (o o' : Obj) (hl : w.heap.size ≤ l) (h : W.heap[l]? = some o) (_ : o.isCells = false) (_ : o.isWalk = false) : KeepR n0 n1 W (W.putObj l o') := by
  have hg := grownBy_putObj' W l o'
  refine ⟨hg.size, fun k h0 h1 => hg.block k ?_ (fun e => by injection e with e; omega)⟩
  have := (Array.getElem?_eq_some_iff.1 h).1
  omega
theorem KeepR.of_below {n0 n1 : Nat} {B : Nat} {W W' : World} (h : Below B W W') (hn : n1 ≤ B) : KeepR n0 n1 W W' := ⟨h.size, fun k _ h1 => h.block k (by omega)⟩
def HoldsSp (n0 n1 Bn : Nat) (v : Value) (l : List S87) (W : World) : Prop :=
  (n0 ≤ Bn ∧ Bn < n1) ∧ n1 ≤ W.heap.size ∧ W.heap[Bn]? = some (.cells #[v] 27 (0, 0)) ∧ Kd.R k87 87 W n0 (fun k => n0 ≤ k ∧ k < n1) v l
theorem HoldsSp.keep {n0 n1 Bn : Nat} {v : Value} {l : List S87} {W W' : World} (h : HoldsSp n0 n1 Bn v l W) (k : KeepR n0 n1 W W') : HoldsSp n0 n1 Bn v l W' :=
  ⟨h.1, Nat.le_trans h.2.1 k.1, (k.2 Bn h.1.1 h.1.2).trans h.2.2.1, Kd.R_move h.2.2.2 (fun q hq => k.2 q hq.1 hq.2)⟩
set_option maxRecDepth 100000 in
set_option maxHeartbeats 4000000 in
theorem all1_in (n : Nat) (hn : 1 ≤ n) (L n0 n1 Bn : Nat) (v : Value) (l : List S87) (k : Nat) (hck : span_Check.f k l = some 0) (hN : (placesAt 0 l).length ≤ 4611686018427387904) (J Jx : List (Int × Int) → World → Prop)
    (hJ : ∀ s W W', J s W → W.grownBy W' none → J s W')
    (hY : ∀ pre x W, J pre W → pre.length < (placesAt 0 l).length → YieldAt Fence.wide (n - 1) Try.prog L #[.int .i64 x.1, .int .i64 x.2] W fun e W' =>
      (e = .returned (.bool true) ∧ J (pre ++ [x]) W' ∧ KeepR n0 n1 W W') ∨ (e = .returned (.bool false) ∧ Jx (pre ++ [x]) W'))
    (W : World) (hS : HoldsSp n0 n1 Bn v l W) (h0 : J [] W) :
    CallsIn Fence.wide n Try.prog 141 #[.func (.yield L) #[] #[], .pointer (some ⟨Bn, 0, none⟩)] W fun e W' => (∃ v, e = .returned v) ∧
      ((∃ ys, ys = numd (placesAt 0 l) ∧ J ys W') ∨ (∃ pre, pre <+: numd (placesAt 0 l) ∧ Jx pre W')) := by
  have hu := Try.underlying87
  have hf : Fence.wide.fn 118 := trivial
  obtain ⟨A, c, rfl, hlc, hC⟩ := Kd.R_reads hS.2.2.2
  have hcell : W.cell? ⟨Bn, 0, none⟩ = some (.slice A l.length c) := by
    have := blk_cell (i := 0) hS.2.2.1
    rw [this]; rfl
  have hm : l.length ≤ 9223372036854775807 := hC.2.1
  have HCk := Aside0.mk (span_Check.calls k A c l 0 W hC hlc hck)
  have HJ := Aside0.mk hJ
  have HY := Aside0.mk hY
  have HS := Aside0.mk hS
  have H0 := Aside0.mk h0
  clear hJ hY hS h0 hC
  refine callsIn_of_wp Try.func141 rfl trivial ?_ rfl
  simp only [Try.ntmps141, List.size_toArray, List.length_cons, List.length_nil, Nat.reduceAdd, Nat.reduceSub, Array.replicate_succ, Array.replicate_zero, List.push_toArray, List.append_toArray, List.nil_append, List.cons_append]
  gi_wp2_with (gi_at_call 118; refine (callsIn_wide.2 HCk.out).mono ?_; rintro e w1 ⟨rfl, hb⟩; have HB := Aside0.mk hb; have hcell1 := (hb.cell (World.block_lt_of_cell? W _ hcell)).trans hcell; clear hb hcell)
  have HS1 := Aside0.mk (HS.out.keep (KeepR.of_below HB.out HS.out.2.1))
  have H1 := Aside0.mk (HJ.out _ _ _ H0.out (grown_of_below HB.out none))
  clear HS H0 HB HCk
  gi_loopw [3, 4, 12] (fun s3 s4 s12 wr => ∃ kk : Nat, kk ≤ l.length ∧ s12 = .int .i64 kk ∧ s3 = .int .i64 (endAt 0 (l.take kk)) ∧ s4 = .int .i64 ((placesAt 0 (l.take kk)).length : Int) ∧ Aside0 (HoldsSp n0 n1 Bn (.slice A l.length c) l wr) ∧ Aside0 (J (numd (placesAt 0 (l.take kk))) wr)) (fun _ _ s12 _ => l.length - (intOf s12).toNat)
  case atStart => exact ⟨0, Nat.zero_le _, rfl, by simp [endAt], by simp [placesAt], HS1, by simpa [placesAt, numd] using H1⟩
  case round =>
    obtain ⟨kk, hkk, rfl, rfl, rfl, HS, HJ0⟩ := hrel
    clear HS1 H1
    by_cases hlt : kk < l.length
    · have hlti : (kk : Int) < (l.length : Int) := by omega
      have hC := (Kd.R_reads' HS.out.2.2.2).2.2
      obtain ⟨ad, e1, hx0, hx1⟩ := at_T87 hC kk (by omega) (by omega)
      cases e1
      clear hC
      have hrd : rd_T87 l (kk : Int) = l[kk] := by unfold rd_T87; simp [List.getD, hlt]
      rw [hrd, Int.toNat_natCast] at hx0 hx1
      have HT := Aside0.mk (List.take_succ_eq_append_getElem hlt)
      generalize l[kk] = y at hx0 hx1 HT hrd
      clear hrd
      obtain ⟨wo, rfl⟩ : ∃ wo : World, wo = wr := ⟨_, rfl⟩
      have hple : (placesAt 0 (l.take kk)).length ≤ 4611686018427387904 := Nat.le_trans (placesAt_take_le l kk) hN
      have HP1 := Aside0.mk (placesAt_snoc y (l.take kk) 0)
      have HE1 := Aside0.mk (endAt_snoc y (l.take kk) 0)
      have HLE : Aside0 ((placesAt 0 (l.take kk)).length + y.f1.toNat ≤ (placesAt 0 l).length ∧ placesAt 0 (l.take kk) ++ runAt (wrap64 (endAt 0 (l.take kk) + y.f0)) y.f1.toNat <+: placesAt 0 l) := by
        have h := placesAt_prefix (l.take (kk + 1)) (l.drop (kk + 1))
        rw [List.take_append_drop, HT.out, HP1.out] at h
        refine ⟨⟨?_, h⟩⟩
        have := h.length_le
        rwa [List.length_append, runAt_length] at this
      rw [← HT.out] at HP1 HE1
      clear HT
      generalize endAt 0 (l.take kk) = at0 at HP1 HE1 HLE
      generalize placesAt 0 (l.take kk) = ps at HP1 HLE HJ0 hple
      have HS0 := Aside0.mk (HS.out.keep (KeepR.of_below (below_alloc (Below.refl _ wo) (.cells #[.int .i64 y.f0, .int .i64 y.f1] 87)) HS.out.2.1))
      have HJ1 := Aside0.mk (HJ.out _ _ _ HJ0.out (grown_of_below (below_alloc (Below.refl _ wo) (.cells #[.int .i64 y.f0, .int .i64 y.f1] 87)) none))
      clear HS HJ0
      gi_wp2
      gi_loopw [3, 4, 22] (fun s3 s4 s22 wr => ∃ i : Nat, i ≤ y.f1.toNat ∧ s22 = .int .i64 i ∧ s3 = .int .i64 (runEnd (wrap64 (at0 + y.f0)) i) ∧ s4 = .int .i64 ((ps.length : Int) + (i : Int)) ∧ Aside0 (HoldsSp n0 n1 Bn (.slice (some ad) l.length c) l wr) ∧ Aside0 (J (numd (ps ++ runAt (wrap64 (at0 + y.f0)) i)) wr)) (fun _ _ s22 _ => (y.f1 - intOf s22).toNat)
      case atStart => exact ⟨0, Nat.zero_le _, rfl, rfl, by simp, HS0, by simpa [runAt] using HJ1⟩
      case round =>
        obtain ⟨i, hi, rfl, rfl, rfl, HS, HJ0⟩ := hrel
        clear HS0 HJ1
        by_cases hli : (i : Int) < y.f1
        · have hlen : (ps ++ runAt (wrap64 (at0 + y.f0)) i).length = ps.length + i := by rw [List.length_append, runAt_length]
          have hlt2 : ps.length + i < (placesAt 0 l).length := by have := HLE.out.1; omega
          have hnx : (ps.length : Int) + (i : Int) + 1 ≤ 4611686018427387904 := by omega
          have hn0 : 0 ≤ (ps.length : Int) + (i : Int) := by omega
          have hy1 : y.f1 ≤ 4611686018427387904 := by have := HLE.out.1; omega
          obtain ⟨fn, tmps, assign, body, hy, hR⟩ := HY.out (numd (ps ++ runAt (wrap64 (at0 + y.f0)) i)) ((ps.length : Int) + (i : Int), runEnd (wrap64 (at0 + y.f0)) i) wr HJ0.out (by rw [numd_length, hlen]; exact hlt2)
          dsimp only at hy
          have HA := Aside0.mk (runAt_snoc i (wrap64 (at0 + y.f0)))
          have HE := Aside0.mk (runEnd_snoc i (wrap64 (at0 + y.f0)))
          have HNS := Aside0.mk (numd_snoc (ps ++ runAt (wrap64 (at0 + y.f0)) i) (runEnd (wrap64 (at0 + y.f0)) i))
          have HL := Aside0.mk hlen
          have HRR := Aside0.mk hR
          clear hR hlen HJ0
          gi_wp2
          refine HRR.out.mono ?_
          rintro e W3 (⟨rfl, hJ3, hk3⟩ | ⟨rfl, hJx3⟩)
          · have HJ3 := Aside0.mk hJ3
            have HS3 := Aside0.mk (HS.out.keep hk3)
            clear hJ3 hk3
            gi_wp2
            go_roundw
            case rel => 
              refine ⟨i + 1, by omega, by go_num, by rw [HE.out], by go_num, HS3, ⟨?_⟩⟩
              rw [HA.out, ← List.append_assoc, HNS.out, HL.out]
              exact HJ3.out
            case measure => simp [intOf]; omega
          · have HX := Aside0.mk hJx3
            clear hJx3
            gi_wp2
            refine bodyPost_ret (results_none rfl _ _ _) rfl ?_
            refine ⟨⟨_, rfl⟩, .inr ⟨_, ?_, HX.out⟩⟩
            have h1 := numd_prefix HLE.out.2
            have hi1 : i + 1 ≤ y.f1.toNat := by omega
            have h2 : ps ++ runAt (wrap64 (at0 + y.f0)) (i + 1) <+: ps ++ runAt (wrap64 (at0 + y.f0)) y.f1.toNat := by
              refine (List.prefix_append_right_inj _).2 ?_
              have : ∀ (m j : Nat) (a : Int), j ≤ m → runAt a j <+: runAt a m := by
                intro m
                induction m with
                | zero => intro j a hj; obtain rfl : j = 0 := by omega
                          exact List.prefix_rfl
                | succ m ih =>
                  intro j a hj
                  cases j with
                  | zero => exact List.nil_prefix
                  | succ j => exact (List.cons_prefix_cons).2 ⟨rfl, ih j _ (by omega)⟩
              exact this _ _ _ hi1
            have h3 := (numd_prefix h2).trans h1
            rw [HA.out, ← List.append_assoc, HNS.out, HL.out] at h3
            exact h3
        · have hie : i = y.f1.toNat := by omega
          have hli' : ¬ (i : Int) < y.f1 := hli
          gi_wp2
          go_roundw
          case rel =>
            refine ⟨kk + 1, by omega, by go_num, ?_, ?_, HS, ?_⟩
            · rw [HE1.out, hie]
            · rw [HP1.out, List.length_append, runAt_length, hie]; go_num
            · rw [HP1.out, ← hie]; exact HJ0
          case measure => simp [intOf]; omega
    · have hlti : ¬ (kk : Int) < (l.length : Int) := by omega
      have hk : l.take kk = l := List.take_of_length_le (by omega)
      have HK := Aside0.mk hk
      clear hk
      gi_wp2
      go_end0
      have hj := HJ0.out
      rw [HK.out] at hj
      exact ⟨⟨_, rfl⟩, .inl hj⟩
theorem all_in (n : Nat) (hn : 1 ≤ n) (A0 : Option Addr) (c0 : Nat) (l0 : List S87) (w : World) (hr0 : Kd.C k87 w A0 l0.length l0) (hc0 : l0.length ≤ c0) (hm : l0.length < 8796093022208) :
    CallsIn Fence.wide n Try.prog 140 #[.slice A0 l0.length c0] w fun e w' => ∃ (Bn : Nat) (v : Value), e = .returned (.func (.func 141) #[] #[.pointer (some ⟨Bn, 0, none⟩)]) ∧ HoldsSp w.heap.size w'.heap.size Bn v l0 w' ∧ Below w.heap.size w w' := by
  have hf : Fence.wide.fn 80 := trivial
  have HC := Aside0.mk (slices_Clone_span.calls A0 c0 l0 l0 w hr0 hc0 (by unfold slices_Clone_span.f; rw [if_pos hm]))
  clear hr0 hc0 hm
  refine callsIn_of_wp Try.func140 rfl trivial ?_ rfl
  simp only [Try.ntmps140, List.size_toArray, List.length_cons, List.length_nil, Nat.reduceAdd, Nat.reduceSub, Array.replicate_succ, Array.replicate_zero, List.push_toArray, List.append_toArray, List.nil_append, List.cons_append]
  gi_wp2_with (gi_at_call 80; refine (callsIn_wide.2 HC.out).mono ?_; rintro e w1 ⟨v, rfl, ho, hb⟩; have HO := Aside0.mk ho; have HB := Aside0.mk hb; obtain ⟨A1, c1, rfl⟩ := Kd.R_slice ho; clear ho hb)
  go_ret
  refine ⟨w1.heap.size, .slice A1 l0.length c1, rfl, ⟨⟨HB.out.size, by simp⟩, by simp, ?_, ?_⟩, below_then HB.out HB.out.size (below_alloc (Below.refl _ _) _)⟩
  · simpa using blk_new w1 (.cells #[.slice A1 l0.length c1] 27)
  · refine Kd.R_mono (Kd.R_bound (Kd.R_below HO.out (below_alloc (Below.refl _ _) _))) (fun k hk => ⟨hk.2.1, hk.2.2.1⟩)
theorem all_stops (n : Nat) (hn : 1 ≤ n) (n0 Bn : Nat) (v : Value) (l : List S87) (k : Nat) (hck : span_Check.f k l = some 0) (hN : (placesAt 0 l).length ≤ 4611686018427387904) (w : World) (hS : HoldsSp n0 w.heap.size Bn v l w) :
    SeqStopsK Fence.wide n Try.prog 141 #[.pointer (some ⟨Bn, 0, none⟩)] (fun x : Int × Int => #[Value.int .i64 x.1, .int .i64 x.2]) (KeepR n0 w.heap.size) (fun ys => ys = numd (placesAt 0 l)) (fun pre => pre <+: numd (placesAt 0 l)) (placesAt 0 l).length w := fun L J Jx W hW hJ _ hY h0 =>
  all1_in n hn L n0 w.heap.size Bn v l k hck hN J Jx (fun s A B hs hg => hJ s A B none hs hg (fun r e => by cases e)) hY W (hS.keep (KeepR.of_below hW (Nat.le_refl _))) h0
end Go.Proofs.Ytgkplhdcafbfbaa.P
namespace Go.Proofs.Ytgkplhdcafbfbaa.P
open Go.RowKit Go.Shelf Go.Proofs.YtgkplhdcafbfbaaW.PrintWords Go.Proofs.YtgkplhdcafbfbaaW.PrintLast Go.Proofs.YtgkplhdcafbfbaaW.PrintMore
set_option linter.unusedVariables false
set_option linter.unusedSimpArgs false
attribute [local go_sem] Oper.semAt_some
def span_Places.f (k : Nat) (l0 : List S87) : Option (List Int × Int) :=
  (span_Check.f k l0).bind fun e => if e = 0 then (if l0.length < 8796093022208 ∧ (placesAt 0 l0).length < 17592186044416 then some (placesAt 0 l0, 0) else none) else some ([], e)
theorem numd_map (ps : List Int) : (numd ps).map (fun x => Value.int .i64 x.2) = encs (Value.int .i64) ps := by
  unfold numd encs
  rw [List.map_map]
  have : ∀ (ps : List Int) (i : Nat), (ps.zipIdx i).map ((fun x : Int × Int => Value.int .i64 x.2) ∘ fun p : Int × Nat => (((p.2 : Nat) : Int), p.1)) = ps.map (Value.int .i64) := by
    intro ps
    induction ps with
    | nil => intro i; rfl
    | cons p ps ih => intro i; simp only [List.zipIdx_cons, List.map_cons, ih, Function.comp]
  exact this ps 0
theorem keepR_appended {n0 n1 B : Nat} {W w1 : World} {e : TypeId} {size k : Nat} {v v' : Value} {xs : List Value} {tmp : Obj} (hB : B < n0) (hn : n1 ≤ W.heap.size)
    (hrow : W.ownsRow n1 e size v k xs) (hgrow : (W.alloc tmp).grownBy w1 v.ownBlock) : KeepR n0 n1 W (w1.setCell ⟨B, 0, none⟩ v') := by
  have hs := hgrow.size
  simp at hs
  refine ⟨by simp [World.setCell]; omega, fun q h0 h1 => ?_⟩
  rw [Below.heap_setCell w1 ⟨B, 0, none⟩ v' q (by show q ≠ B; omega), hgrow.block q (by simp; omega) (fun e' => ?_), Below.heap_alloc W tmp q (by omega)]
  have := own_base hrow q e'.symm
  omega
set_option maxRecDepth 100000 in
set_option maxHeartbeats 4000000 in
theorem span_Places.calls (k : Nat) (A0 : Option Addr) (c0 : Nat) (l0 : List S87) (r1 : List Int) (r2 : Int) (w : World) (hr0 : Kd.C k87 w A0 l0.length l0) (hc0 : l0.length ≤ c0) (h : span_Places.f k l0 = some (r1, r2)) :
    Calls Try.prog 135 #[.slice A0 l0.length c0] w fun e w' => ∃ v0_ : Value, e = .returned (.tuple #[v0_, .int .i64 r2]) ∧ Kd.R (Kd.int .i64) 3 w' w.heap.size (fun _ => True) v0_ r1 ∧ Below w.heap.size w w' := by
  obtain ⟨e0, hck, h2⟩ := Option.bind_eq_some_iff.1 h
  clear h
  have HCk := Aside0.mk (span_Check.calls k A0 c0 l0 e0 w hr0 hc0 hck)
  by_cases he : e0 = 0
  · subst he
    rw [if_pos rfl] at h2
    obtain ⟨hm, h3⟩ := of_ite_some h2
    injection h3 with h4 h5
    subst h4; subst h5
    clear h2
    refine (callsIn_wide (n := 5)).1 ?_
    have hf0 : Fence.wide.fn 118 := trivial
    have hf1 : Fence.wide.fn 140 := trivial
    have HR := Aside0.mk hr0
    have HM := Aside0.mk hm
    obtain ⟨i0, hi, hz0, hz1, hz2⟩ := info_parts info3
    clear hr0 hm
    refine callsIn_of_wp_marks Try.func135 rfl trivial ?_ rfl
    simp only [Try.ntmps135, List.size_toArray, List.length_cons, List.length_nil, Nat.reduceAdd, Nat.reduceSub, Array.replicate_succ, Array.replicate_zero, List.push_toArray, List.append_toArray, List.nil_append, List.cons_append]
    gi_wp2_with (first | (gi_at_call 118; refine (callsIn_wide.2 HCk.out).mono ?_; rintro e w1 ⟨rfl, hb⟩; have HB := Aside0.mk hb; clear hb HCk) | (gi_at_call 140; refine (all_in _ (by omega) A0 c0 l0 _ (Kd.C_below (Kd.C_below HR.out HB.out) (below_alloc (Below.refl _ _) _)) hc0 HM.out.1).mono ?_; rintro e w2 ⟨Bn, v, rfl, hS, hb2⟩; have HS := Aside0.mk hS; have HB2 := Aside0.mk hb2; clear hS hb2))
    have hsz : w1.heap.size + 1 ≤ w2.heap.size := by have := HB2.out.size; simpa using this
    have hB2 : w2.heap[w1.heap.size]? = some (.cells #[.slice none 0 0] 95 (0, 0)) := (HB2.out.block _ (by simp)).trans (by simpa using blk_new w1 (.cells #[.slice none 0 0] 95))
    have hBW : Below w.heap.size w w2 := below_then (below_then HB.out HB.out.size (below_alloc (Below.refl _ _) _)) (by have := HB.out.size; simp; omega) HB2.out
    have hS2 : HoldsSp (w1.heap.size + 1) w2.heap.size Bn v l0 w2 := by simpa using HS.out
    refine wpIn_rangeFunc_ownG rfl (by omega) (gf := 141) (lb := #[.pointer (some ⟨Bn, 0, none⟩)]) rfl trivial (enters_of Try.func141 (by kernel_rfl) rfl)
      (all_stops _ (by omega) (w1.heap.size + 1) Bn v l0 k hck (by have := HM.out.2; omega) w2 hS2) KeepR.trans (KeepR.put (Nat.le_refl _)) (Below.refl _ _) (fun _ => rfl)
      (fun pre W => (∃ v, Boxed W w1.heap.size 95 v ∧ W.ownsRow w2.heap.size 3 1 v pre.length (pre.map fun x => Value.int .i64 x.2) ∧ True) ∧ (Below w.heap.size w W ∧ w2.heap.size ≤ W.heap.size))
      (fun _ _ _ => False)
      (OwnFrom.and (Own.from (holdsRow_own w2.heap.size w1.heap.size 95 3 1 (fun pre : List (Int × Int) => pre.length) (fun pre => pre.map fun x => Value.int .i64 x.2) (fun pre v => True)) _) (OwnFrom.and (ownFrom_below (Nat.le_refl _) (by have := HB.out.size; omega)) (fun s A B row hs hg hr => Nat.le_trans hs hg.size)))
      (fun _ _ _ _ _ hs _ _ => hs)
      ⟨⟨_, hB2, World.ownsRow_nil _ _ _ _, trivial⟩, hBW, Nat.le_refl _⟩
      (fun x => { tmps := #[.slice A0 l0.length c0, undef, .slice none 0 0, .int .i64 0, .int .i64 0, .pointer (some ⟨w1.heap.size, 0, none⟩), undef, .int .i64 x.2, .slice A0 l0.length c0, .int .i64 0, .int .i64 0, .bool false, undef, .slice A0 l0.length c0, .func (.func 141) #[] #[.pointer (some ⟨Bn, 0, none⟩)], .int .i64 x.1, .int .i64 x.2, undef, undef, undef, undef, undef], defers := [] }) ?assign ?body ?done ?stop
    case assign =>
      intro l x W K hK
      gi_wp2
      exact hK
    case body =>
      rintro l pre x W ⟨⟨v, hv, hrow, _⟩, hB, hW2⟩ hlt
      have hc := hv.cell
      have hL := HM.out.2
      gi_wp2_with (gi_at_builtin; refine wpListIn_append_own _ rfl _ _ 95 rfl w2.heap.size 3 i0 (.int .i64 0) 1 8 Try.underlying95 hi hz0 hz1 hz2 rfl (by decide) _ _ _ rfl (hrow.alloc _) ⟨W.heap.size, 0, none⟩ 1 1 [.int .i64 x.2] rfl rfl (cell_one_new _ _ _) (by simp [Value.oneCell']) (by unfold maxLen; omega) (by omega) (by simp; omega) ?_; intro v' w3 hown' hgrow _; obtain ⟨g', cap', rfl⟩ := ownsRow_succ hown'; have hkr := keepR_appended (v' := .slice (some ⟨g', 0, none⟩) (pre.length + 1) cap') (B := w1.heap.size) (n0 := w1.heap.size + 1) (Nat.lt_succ_self _) hW2 hrow hgrow; obtain ⟨hv1, hv2, hr2, hk2, hb2⟩ := hv.appended (n₀ := w1.heap.size) (by decide) (own_weaken hrow (by omega)) (by omega) (Nat.le_refl _) (own_weaken hown' (by omega)) hgrow; have hr3 := hown'.kept (grownBy_setCell' w3 w1.heap.size (.slice (some ⟨g', 0, none⟩) (pre.length + 1) cap')) (.inr (hv1.not_row (by decide) hown').symm); have hc1 := hv1.cell; have hf1 := hv1.frozen)
      exact ⟨hk2.from _, hkr, ⟨⟨_, hv2, by simpa using hr3, trivial⟩, hB.trans (hb2.mono HB.out.size), Nat.le_trans hW2 hkr.1⟩⟩
    case done =>
      rintro D ys W hD rfl ⟨⟨v, hv, hrow, _⟩, hB, hW2⟩ hK
      have hc := hv.cell
      gi_wp2
      refine ⟨by simp, .inl ⟨_, _, rfl, run_takeDeferred hK, ?_⟩⟩
      have hr2 := ownsRow_putObj hrow (.deferred none) hK rfl
      refine ⟨_, results_tmp2 rfl _ _ _, v, rfl, ?_, hB.trans (belowK_b (w := w2) (by have := HB.out.size; omega) W D _ _ hD hK rfl rfl)⟩
      rw [numd_length, numd_map] at hr2
      exact Kd.R_lower (Kd.R_of_own (enc := Value.int .i64) (h1 := fun _ => rfl) hr2 (fun _ _ => trivial)) (by have := HB.out.size; omega)
    case stop =>
      rintro D c pre W _ _ h _
      exact h.elim
  · rw [if_neg he] at h2
    have h3 := Option.some.inj h2
    injection h3 with h4 h5
    subst h4; subst h5
    clear h2
    have he1 : (e0 == 0) = false := beq_eq_false_iff_ne.2 he
    have he2 : (e0 != 0) = true := bne_iff_ne.2 he
    go_enter Try.func135, Try.ntmps135
    go_wp2_with (go_at_call 118; refine HCk.out.mono ?_; rintro e w1 ⟨rfl, hb⟩; have HB := Aside0.mk hb; clear hb)
    go_ret2
    exact ⟨_, rfl, Kd.R_nil _ _ _ _ _, HB.out⟩
end Go.Proofs.Ytgkplhdcafbfbaa.P
namespace Go.Proofs.Ytgkplhdcafbfbaa.P
open Go.RowKit Go.Proofs.YtgkplhdcafbfbaaW.PrintWords Go.Proofs.YtgkplhdcafbfbaaW.PrintLast Go.Proofs.YtgkplhdcafbfbaaW.PrintMore
set_option linter.unusedVariables false
set_option linter.unusedSimpArgs false
abbrev Sp := S87
abbrev Rsp := S104
def wfSp (s : Sp) : Prop := i64 s.f0 ∧ i64 s.f1
def wfSps (l : List Sp) : Prop := ∀ s ∈ l, wfSp s
theorem rdSp_at {l : List Sp} {i : Nat} (h : i < l.length) : rd_T87 l (i : Int) = l[i] := by unfold rd_T87; simp [List.getD, h]
def toR (s : Sp) : Rsp := ⟨s.f0, s.f1⟩
theorem in_eq (p : Int) : span_in.f p = some (decide (-1048576 ≤ p ∧ p ≤ 1048576)) := by
  unfold span_in.f
  by_cases h : p ≥ -1048576
  · rw [if_pos h]; congr 1; rw [decide_eq_decide]; omega
  · rw [if_neg h, decide_eq_false (by omega)]
def oneRight (first : Bool) (a n : Int) (s : Sp) : Prop :=
  0 ≤ s.f1 ∧ s.f1 ≤ 4096 ∧ s.f0 ≤ 2097152 ∧ (if first = true then -1048576 ≤ s.f0 else 0 ≤ s.f0) ∧ -1048576 ≤ a + s.f0 ∧ a + s.f0 ≤ 1048576 ∧ a + s.f0 + max (s.f1 - 1) 0 ≤ 1048576 ∧ n + s.f1 ≤ 4096
instance (f : Bool) (a n : Int) (s : Sp) : Decidable (oneRight f a n s) := by unfold oneRight; exact inferInstance
def spRight : Bool → Int → Int → List Sp → Bool
  | _, _, _, [] => true
  | f, a, n, s :: r => decide (oneRight f a n s) && spRight false (a + s.f0 + s.f1) (n + s.f1) r
theorem mx_max (a b : Int) : mx a b = max a b := by unfold mx; omega
theorem right_j1 (k : Nat) (a n x0 x1 : Int) (l : List Sp) (L i : Int) (ha : -1048576 ≤ a ∧ a ≤ 1048577) (hn : 0 ≤ n ∧ n ≤ 4096) (h0 : -1048576 ≤ x0 ∧ x0 ≤ 2097152) (h1 : 0 ≤ x1 ∧ x1 ≤ 4096) :
    span_right.j1 (k + 1) a n l L i false x0 x1 = if -1048576 ≤ a + x0 ∧ a + x0 ≤ 1048576 ∧ a + x0 + max (x1 - 1) 0 ≤ 1048576 ∧ n + x1 ≤ 4096 then span_right.l0 k (a + x0 + x1) (n + x1) l L (wrap64 (i + 1)) else some false := by
  simp only [span_right.j1]
  rw [if_neg (by decide), wrap_id (x := a + x0) (by omega) (by omega), in_eq]
  simp only [Option.bind_some]
  by_cases c1 : -1048576 ≤ a + x0 ∧ a + x0 ≤ 1048576
  · rw [if_pos (by simpa using c1), wrap_id (x := x1 - 1) (by omega) (by omega), mx_max, wrap_id (x := a + x0 + max (x1 - 1) 0) (by omega) (by omega), in_eq]
    simp only [Option.bind_some]
    by_cases c2 : a + x0 + max (x1 - 1) 0 ≤ 1048576
    · rw [if_pos (by simp; omega), wrap_id (x := n + x1) (by omega) (by omega)]
      by_cases c3 : n + x1 ≤ 4096
      · rw [if_neg (by omega), if_pos ⟨c1.1, c1.2, c2, c3⟩, wrap_id (x := a + x0 + x1) (by omega) (by omega)]
      · rw [if_pos (by omega), if_neg (by omega)]
    · rw [if_neg (by simp; omega), if_neg (by omega)]
  · rw [if_neg (by simpa using c1), if_neg (by omega)]
theorem right_loop (l : List Sp) (hw : wfSps l) (hm : l.length ≤ 4611686018427387904) : ∀ (d k i : Nat) (a n : Int), l.length - i = d → 2 * d < k → i ≤ l.length → -1048576 ≤ a ∧ a ≤ 1048577 → 0 ≤ n ∧ n ≤ 4096 →
    span_right.l0 k a n l (l.length : Int) (i : Int) = some (spRight (decide (i = 0)) a n (l.drop i)) := by
  intro d
  induction d with
  | zero =>
    intro k i a n hd hk hi ha hn
    obtain ⟨k, rfl⟩ : ∃ m, k = m + 1 := ⟨k - 1, by omega⟩
    simp only [span_right.l0]
    rw [if_neg (by omega), drop_end (by omega)]; rfl
  | succ d ih =>
    intro k i a n hd hk hi ha hn
    obtain ⟨k, rfl⟩ : ∃ m, k = m + 2 := ⟨k - 2, by omega⟩
    have hlt : i < l.length := by omega
    have hs := hw _ (List.getElem_mem hlt)
    simp only [span_right.l0]
    rw [if_pos (by omega), if_pos (by omega), if_pos (by omega), rdSp_at hlt, drop_at hlt]
    generalize l[i] = s at hs
    have hbad : ¬ oneRight (decide (i = 0)) a n s → some false = some (spRight (decide (i = 0)) a n (s :: l.drop (i + 1))) := fun h => by simp only [spRight, decide_eq_false h, Bool.false_and]
    have hf : ∀ L' : Int, span_right.j1 (k + 1) a n l (l.length : Int) (i : Int) true s.f0 s.f1 = some false := fun _ => by simp only [span_right.j1]; simp
    have hf := hf 0
    have hgo : (-1048576 ≤ s.f0 ∧ s.f0 ≤ 2097152) → (0 ≤ s.f1 ∧ s.f1 ≤ 4096) → (if decide (i = 0) = true then -1048576 ≤ s.f0 else 0 ≤ s.f0) → span_right.j1 (k + 1) a n l (l.length : Int) (i : Int) false s.f0 s.f1 = some (spRight (decide (i = 0)) a n (s :: l.drop (i + 1))) := by
      intro h0 h1 h2
      rw [right_j1 k a n s.f0 s.f1 l _ _ ha hn h0 h1]
      by_cases c : -1048576 ≤ a + s.f0 ∧ a + s.f0 ≤ 1048576 ∧ a + s.f0 + max (s.f1 - 1) 0 ≤ 1048576 ∧ n + s.f1 ≤ 4096
      · rw [if_pos c, wrap_succ (by omega), ih k (i + 1) _ _ (by omega) (by omega) (by omega) (by omega) (by omega)]
        have : oneRight (decide (i = 0)) a n s := ⟨h1.1, h1.2, h0.2, h2, c.1, c.2.1, c.2.2.1, c.2.2.2⟩
        simp only [spRight, decide_eq_true this, Bool.true_and]
        rfl
      · rw [if_neg c]; exact hbad (fun h => c ⟨h.2.2.2.2.1, h.2.2.2.2.2.1, h.2.2.2.2.2.2.1, h.2.2.2.2.2.2.2⟩)
    by_cases c1 : s.f0 > 2097152
    · rw [if_pos c1, hf]; exact hbad (fun h => by have := h.2.2.1; omega)
    rw [if_neg c1]
    by_cases c2 : s.f1 < 0
    · rw [if_pos c2, hf]; exact hbad (fun h => by have := h.1; omega)
    rw [if_neg c2]
    by_cases c3 : s.f1 > 4096
    · rw [if_pos c3, hf]; exact hbad (fun h => by have := h.2.1; omega)
    rw [if_neg c3]
    by_cases c4 : s.f0 < 0
    · rw [if_pos c4]
      by_cases c5 : i = 0
      · subst c5
        rw [if_neg (by omega), in_eq]
        simp only [Option.bind_some]
        by_cases c6 : -1048576 ≤ s.f0 ∧ s.f0 ≤ 1048576
        · rw [decide_eq_true c6, Bool.not_true]; exact hgo (by omega) (by omega) (by simp; exact c6.1)
        · rw [decide_eq_false c6, Bool.not_false, hf]; exact hbad (fun h => by have h4 := h.2.2.2.1; rw [if_pos (by simp)] at h4; omega)
      · rw [if_pos (by omega), hf]; exact hbad (fun h => by have h4 := h.2.2.2.1; rw [if_neg (by simp [c5])] at h4; omega)
    · rw [if_neg c4]; exact hgo (by omega) (by omega) (by split <;> omega)
theorem right_eq (l : List Sp) (hw : wfSps l) (hm : l.length ≤ 4611686018427387904) (k : Nat) (hk : 2 * l.length < k) : span_right.f k l = some (spRight true 0 0 l) := by
  unfold span_right.f
  have := right_loop l hw hm l.length k 0 0 0 (by omega) hk (by omega) (by omega) (by omega)
  simpa using this
def spCheck (l : List Sp) : Int := if l.length > 1024 then 12 else if spRight true 0 0 l = true then 0 else 20
theorem check_eq (l : List Sp) (hw : wfSps l) (k : Nat) (hk : 2048 < k) : span_Check.f k l = some (spCheck l) := by
  unfold span_Check.f spCheck
  by_cases h : l.length > 1024
  · rw [if_pos (by omega), if_pos h]
  · rw [if_neg (by omega), if_neg h, right_eq l hw (by omega) k (by omega)]
    simp only [Option.bind_some]
    split <;> rfl
end Go.Proofs.Ytgkplhdcafbfbaa.P
namespace Go.Proofs.Ytgkplhdcafbfbaa.P
open Go.RowKit Go.Proofs.YtgkplhdcafbfbaaW.PrintWords Go.Proofs.YtgkplhdcafbfbaaW.PrintLast Go.Proofs.YtgkplhdcafbfbaaW.PrintMore
set_option linter.unusedVariables false
set_option linter.unusedSimpArgs false
def run : Int → Nat → List Int
  | _, 0 => []
  | a, n + 1 => a :: run (a + 1) n
theorem run_length : ∀ (n : Nat) (a : Int), (run a n).length = n
  | 0, _ => rfl
  | n + 1, a => by show (run (a + 1) n).length + 1 = n + 1; rw [run_length n]
theorem run_snoc : ∀ (n : Nat) (a : Int), run a (n + 1) = run a n ++ [a + n]
  | 0, a => by simp [run]
  | n + 1, a => by
    show a :: run (a + 1) (n + 1) = a :: run (a + 1) n ++ [a + ((n + 1 : Nat) : Int)]
    rw [run_snoc n]; simp; omega
def plN : Int → List Sp → List Int
  | _, [] => []
  | a, s :: r => run (a + s.f0) s.f1.toNat ++ plN (a + s.f0 + s.f1) r
def enN : Int → List Sp → Int
  | a, [] => a
  | a, s :: r => enN (a + s.f0 + s.f1) r
def cntN : List Sp → Int
  | [] => 0
  | s :: r => s.f1 + cntN r
theorem plN_snoc (s : Sp) : ∀ (l : List Sp) (a : Int), plN a (l ++ [s]) = plN a l ++ run (enN a l + s.f0) s.f1.toNat
  | [], a => by simp [plN, enN]
  | x :: l, a => by simp [plN, enN, plN_snoc s l]
theorem enN_snoc (s : Sp) : ∀ (l : List Sp) (a : Int), enN a (l ++ [s]) = enN a l + s.f0 + s.f1
  | [], a => by simp [enN]
  | x :: l, a => by simp [enN, enN_snoc s l]
theorem cntN_snoc (s : Sp) : ∀ (l : List Sp), cntN (l ++ [s]) = cntN l + s.f1
  | [] => by simp [cntN]
  | x :: l => by simp [cntN, cntN_snoc s l]; omega
theorem spRight_snoc (s : Sp) : ∀ (l : List Sp) (f : Bool) (a n : Int), spRight f a n (l ++ [s]) = (spRight f a n l && decide (oneRight (f && l.isEmpty) (enN a l) (n + cntN l) s))
  | [], f, a, n => by simp [spRight, enN, cntN]
  | x :: l, f, a, n => by
    simp only [List.cons_append, spRight, enN, cntN, spRight_snoc s l, List.isEmpty_cons, Bool.false_and, Bool.and_false, Bool.and_assoc, Int.add_assoc]
theorem spRight_pos : ∀ (l : List Sp) (f : Bool) (a n : Int), spRight f a n l = true → ∀ s ∈ l, 0 ≤ s.f1 ∧ s.f1 ≤ 4096
  | [], _, _, _, _, s, hs => by simp at hs
  | x :: l, f, a, n, h, s, hs => by
    simp only [spRight, Bool.and_eq_true, decide_eq_true_eq] at h
    rcases List.mem_cons.1 hs with rfl | hs
    · exact ⟨h.1.1, h.1.2.1⟩
    · exact spRight_pos l _ _ _ h.2 s hs
theorem plN_length : ∀ (l : List Sp) (a : Int), (∀ s ∈ l, 0 ≤ s.f1) → ((plN a l).length : Int) = cntN l
  | [], _, _ => rfl
  | s :: l, a, h => by
    have := plN_length l (a + s.f0 + s.f1) (fun x hx => h x (List.mem_cons_of_mem _ hx))
    have := h s (List.mem_cons_self ..)
    simp only [plN, cntN, List.length_append, run_length]
    omega
theorem runAt_run : ∀ (n : Nat) (a : Int), -4611686018427387904 ≤ a → a + n ≤ 4611686018427387904 → runAt a n = run a n ∧ runEnd a n = a + n
  | 0, a, _, _ => ⟨rfl, by simp [runEnd]⟩
  | n + 1, a, h0, h1 => by
    have h2 : a + 1 + (n : Int) ≤ 4611686018427387904 := by omega
    obtain ⟨e1, e2⟩ := runAt_run n (a + 1) (by omega) h2
    simp only [runAt, runEnd, run]
    rw [wrap_id (by omega) (by omega), e1, e2]
    exact ⟨rfl, by omega⟩
theorem placesAt_plN : ∀ (l : List Sp) (f : Bool) (a n : Int), spRight f a n l = true → placesAt a l = plN a l
  | [], _, _, _, _ => rfl
  | s :: l, f, a, n, h => by
    simp only [spRight, Bool.and_eq_true, decide_eq_true_eq] at h
    obtain ⟨h1, h2, h3, h4, h5, h6, h7, h8⟩ := h.1
    have he : ((s.f1.toNat : Nat) : Int) = s.f1 := by omega
    have hb := runAt_run s.f1.toNat (a + s.f0) (by omega) (by omega)
    simp only [placesAt, plN]
    rw [wrap_id (by omega) (by omega), hb.1, hb.2, he, placesAt_plN l _ _ _ h.2]
theorem cntN_le : ∀ (l : List Sp) (f : Bool) (a n : Int), spRight f a n l = true → n ≤ 4096 → n + cntN l ≤ 4096
  | [], _, _, _, _, h => by simp [cntN]; exact h
  | s :: l, f, a, n, h, _ => by
    simp only [spRight, Bool.and_eq_true, decide_eq_true_eq] at h
    have := cntN_le l _ _ _ h.2 h.1.2.2.2.2.2.2.2
    simp only [cntN]; omega
def rises : Int → List Int → Bool
  | _, [] => true
  | e, p :: r => decide (e ≤ p ∧ p ≤ 1048576) && rises (p + 1) r
def lowB (e : Int) (l : List Int) : Int := match l.getLast? with | none => e | some q => q + 1
theorem lowB_none {e : Int} {l : List Int} (h : l.getLast? = none) : lowB e l = e := by unfold lowB; rw [h]
theorem lowB_some {e q : Int} {l : List Int} (h : l.getLast? = some q) : lowB e l = q + 1 := by unfold lowB; rw [h]
theorem rises_snoc (p : Int) : ∀ (l : List Int) (e : Int), rises e (l ++ [p]) = (rises e l && decide (lowB e l ≤ p ∧ p ≤ 1048576))
  | [], e => (show (decide (e ≤ p ∧ p ≤ 1048576) && true) = (true && decide (e ≤ p ∧ p ≤ 1048576)) from Bool.and_comm _ _)
  | x :: l, e => by
    simp only [List.cons_append, rises, rises_snoc p l, Bool.and_assoc]
    congr 3
    cases l with
    | nil => rfl
    | cons y l => cases h : (y :: l).getLast? with
      | none => simp at h
      | some q => rw [lowB_some h, lowB_some (by rw [List.getLast?_cons_cons]; exact h)]
theorem rises_take_false {l : List Int} {i : Nat} (h : i < l.length) (hb : ¬ (lowB (-1048576) (l.take i) ≤ l[i] ∧ l[i] ≤ 1048576)) : rises (-1048576) l = false := by
  have e : l = l.take (i + 1) ++ l.drop (i + 1) := (List.take_append_drop _ _).symm
  have happ : ∀ (a b : List Int) (e : Int), rises e a = false → rises e (a ++ b) = false := by
    intro a
    induction a with
    | nil => intro b e h; simp [rises] at h
    | cons x a ih => intro b e h; simp only [List.cons_append, rises] at h ⊢; rcases Bool.and_eq_false_iff.1 h with h | h
                     · rw [h]; rfl
                     · rw [ih b _ h]; simp
  rw [e]
  apply happ
  rw [take_at h, rises_snoc, decide_eq_false hb]
  simp
def stepF (c : List Sp × Int) (p : Int) : List Sp × Int :=
  (if c.1 = [] ∨ p > c.2 then c.1 ++ [⟨p - c.2, 1⟩] else c.1.dropLast ++ (c.1.getLast?.map fun s => (⟨s.f0, s.f1 + 1⟩ : Sp)).toList, p + 1)
def foldF (l : List Int) : List Sp × Int := l.foldl stepF ([], 0)
def spansOf (l : List Int) : List Sp := (foldF l).1
theorem foldF_snoc (l : List Int) (p : Int) : foldF (l ++ [p]) = stepF (foldF l) p := by simp [foldF]
def canonOne (first : Bool) (s : Sp) : Prop := s.f1 ≠ 0 ∧ (first = false → s.f0 ≠ 0)
instance (f : Bool) (s : Sp) : Decidable (canonOne f s) := by unfold canonOne; exact inferInstance
def canonB : Bool → List Sp → Bool
  | _, [] => true
  | f, s :: r => decide (canonOne f s) && canonB false r
theorem canonB_snoc (s : Sp) : ∀ (l : List Sp) (f : Bool), canonB f (l ++ [s]) = (canonB f l && decide (canonOne (f && l.isEmpty) s))
  | [], f => by simp [canonB]
  | x :: l, f => by simp only [List.cons_append, canonB, canonB_snoc s l, List.isEmpty_cons, Bool.false_and, Bool.and_false, Bool.and_assoc]
structure SpInv (l : List Int) (c : List Sp) (e : Int) : Prop where
  pl : plN 0 c = l
  en : enN 0 c = e
  cnt : cntN c = l.length
  can : canonB true c = true
  pos : ∀ s ∈ c, 1 ≤ s.f1 ∧ s.f1 ≤ l.length ∧ -1048576 ≤ s.f0 ∧ s.f0 ≤ 2097152
  right : (l.length : Int) ≤ 4096 → spRight true 0 0 c = true
  nil : c = [] ↔ l = []
  last : ∀ q, l.getLast? = some q → e = q + 1 ∧ -1048576 ≤ q ∧ q ≤ 1048576
  first : l = [] → e = 0
  len : c.length ≤ l.length
theorem spInv_step {l : List Int} {p : Int} (h : SpInv l (foldF l).1 (foldF l).2) (hp : lowB (-1048576) l ≤ p ∧ p ≤ 1048576) : SpInv (l ++ [p]) (foldF (l ++ [p])).1 (foldF (l ++ [p])).2 := by
  rw [foldF_snoc]
  generalize foldF l = g at h
  obtain ⟨c, e⟩ := g
  obtain ⟨hpl, hen, hcnt, hcan, hpos, hright, hnil, hlast, hfirst, hlen⟩ := h
  simp only at hpl hen hcnt hcan hpos hright hnil hlast hfirst hlen
  have hpb : -1048576 ≤ p := by
    cases hl : l.getLast? with
    | none => rw [lowB_none hl] at hp; exact hp.1
    | some q => rw [lowB_some hl] at hp; have := hlast q hl; have := hp.1; omega
  have heb : -1048576 ≤ e ∧ e ≤ 1048577 := by
    cases hl : l.getLast? with
    | none => have := hfirst (List.getLast?_eq_none_iff.1 hl); omega
    | some q => have := hlast q hl; omega
  have hlast' : ∀ q, (l ++ [p]).getLast? = some q → p + 1 = q + 1 ∧ -1048576 ≤ q ∧ q ≤ 1048576 := by
    intro q hq; simp at hq; subst hq; exact ⟨rfl, hpb, hp.2⟩
  unfold stepF
  simp only
  by_cases hc : c = [] ∨ p > e
  · rw [if_pos hc]
    have hemp : c ≠ [] → 0 < p - e := by intro hne; rcases hc with hc | hc; exact absurd hc hne; omega
    have hlo : -1048576 ≤ p - e := by
      by_cases hne : c = []
      · have := hfirst (hnil.1 hne); omega
      · have := hemp hne; omega
    refine ⟨?_, ?_, ?_, ?_, ?_, ?_, ?_, hlast', by simp, by simp; exact hlen⟩
    · rw [plN_snoc, hpl, hen]; simp [run]; omega
    · rw [enN_snoc, hen]; simp; omega
    · rw [cntN_snoc, hcnt]; simp
    · rw [canonB_snoc, hcan]
      simp only [Bool.true_and, decide_eq_true_eq]
      refine ⟨by simp, fun hf => ?_⟩
      have : c ≠ [] := by rintro rfl; simp at hf
      have := hemp this
      simp only; omega
    · intro s hs
      rcases List.mem_append.1 hs with hs | hs
      · have := hpos s hs; simp; omega
      · simp at hs; subst hs; simp; omega
    · intro hl
      have hl' : (l.length : Int) ≤ 4096 := by simp at hl; omega
      rw [spRight_snoc, hright hl', hen, hcnt]
      simp only [Bool.true_and, decide_eq_true_eq]
      refine ⟨by simp, by simp, by simp; omega, ?_, by simp; omega, by simp; omega, by simp; omega, by simp at hl ⊢; omega⟩
      by_cases hne : c = []
      · subst hne; simp; have := hfirst (hnil.1 rfl); omega
      · have := hemp hne
        rw [if_neg (by simp [hne])]
        simp only; omega
    · simp
  · rw [if_neg hc]
    have hne : c ≠ [] := fun h => hc (Or.inl h)
    obtain ⟨c', s, rfl⟩ : ∃ c' s, c = c' ++ [s] := ⟨c.dropLast, c.getLast hne, (List.dropLast_concat_getLast hne).symm⟩
    have hle : l ≠ [] := fun h => hne (hnil.2 h)
    obtain ⟨q, hq⟩ : ∃ q, l.getLast? = some q := by cases hl : l.getLast? with
      | none => exact absurd (List.getLast?_eq_none_iff.1 hl) hle
      | some q => exact ⟨q, rfl⟩
    have hpe : p = e := by
      rw [lowB_some hq] at hp
      have := hlast q hq
      have := hp.1
      have : ¬ p > e := fun h => hc (Or.inr h)
      omega
    subst hpe
    have hs1 := hpos s (by simp)
    rw [plN_snoc] at hpl
    rw [enN_snoc] at hen
    rw [cntN_snoc] at hcnt
    rw [canonB_snoc] at hcan
    simp only [Bool.and_eq_true, decide_eq_true_eq] at hcan
    simp only [List.dropLast_concat, List.getLast?_concat, Option.map_some, Option.toList_some]
    have het : (s.f1 + 1).toNat = s.f1.toNat + 1 := by omega
    refine ⟨?_, ?_, ?_, ?_, ?_, ?_, ?_, hlast', by simp, by simp at hlen ⊢; omega⟩
    · rw [plN_snoc]; simp only []; rw [het, run_snoc, ← List.append_assoc, hpl]
      congr 2; omega
    · rw [enN_snoc]; simp only; omega
    · rw [cntN_snoc]; simp only [List.length_append, List.length_cons, List.length_nil]; omega
    · rw [canonB_snoc, hcan.1]
      simp only [Bool.true_and, decide_eq_true_eq]
      exact ⟨by simp only; omega, hcan.2.2⟩
    · intro x hx
      rcases List.mem_append.1 hx with hx | hx
      · have := hpos x (by simp [hx]); simp; omega
      · simp at hx; subst hx; simp; omega
    · intro hl
      have hl' : (l.length : Int) ≤ 4096 := by simp at hl; omega
      have hr := hright hl'
      rw [spRight_snoc] at hr ⊢
      simp only [Bool.and_eq_true, decide_eq_true_eq] at hr ⊢
      obtain ⟨hr0, h1, h2, h3, h4, h5, h6, h7, h8⟩ := hr
      simp only [List.length_append, List.length_cons, List.length_nil] at hl
      exact ⟨hr0, by simp only; omega, by simp only; omega, h3, h4, h5, h6, by simp only; omega, by simp only; omega⟩
    · simp
theorem spInv_take (l : List Int) (hr : rises (-1048576) l = true) : SpInv l (spansOf l) (foldF l).2 := by
  have : ∀ i, i ≤ l.length → SpInv (l.take i) (foldF (l.take i)).1 (foldF (l.take i)).2 := by
    intro i
    induction i with
    | zero => intro _; simp only [List.take_zero]; exact ⟨rfl, rfl, rfl, rfl, by simp [foldF], fun _ => rfl, by simp [foldF], by simp, fun _ => rfl, by simp [foldF]⟩
    | succ i ih =>
      intro hi
      have hlt : i < l.length := by omega
      rw [take_at hlt]
      refine spInv_step (ih (by omega)) ?_
      by_cases hb : (lowB (-1048576) (l.take i) ≤ l[i] ∧ l[i] ≤ 1048576)
      · exact hb
      · rw [rises_take_false hlt hb] at hr; cases hr
  have := this l.length (Nat.le_refl _)
  rwa [List.take_length] at this
end Go.Proofs.Ytgkplhdcafbfbaa.P
namespace Go.Proofs.Ytgkplhdcafbfbaa.P
open Go.RowKit Go.Proofs.YtgkplhdcafbfbaaW.PrintWords Go.Proofs.YtgkplhdcafbfbaaW.PrintLast Go.Proofs.YtgkplhdcafbfbaaW.PrintMore
set_option linter.unusedVariables false
set_option linter.unusedSimpArgs false
def fromRes (l : List Int) : List Sp × Int := if rises (-1048576) l = true then (if (l.length : Int) > 4096 then ([], 12) else if ((spansOf l).length : Int) > 1024 then ([], 12) else (spansOf l, 0)) else ([], 11)
theorem rdSp_last (c : List Sp) (s : Sp) (h : c.length < 4611686018427387904) : wrap64 (((c ++ [s]).length : Int) - 1) = (c.length : Int) ∧ rd_T87 (c ++ [s]) (c.length : Int) = s := by
  refine ⟨by simp only [List.length_append, List.length_cons, List.length_nil]; rw [wrap_id (by omega) (by omega)]; omega, ?_⟩
  rw [rdSp_at (by simp)]; simp
theorem from_loop (l : List Int) (hw : ∀ x ∈ l, i64 x) (hm : l.length < 4398046511104) : ∀ (d k i : Nat), l.length - i = d → 2 * d < k → i ≤ l.length → rises (-1048576) (l.take i) = true →
    span_From.l0 k l (foldF (l.take i)).1 (foldF (l.take i)).2 l (l.length : Int) (i : Int) = some (fromRes l) := by
  intro d
  induction d with
  | zero =>
    intro k i hd hk hi hr
    obtain ⟨k, rfl⟩ : ∃ m, k = m + 1 := ⟨k - 1, by omega⟩
    have hil : i = l.length := by omega
    subst hil
    rw [List.take_length] at hr ⊢
    simp only [span_From.l0]
    rw [if_neg (by omega)]
    unfold fromRes
    rw [if_pos hr]
    show _ = some (if (l.length : Int) > 4096 then ([], 12) else if (((foldF l).1).length : Int) > 1024 then ([], 12) else ((foldF l).1, 0))
    split
    · rfl
    · split <;> rfl
  | succ d ih =>
    intro k i hd hk hi hr
    obtain ⟨k, rfl⟩ : ∃ m, k = m + 2 := ⟨k - 2, by omega⟩
    have hlt : i < l.length := by omega
    have hp := hw _ (List.getElem_mem hlt)
    have hinv : SpInv (l.take i) (foldF (l.take i)).1 (foldF (l.take i)).2 := spInv_take _ hr
    have hfail : ¬ (lowB (-1048576) (l.take i) ≤ l[i] ∧ l[i] ≤ 1048576) → some (([] : List Sp), (11 : Int)) = some (fromRes l) := by
      intro hb
      unfold fromRes
      rw [rises_take_false hlt hb]; rfl
    have hgo : (lowB (-1048576) (l.take i) ≤ l[i] ∧ l[i] ≤ 1048576) → span_From.l0 k l (foldF (l.take (i + 1))).1 (foldF (l.take (i + 1))).2 l (l.length : Int) ((i + 1 : Nat) : Int) = some (fromRes l) := by
      intro hb
      refine ih k (i + 1) (by omega) (by omega) (by omega) ?_
      rw [take_at hlt, rises_snoc, hr, decide_eq_true hb]; rfl
    have hsnoc : foldF (l.take (i + 1)) = stepF (foldF (l.take i)) l[i] := by rw [take_at hlt, foldF_snoc]
    rw [hsnoc] at hgo
    clear hsnoc
    have hlen : (l.take i).length = i := by simp; omega
    have hi0 : (l.take i).getLast? = none ↔ i = 0 := by rw [List.getLast?_eq_none_iff]; constructor
                                                        · intro h; rw [h] at hlen; simpa using hlen.symm
                                                        · intro h; subst h; rfl
    simp only [span_From.l0]
    rw [if_pos (by omega), if_pos (by omega), if_pos (by omega), rd_at hlt, in_eq]
    simp only [Option.bind_some]
    generalize l[i] = p at hp hfail hgo
    generalize foldF (l.take i) = g at hinv hgo
    obtain ⟨c, e⟩ := g
    obtain ⟨hpl, hen, hcnt, hcan, hpos, hright, hnil, hlast, hfirst, hcl⟩ := hinv
    simp only at hpl hen hcnt hcan hpos hright hnil hlast hfirst hgo hcl ⊢
    rw [hlen] at hcl
    have hbad : ∀ b, b = true → ¬ (lowB (-1048576) (l.take i) ≤ p ∧ p ≤ 1048576) → span_From.j1 (k + 1) l c e (i : Int) p l (l.length : Int) (i : Int) b = some (fromRes l) := by
      intro b hb h; subst hb
      simp only [span_From.j1]; simp only [if_true]; exact hfail h
    by_cases c1 : -1048576 ≤ p ∧ p ≤ 1048576
    rotate_left
    · rw [decide_eq_false c1, if_neg (by decide)]
      refine hbad true rfl (fun h => c1 ?_)
      cases hl : (l.take i).getLast? with
      | none => rw [lowB_none hl] at h; exact h
      | some q => have := hlast q hl; rw [lowB_some hl] at h; omega
    rw [decide_eq_true c1, if_pos rfl]
    -- the bound that counts
    have hbnd : (¬ (i > 0 ∧ p < e)) → (lowB (-1048576) (l.take i) ≤ p ∧ p ≤ 1048576) := by
      intro h
      cases hl : (l.take i).getLast? with
      | none => rw [lowB_none hl]; exact c1
      | some q =>
        have := hlast q hl
        have : i ≠ 0 := fun h0 => by rw [hi0.2 h0] at hl; cases hl
        rw [lowB_some hl]; omega
    have hne : (i > 0 ∧ p < e) → ¬ (lowB (-1048576) (l.take i) ≤ p ∧ p ≤ 1048576) := by
      rintro ⟨h0, h1⟩ h
      cases hl : (l.take i).getLast? with
      | none => exact absurd (hi0.1 hl) (by omega)
      | some q => have := hlast q hl; rw [lowB_some hl] at h; have := h.1; omega
    have hcn : c = [] ↔ i = 0 := hnil.trans (List.getLast?_eq_none_iff.symm.trans hi0)
    have heb : -1048576 ≤ e ∧ e ≤ 1048577 := by
      cases hl : (l.take i).getLast? with
      | none => have := hfirst (List.getLast?_eq_none_iff.1 hl); omega
      | some q => have := hlast q hl; omega
    have hgood : ¬ (i > 0 ∧ p < e) → span_From.j1 (k + 1) l c e (i : Int) p l (l.length : Int) (i : Int) false = some (fromRes l) := by
      intro hn
      have hgo := hgo (hbnd hn)
      unfold stepF at hgo
      simp only at hgo
      have happ : (some (c ++ [(⟨wrap64 (p - e), 0⟩ : Sp)] : List Sp)).bind (fun y => (if 0 ≤ (wrap64 ((y.length : Int) - 1)) then (if (wrap64 ((y.length : Int) - 1)) < (y.length : Int) then (span_From.l0 k l (y.set ((wrap64 ((y.length : Int) - 1)) : Int).toNat (⟨(rd_T87 y (wrap64 ((y.length : Int) - 1))).f0, wrap64 (((rd_T87 y (wrap64 ((y.length : Int) - 1))).f1) + 1)⟩ : Sp)) (wrap64 (p + 1)) l (l.length : Int) (wrap64 ((i : Int) + 1))) else (none)) else (none))) = span_From.l0 k l (c ++ [⟨p - e, 1⟩]) (p + 1) l (l.length : Int) ((i + 1 : Nat) : Int) := by
        simp only [Option.bind_some]
        obtain ⟨e1, e2⟩ := rdSp_last c ⟨wrap64 (p - e), 0⟩ (by omega)
        rw [e1, e2, if_pos (by omega), if_pos (by simp only [List.length_append, List.length_cons, List.length_nil]; omega)]
        simp only []
        rw [wrap_id (x := p - e) (by omega) (by omega), wrap_id (x := 0 + 1) (by omega) (by omega), wrap_id (x := p + 1) (by omega) (by omega), wrap_succ (by omega)]
        congr 1
        simp
      simp only [span_From.j1]
      rw [if_neg (by decide)]
      by_cases h0 : i = 0
      · rw [if_pos (by omega), if_pos (by omega), happ]
        rw [if_pos (Or.inl (hcn.2 h0))] at hgo
        exact hgo
      · rw [if_neg (by omega)]
        by_cases h1 : p > e
        · rw [if_pos h1, if_pos (by omega), happ]
          rw [if_pos (Or.inr h1)] at hgo
          exact hgo
        · rw [if_neg h1]
          rw [if_neg (by rintro (h | h); exact h0 (hcn.1 h); exact h1 h)] at hgo
          have hne : c ≠ [] := fun h => h0 (hcn.1 h)
          obtain ⟨c', s, rfl⟩ : ∃ c' s, c = c' ++ [s] := ⟨c.dropLast, c.getLast hne, (List.dropLast_concat_getLast hne).symm⟩
          have hs1 := hpos s (by simp)
          rw [hlen] at hs1
          simp only [List.length_append, List.length_cons, List.length_nil] at hcl
          obtain ⟨e1, e2⟩ := rdSp_last c' s (by omega)
          rw [e1, e2, if_pos (by omega), if_pos (by simp only [List.length_append, List.length_cons, List.length_nil]; omega)]
          simp only [List.dropLast_concat, List.getLast?_concat, Option.map_some, Option.toList_some] at hgo
          rw [wrap_id (x := s.f1 + 1) (by omega) (by omega), wrap_id (x := p + 1) (by omega) (by omega), wrap_succ (by omega), ← hgo]
          congr 1
          simp
    by_cases c2 : (i : Int) > 0
    · rw [if_pos c2]
      by_cases c3 : p < e
      · exact hbad _ (decide_eq_true c3) (hne ⟨by omega, c3⟩)
      · rw [decide_eq_false c3]; exact hgood (fun h => c3 h.2)
    · rw [if_neg c2]; exact hgood (fun h => c2 (by omega))
theorem from_eq (l : List Int) (hw : ∀ x ∈ l, i64 x) (hm : l.length < 4398046511104) (k : Nat) (hk : 2 * l.length < k) : span_From.f k l = some (fromRes l) := by
  unfold span_From.f
  exact from_loop l hw hm l.length k 0 (by omega) hk (by omega) rfl
def placesRes (l : List Sp) : List Int × Int := if spCheck l = 0 then (plN 0 l, 0) else ([], spCheck l)
theorem spCheck_zero {l : List Sp} (h : spCheck l = 0) : l.length ≤ 1024 ∧ spRight true 0 0 l = true := by
  unfold spCheck at h
  split at h
  · cases h
  · split at h
    · exact ⟨by omega, by assumption⟩
    · cases h
theorem places_len {l : List Sp} (h : spCheck l = 0) : (plN 0 l).length ≤ 4096 := by
  have hr := (spCheck_zero h).2
  have h1 := plN_length l 0 (fun s hs => (spRight_pos l _ _ _ hr s hs).1)
  have h2 := cntN_le l _ _ _ hr (by omega)
  omega
theorem places_eq (l : List Sp) (hw : wfSps l) (k : Nat) (hk : 2048 < k) : span_Places.f k l = some (placesRes l) := by
  unfold span_Places.f placesRes
  rw [check_eq l hw k hk]
  simp only [Option.bind_some]
  by_cases h : spCheck l = 0
  · have h0 := spCheck_zero h
    rw [if_pos h, if_pos h, placesAt_plN l _ _ _ h0.2, if_pos ⟨by omega, by have := places_len h; omega⟩]
  · rw [if_neg h, if_neg h]
theorem rises_of_right {l : List Sp} (h : spCheck l = 0) : rises (-1048576) (plN 0 l) = true := by
  have hr := (spCheck_zero h).2
  have hrun : ∀ (m : Nat) (b e : Int), e ≤ b → (m = 0 ∨ b + m - 1 ≤ 1048576) → ∀ r, rises (b + m) r = true ∨ (m = 0 ∧ rises e r = true) → rises e (run b m ++ r) = true := by
    intro m
    induction m with
    | zero =>
      intro b e h1 h2 r h3
      rcases h3 with h3 | h3
      · simp only [run, List.nil_append]
        have hmono : ∀ (r : List Int) (e e' : Int), e ≤ e' → rises e' r = true → rises e r = true := by
          intro r
          cases r with
          | nil => intros; rfl
          | cons x r => intro e e' he h; simp only [rises, Bool.and_eq_true, decide_eq_true_eq] at h ⊢; exact ⟨⟨by omega, h.1.2⟩, h.2⟩
        exact hmono r e _ (by omega) h3
      · exact h3.2
    | succ m ih =>
      intro b e h1 h2 r h3
      simp only [run, List.cons_append, rises, Bool.and_eq_true, decide_eq_true_eq]
      refine ⟨⟨h1, by omega⟩, ih (b + 1) (b + 1) (Int.le_refl _) (by omega) r (Or.inl ?_)⟩
      rcases h3 with h3 | h3
      · rw [show b + 1 + (m : Int) = b + ((m + 1 : Nat) : Int) by omega]; exact h3
      · omega
  have : ∀ (l : List Sp) (f : Bool) (a n e : Int), spRight f a n l = true → (if f = true then a = 0 ∧ e = -1048576 else e ≤ a) → rises e (plN a l) = true := by
    intro l
    induction l with
    | nil => intros; rfl
    | cons s l ih =>
      intro f a n e h he
      simp only [spRight, Bool.and_eq_true, decide_eq_true_eq] at h
      obtain ⟨h1, h2, h3, h4, h5, h6, h7, h8⟩ := h.1
      have ee : ((s.f1.toNat : Nat) : Int) = s.f1 := by omega
      have hle : e ≤ a + s.f0 := by cases f <;> simp at he h4 <;> omega
      simp only [plN]
      refine hrun s.f1.toNat (a + s.f0) e hle (by omega) _ ?_
      rw [ee]
      exact Or.inl (ih false _ _ _ h.2 (by simp))
  exact this l true 0 0 _ hr (by simp)
theorem rises_i64 {l : List Int} (h : rises (-1048576) l = true) : ∀ x ∈ l, -1048576 ≤ x ∧ x ≤ 1048576 := by
  have : ∀ (l : List Int) (e : Int), -1048576 ≤ e → rises e l = true → ∀ x ∈ l, -1048576 ≤ x ∧ x ≤ 1048576 := by
    intro l
    induction l with
    | nil => intro e _ _ x hx; cases hx
    | cons y l ih =>
      intro e he h x hx
      simp only [rises, Bool.and_eq_true, decide_eq_true_eq] at h
      rcases List.mem_cons.1 hx with rfl | hx
      · omega
      · exact ih (y + 1) (by omega) h.2 x hx
  exact this l _ (Int.le_refl _) h
end Go.Proofs.Ytgkplhdcafbfbaa.P
