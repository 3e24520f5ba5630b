/- ScaleInts: the part that this text bears of the proof that the statement answers true for every input. No condition. -/
import Derived.Test.YtooiccpmngmapaaProg
import Derived.Below
import Derived.Deep.Draws
import Derived.Deep.AppendLies
import Derived.Maps.AppendAt
import Derived.OwnWalk
import Derived.Laws.BytesArg
import Derived.Laws.MakeOwn
import Derived.Laws.OwnMore
import Derived.Deep.OwnRows
import Derived.Tactics
import Derived.Lib.ConvBytes
import Derived.Laws.Slices
import Derived.WalkKit
import Derived.KernelRfl
import Derived.RowKit3
import Derived.Deep.LoopGhost
import Derived.Deep.QuietTactic
import Derived.BigQuiet
import Derived.WideLaws
import Derived.Deep.DeepCutAuto
import Derived.Deep.CutBlock
import Derived.Deep.RegionHeld3
import Derived.Laws.Rows
import Derived.Lib.AppendStr
import Derived.ArgAppend
import Derived.Laws.IdiomCopy
import Derived.OrdersHeld
import Derived.Laws.BitsLemmas
import Derived.RowKit
import Derived.Deep.Slices
import Derived.ChangeArms
import Derived.Shelf.Abstract
import Derived.WalkSpells
import Derived.Laws.StructEq
import Derived.Test.YtooiccpmngmapaaQScaleIntsWWords
import Derived.Test.YtooiccpmngmapaaQScaleIntsWLast
import Derived.Test.YtooiccpmngmapaaQScaleIntsWTab
import Derived.Test.YtooiccpmngmapaaQScaleIntsWFour
import Derived.Test.YtooiccpmngmapaaQScaleIntsWQPut
import Derived.Test.YtooiccpmngmapaaQScaleIntsWApart
import Derived.Test.YtooiccpmngmapaaQScaleIntsWArr
import Derived.Test.YtooiccpmngmapaaQScaleIntsWZeros
import Derived.Test.YtooiccpmngmapaaQScaleIntsWFoot
import Derived.Test.YtooiccpmngmapaaQScaleIntsWKept
import Derived.Test.YtooiccpmngmapaaQScaleIntsWShare
import Derived.Test.YtooiccpmngmapaaQScaleIntsWN
import Derived.Test.YtooiccpmngmapaaQScaleIntsWFootNe
import Derived.Test.YtooiccpmngmapaaQScaleIntsWAt
import Derived.Test.YtooiccpmngmapaaQScaleIntsWEqStruct
import Derived.Test.YtooiccpmngmapaaQScaleIntsWRepsOne
import Derived.Test.YtooiccpmngmapaaQScaleIntsWInv
import Derived.Test.YtooiccpmngmapaaQScaleIntsWInvWords
import Derived.Test.YtooiccpmngmapaaQScaleIntsWGuard
import Derived.Test.YtooiccpmngmapaaQScaleIntsWNEv
import Derived.Test.YtooiccpmngmapaaQScaleIntsWMore
import Derived.Test.YtooiccpmngmapaaRows
set_option linter.unusedVariables false
set_option linter.unusedSimpArgs false
namespace Go.Proofs.Ytooiccpmngmapaa.P
open Go.RowKit Go.Proofs.YtooiccpmngmapaaW.PrintWords Go.Proofs.YtooiccpmngmapaaW.PrintLast Go.Proofs.YtooiccpmngmapaaW.PrintMore
attribute [local go_sem] jh ji jR jS iI iJ jk jl
def ZE : Option Int → Value
 | none => .nilIface
 | some c => .iface 0 (.int .i64 c)
theorem aT : ZE none = .nilIface := rfl
theorem aU (c : Int) : ZE (some c) = .iface 0 (.int .i64 c) := rfl
theorem DK : (Try.prog.info? 2).map (fun i => (i.zero, i.size, i.bytes)) = some (some (.int .i64 0), 1, 8) := by kernel_rfl
theorem info3 : (Try.prog.info? 3).map (fun i => (i.zero, i.size, i.bytes)) = some (some (.int .i64 0), 1, 8) := by kernel_rfl
theorem info25 : (Try.prog.info? 25).map (fun i => (i.zero, i.size, i.bytes)) = some (some (.int .u64 0), 1, 8) := by kernel_rfl
theorem Js : (Try.prog.info? 113).map (fun i => (i.zero, i.size, i.bytes)) = some (some (.agg #[(.int .i64 0), (.int .i64 0)]), 2, 16) := by kernel_rfl
theorem Jt : (Try.prog.info? 127).map (fun i => (i.zero, i.size, i.bytes)) = some (some (.agg #[(.int .i64 0), (.int .i64 0)]), 2, 16) := by kernel_rfl
theorem Bo : (Try.prog.info? 173).map (fun i => (i.zero, i.size, i.bytes)) = some (some (.agg #[(.int .i64 0), (.int .i64 0)]), 2, 16) := by kernel_rfl
theorem Bq : (Try.prog.info? 192).map (fun i => (i.zero, i.size, i.bytes)) = some (some (.agg #[(.int .i64 0), (.int .u64 0)]), 2, 16) := by kernel_rfl
structure dP where
 f0 : Int
 f1 : Int
def KU : dP := ⟨(0 : Int), (0 : Int)⟩
def jE : Kd dP := Kd.Zx (Kd.pair (Kd.int .i64) (Kd.int .i64)) (fun x : dP => (x.f0, x.f1))
theorem Iz {w : World} {x : dP} {cs : List Value} (h : jE.K w x cs) : cs = [.int .i64 x.f0, .int .i64 x.f1] := by
 obtain ⟨_, _, rfl, rfl, rfl⟩ := h
 exact rfl
theorem ru {w : World} {base : Nat} {ok : Nat → Prop} {x : dP} {cs : List Value} (h : jE.M w base ok x cs) : cs = [.int .i64 x.f0, .int .i64 x.f1] := by
 obtain ⟨_, _, rfl, rfl, rfl⟩ := h
 exact rfl
theorem Vf (w : World) (x : dP)  : jE.K w x [.int .i64 x.f0, .int .i64 x.f1] := ⟨[.int .i64 x.f0], [.int .i64 x.f1], rfl, rfl, rfl⟩
theorem um (w : World) (base : Nat) (ok : Nat → Prop) (x : dP)  : jE.M w base ok x [.int .i64 x.f0, .int .i64 x.f1] := ⟨[.int .i64 x.f0], [.int .i64 x.f1], rfl, rfl, rfl⟩
def bf (xs : List dP) (i : Int) : dP := xs.getD i.toNat KU
theorem pU {w : World} {A : Option Addr} {n : Nat} {xs : List dP} (h : Kd.C jE w A n xs) (i : Int) (h0 : 0 ≤ i) (h1 : i < n) : ∃ ad , A = some ad ∧ w.cell? (ad.add (i.toNat * 2)) = some (.int .i64 (bf xs i).f0) ∧ w.cell? ⟨(ad.add (i.toNat * 2)).block, (ad.add (i.toNat * 2)).off + 1, none⟩ = some (.int .i64 (bf xs i).f1) := by
 obtain ⟨ad, c, e, _, hK, hc0⟩ := Kd.O7 h KU i h0 h1
 have hc : ∀ j u, c[j]? = some u → w.cell? (ad.add (i.toNat * 2 + j)) = some u := hc0
 obtain rfl := Iz hK
 exact ⟨ad, e, hc 0 _ rfl, by rw [← zD _ _ 1 (by omega)]; exact hc 1 _ rfl⟩
structure WU where
 f0 : Int
 f1 : Int
 f2 : Int
 f3 : Int
 f4 : Int
 f5 : (List dP)
 f6 : (List dP)
 f7 : (List Int)
 f8 : (List Int)
def k29 : Kd WU := Kd.Zx (Kd.pair (Kd.int .i64) (Kd.pair (Kd.int .u64) (Kd.pair (Kd.int .u64) (Kd.pair (Kd.int .u64) (Kd.pair (Kd.int .u64) (Kd.pair (Kd.slice 113 jE) (Kd.pair (Kd.slice 113 jE) (Kd.pair (Kd.slice 2 (Kd.int .i64)) (Kd.slice 2 (Kd.int .i64)))))))))) (fun x : WU => (x.f0, x.f1, x.f2, x.f3, x.f4, x.f5, x.f6, x.f7, x.f8))
theorem Sv {w : World} {x : WU} {cs : List Value} (h : k29.K w x cs) : ∃ A5 c5 A6 c6 A7 c7 A8 c8, cs = [.int .i64 x.f0, .int .u64 x.f1, .int .u64 x.f2, .int .u64 x.f3, .int .u64 x.f4, .slice A5 x.f5.length c5, .slice A6 x.f6.length c6, .slice A7 x.f7.length c7, .slice A8 x.f8.length c8] ∧ x.f5.length ≤ c5 ∧ jE.C w A5 x.f5.length x.f5 ∧ x.f6.length ≤ c6 ∧ jE.C w A6 x.f6.length x.f6 ∧ x.f7.length ≤ c7 ∧ (Kd.int .i64).C w A7 x.f7.length x.f7 ∧ x.f8.length ≤ c8 ∧ (Kd.int .i64).C w A8 x.f8.length x.f8 := by
 obtain ⟨_, _, rfl, rfl, ⟨_, _, rfl, rfl, ⟨_, _, rfl, rfl, ⟨_, _, rfl, rfl, ⟨_, _, rfl, rfl, ⟨_, _, rfl, ⟨A5, c5, rfl, l5, g5⟩, ⟨_, _, rfl, ⟨A6, c6, rfl, l6, g6⟩, ⟨_, _, rfl, ⟨A7, c7, rfl, l7, g7⟩, ⟨A8, c8, rfl, l8, g8⟩⟩⟩⟩⟩⟩⟩⟩⟩ := h
 exact ⟨A5, c5, A6, c6, A7, c7, A8, c8, rfl, l5, g5, l6, g6, l7, g7, l8, g8⟩
theorem XI (w : World) (x : WU) {A5 : Option Addr} {c5 : Nat} (l5 : x.f5.length ≤ c5) (g5 : jE.C w A5 x.f5.length x.f5) {A6 : Option Addr} {c6 : Nat} (l6 : x.f6.length ≤ c6) (g6 : jE.C w A6 x.f6.length x.f6) {A7 : Option Addr} {c7 : Nat} (l7 : x.f7.length ≤ c7) (g7 : (Kd.int .i64).C w A7 x.f7.length x.f7) {A8 : Option Addr} {c8 : Nat} (l8 : x.f8.length ≤ c8) (g8 : (Kd.int .i64).C w A8 x.f8.length x.f8) : k29.K w x [.int .i64 x.f0, .int .u64 x.f1, .int .u64 x.f2, .int .u64 x.f3, .int .u64 x.f4, .slice A5 x.f5.length c5, .slice A6 x.f6.length c6, .slice A7 x.f7.length c7, .slice A8 x.f8.length c8] := ⟨[.int .i64 x.f0], [.int .u64 x.f1, .int .u64 x.f2, .int .u64 x.f3, .int .u64 x.f4, .slice A5 x.f5.length c5, .slice A6 x.f6.length c6, .slice A7 x.f7.length c7, .slice A8 x.f8.length c8], rfl, rfl, ⟨[.int .u64 x.f1], [.int .u64 x.f2, .int .u64 x.f3, .int .u64 x.f4, .slice A5 x.f5.length c5, .slice A6 x.f6.length c6, .slice A7 x.f7.length c7, .slice A8 x.f8.length c8], rfl, rfl, ⟨[.int .u64 x.f2], [.int .u64 x.f3, .int .u64 x.f4, .slice A5 x.f5.length c5, .slice A6 x.f6.length c6, .slice A7 x.f7.length c7, .slice A8 x.f8.length c8], rfl, rfl, ⟨[.int .u64 x.f3], [.int .u64 x.f4, .slice A5 x.f5.length c5, .slice A6 x.f6.length c6, .slice A7 x.f7.length c7, .slice A8 x.f8.length c8], rfl, rfl, ⟨[.int .u64 x.f4], [.slice A5 x.f5.length c5, .slice A6 x.f6.length c6, .slice A7 x.f7.length c7, .slice A8 x.f8.length c8], rfl, rfl, ⟨[.slice A5 x.f5.length c5], [.slice A6 x.f6.length c6, .slice A7 x.f7.length c7, .slice A8 x.f8.length c8], rfl, ⟨A5, c5, rfl, l5, g5⟩, ⟨[.slice A6 x.f6.length c6], [.slice A7 x.f7.length c7, .slice A8 x.f8.length c8], rfl, ⟨A6, c6, rfl, l6, g6⟩, ⟨[.slice A7 x.f7.length c7], [.slice A8 x.f8.length c8], rfl, ⟨A7, c7, rfl, l7, g7⟩, ⟨A8, c8, rfl, l8, g8⟩⟩⟩⟩⟩⟩⟩⟩⟩
structure gy where
 f0 : Int
 f1 : Int
def z173 : gy := ⟨(0 : Int), (0 : Int)⟩
def jI : Kd gy := Kd.Zx (Kd.pair (Kd.int .i64) (Kd.int .i64)) (fun x : gy => (x.f0, x.f1))
theorem IB {w : World} {x : gy} {cs : List Value} (h : jI.K w x cs) : cs = [.int .i64 x.f0, .int .i64 x.f1] := by
 obtain ⟨_, _, rfl, rfl, rfl⟩ := h
 exact rfl
theorem lV {w : World} {base : Nat} {ok : Nat → Prop} {x : gy} {cs : List Value} (h : jI.M w base ok x cs) : cs = [.int .i64 x.f0, .int .i64 x.f1] := by
 obtain ⟨_, _, rfl, rfl, rfl⟩ := h
 exact rfl
theorem mD (w : World) (base : Nat) (ok : Nat → Prop) (x : gy)  : jI.M w base ok x [.int .i64 x.f0, .int .i64 x.f1] := ⟨[.int .i64 x.f0], [.int .i64 x.f1], rfl, rfl, rfl⟩
def aZ (xs : List gy) (i : Int) : gy := xs.getD i.toNat z173
theorem qA {w : World} {A : Option Addr} {n : Nat} {xs : List gy} (h : Kd.C jI w A n xs) (i : Int) (h0 : 0 ≤ i) (h1 : i < n) : ∃ ad , A = some ad ∧ w.cell? (ad.add (i.toNat * 2)) = some (.int .i64 (aZ xs i).f0) ∧ w.cell? ⟨(ad.add (i.toNat * 2)).block, (ad.add (i.toNat * 2)).off + 1, none⟩ = some (.int .i64 (aZ xs i).f1) := by
 obtain ⟨ad, c, e, _, hK, hc0⟩ := Kd.O7 h z173 i h0 h1
 have hc : ∀ j u, c[j]? = some u → w.cell? (ad.add (i.toNat * 2 + j)) = some u := hc0
 obtain rfl := IB hK
 exact ⟨ad, e, hc 0 _ rfl, by rw [← zD _ _ 1 (by omega)]; exact hc 1 _ rfl⟩
structure fD where
 f0 : Int
 f1 : Int
def z127 : fD := ⟨(0 : Int), (0 : Int)⟩
def nD : Kd fD := Kd.Zx (Kd.pair (Kd.int .i64) (Kd.int .i64)) (fun x : fD => (x.f0, x.f1))
theorem Qw {w : World} {x : fD} {cs : List Value} (h : nD.K w x cs) : cs = [.int .i64 x.f0, .int .i64 x.f1] := by
 obtain ⟨_, _, rfl, rfl, rfl⟩ := h
 exact rfl
theorem rC {w : World} {base : Nat} {ok : Nat → Prop} {x : fD} {cs : List Value} (h : nD.M w base ok x cs) : cs = [.int .i64 x.f0, .int .i64 x.f1] := by
 obtain ⟨_, _, rfl, rfl, rfl⟩ := h
 exact rfl
theorem wG (w : World) (base : Nat) (ok : Nat → Prop) (x : fD)  : nD.M w base ok x [.int .i64 x.f0, .int .i64 x.f1] := ⟨[.int .i64 x.f0], [.int .i64 x.f1], rfl, rfl, rfl⟩
def aY (xs : List fD) (i : Int) : fD := xs.getD i.toNat z127
theorem qB {w : World} {A : Option Addr} {n : Nat} {xs : List fD} (h : Kd.C nD w A n xs) (i : Int) (h0 : 0 ≤ i) (h1 : i < n) : ∃ ad , A = some ad ∧ w.cell? (ad.add (i.toNat * 2)) = some (.int .i64 (aY xs i).f0) ∧ w.cell? ⟨(ad.add (i.toNat * 2)).block, (ad.add (i.toNat * 2)).off + 1, none⟩ = some (.int .i64 (aY xs i).f1) := by
 obtain ⟨ad, c, e, _, hK, hc0⟩ := Kd.O7 h z127 i h0 h1
 have hc : ∀ j u, c[j]? = some u → w.cell? (ad.add (i.toNat * 2 + j)) = some u := hc0
 obtain rfl := Qw hK
 exact ⟨ad, e, hc 0 _ rfl, by rw [← zD _ _ 1 (by omega)]; exact hc 1 _ rfl⟩
structure gW where
 f0 : Int
 f1 : Int
def Ei : gW := ⟨(0 : Int), (0 : Int)⟩
def kV : Kd gW := Kd.Zx (Kd.pair (Kd.int .i64) (Kd.int .u64)) (fun x : gW => (x.f0, x.f1))
theorem IC {w : World} {x : gW} {cs : List Value} (h : kV.K w x cs) : cs = [.int .i64 x.f0, .int .u64 x.f1] := by
 obtain ⟨_, _, rfl, rfl, rfl⟩ := h
 exact rfl
theorem lW {w : World} {base : Nat} {ok : Nat → Prop} {x : gW} {cs : List Value} (h : kV.M w base ok x cs) : cs = [.int .i64 x.f0, .int .u64 x.f1] := by
 obtain ⟨_, _, rfl, rfl, rfl⟩ := h
 exact rfl
theorem mF (w : World) (base : Nat) (ok : Nat → Prop) (x : gW)  : kV.M w base ok x [.int .i64 x.f0, .int .u64 x.f1] := ⟨[.int .i64 x.f0], [.int .u64 x.f1], rfl, rfl, rfl⟩
def bg (xs : List gW) (i : Int) : gW := xs.getD i.toNat Ei
theorem wZ {w : World} {A : Option Addr} {n : Nat} {xs : List gW} (h : Kd.C kV w A n xs) (i : Int) (h0 : 0 ≤ i) (h1 : i < n) : ∃ ad , A = some ad ∧ w.cell? (ad.add (i.toNat * 2)) = some (.int .i64 (bg xs i).f0) ∧ w.cell? ⟨(ad.add (i.toNat * 2)).block, (ad.add (i.toNat * 2)).off + 1, none⟩ = some (.int .u64 (bg xs i).f1) := by
 obtain ⟨ad, c, e, _, hK, hc0⟩ := Kd.O7 h Ei i h0 h1
 have hc : ∀ j u, c[j]? = some u → w.cell? (ad.add (i.toNat * 2 + j)) = some u := hc0
 obtain rfl := IC hK
 exact ⟨ad, e, hc 0 _ rfl, by rw [← zD _ _ 1 (by omega)]; exact hc 1 _ rfl⟩
end Go.Proofs.Ytooiccpmngmapaa.P
namespace Go.Proofs.Ytooiccpmngmapaa.P
open Go.RowKit Go.Proofs.YtooiccpmngmapaaW.PrintWords Go.Proofs.YtooiccpmngmapaaW.PrintLast Go.Proofs.YtooiccpmngmapaaW.PrintMore
attribute [local go_sem] jh ji jR jS iI iJ jk jl
structure S55 where
 f0 : Int
 f1 : Int
 f2 : Int
 f3 : Int
 f4 : Int
 f5 : (List dP)
 f6 : (List dP)
 f7 : (List Int)
 f8 : (List Int)
end Go.Proofs.Ytooiccpmngmapaa.P
namespace Go.Proofs.Ytooiccpmngmapaa.P
open Go.RowKit Go.Proofs.YtooiccpmngmapaaW.PrintWords Go.Proofs.YtooiccpmngmapaaW.PrintLast Go.Proofs.YtooiccpmngmapaaW.PrintMore
attribute [local go_sem] jh ji jR jS iI iJ jk jl
def Nu (k : IntKind) (n : Int) : Prop := (Lit.int k n).wf = true
theorem Vg {n : Int} (h : Nu .i64 n) : -9223372036854775808 ≤ n ∧ n ≤ 9223372036854775807 := by
 have h2 : (Lit.int .i64 n).wf = true := h
 have e : IntKind.i64.min = -9223372036854775808 := by decide
 simp [Lit.wf, e] at h2
 exact h2
theorem Vh {n : Int} (h : Nu .u64 n) : 0 ≤ n ∧ n ≤ 18446744073709551615 := by
 have h2 : (Lit.int .u64 n).wf = true := h
 have e : IntKind.u64.min = 0 := by decide
 simp [Lit.wf, e] at h2
 exact h2
def Opens {α : Type} (P : Program) (t : TypeId) (d : Kd α) (wf : α → Prop) : Prop := ∀ {H : Type} (enc : TypeId × Value → H) (w : World) (base : Nat) (sp : Nat → Bool) (held : Bool) (fuel : Nat) (cs : List Value) (x : DataW H × List MemPlace),
 DataW.trod enc P w base sp held fuel t cs = some x → ∃ y, d.K w y cs ∧ wf y
theorem oI {P : Program} {t : TypeId} {k : IntKind} (ht : P.underlying t = some (.int k)) : Opens P t (Kd.int k) (Nu k) := by
 intro H enc w base sp held fuel cs x h
 obtain ⟨n, rfl, _, hw⟩ := DataW.trod_int ht h
 exact ⟨n, rfl, hw⟩
theorem uY {α : Type} {P : Program} {t e : TypeId} {d : Kd α} {wf : α → Prop} (ht : P.underlying t = some (.slice e)) (hs : P.cellsOf e = d.sz) (ho : Opens P e d wf) : Opens P t (Kd.slice e d) (fun xs => ∀ x ∈ xs, wf x) := by
 intro H enc w base sp held fuel cs x h
 rcases Deep.open_slice ht h with ⟨rfl, _⟩ | ⟨a, len, cap, m, n, D, Pl, rfl, hb, hl, hm, hmm, _, hx⟩
 ·exact ⟨[], ⟨none, 0, rfl, Nat.le_refl _, Kd.RJ _ _⟩, fun x hx => by cases hx⟩
 ·have hlm : len ≤ m := by rw [hmm]; split <;> omega
  unfold maxLen at hm
  rw [hs] at hx
  have each : ∀ i, i < len → ∃ y : α, (∃ cs', cs'.length = d.sz ∧ d.K w y cs' ∧ ∀ j u, cs'[j]? = some u → w.cell? (a.add (i * d.sz + j)) = some u) ∧ wf y := by
   intro i hi
   obtain ⟨cs', h1, h2⟩ := hx i (by omega)
   obtain ⟨y, hk, hw⟩ := ho _ _ _ _ _ _ _ _ h2
   obtain ⟨_, hlen, hcell⟩ := World.cells?_some h1
   refine ⟨y, ⟨cs', hlen, hk, fun j u hu => ?_⟩, hw⟩
   have hj : j < cs'.length := (List.getElem?_eq_some_iff.1 hu).1
   have := hcell j (by omega)
   rw [Deep.add_add] at this
   rw [this]; exact hu
  by_cases h0 : len = 0
  ·subst h0
   exact ⟨[], ⟨some a, cap, rfl, Nat.zero_le _, ⟨rfl, by simp, fun h => absurd h (Nat.lt_irrefl 0)⟩⟩, fun x hx => by cases hx⟩
  ·obtain ⟨y0, _⟩ := each 0 (by omega)
   have : Inhabited α := ⟨y0⟩
   obtain ⟨f, hf⟩ := Deep.choose_lt each
   refine ⟨(List.range len).map f, ⟨some a, cap, by simp, by simpa using hl, ⟨by simp, by simp; omega, fun _ => ⟨a, rfl, fun j p hj => ?_⟩⟩⟩, fun x hx => ?_⟩
   ·rw [List.getElem?_map] at hj
    obtain ⟨i, hi, rfl⟩ := Option.map_eq_some_iff.1 hj
    obtain ⟨hlt, rfl⟩ := List.getElem?_eq_some_iff.1 hi
    simp only [List.length_range] at hlt
    simp only [List.getElem_range]
    obtain ⟨cs', h1, h2, h3⟩ := (hf j hlt).1
    exact ⟨cs', h1, h2, h3⟩
   ·obtain ⟨i, hi, rfl⟩ := List.mem_map.1 hx
    exact (hf i (List.mem_range.1 hi)).2
def Pj (x : dP) : Prop := (Nu .i64) x.f0 ∧ (Nu .i64) x.f1
set_option maxRecDepth 100000 in
theorem KW : Opens Try.prog 113 jE Pj := by
 intro H enc w base sp held fuel cs x h
 obtain ⟨xs, n, rfl, _, hl, hxl, hf⟩ := DataW.trod_struct Try.underlying113 h
 have hc : cs.length = 2 := hl.trans (by kernel_rfl)
 match cs, hc with
 | [c0, c1], _ =>
  have g0 : DataW.trod enc Try.prog w base sp held n 3 ((([c0, c1] : List Value).drop 0).take (Try.prog.cellsOf 3)) = xs[0]? := hf 0 _ rfl
  rw [show Try.prog.cellsOf 3 = 1 from by kernel_rfl] at g0
  have e0 : xs[0]? = some (xs[0]'(by rw [hxl]; decide)) := List.getElem?_eq_getElem _
  have g1 : DataW.trod enc Try.prog w base sp held n 3 ((([c0, c1] : List Value).drop 1).take (Try.prog.cellsOf 3)) = xs[1]? := hf 1 _ rfl
  rw [show Try.prog.cellsOf 3 = 1 from by kernel_rfl] at g1
  have e1 : xs[1]? = some (xs[1]'(by rw [hxl]; decide)) := List.getElem?_eq_getElem _
  obtain ⟨y0, hk0, hw0⟩ := (oI Try.underlying3) enc w base sp held n [c0] _ (g0.trans e0)
  injection (show [c0] = [Value.int .i64 y0] from hk0) with he0 _
  subst he0
  obtain ⟨y1, hk1, hw1⟩ := (oI Try.underlying3) enc w base sp held n [c1] _ (g1.trans e1)
  injection (show [c1] = [Value.int .i64 y1] from hk1) with he1 _
  subst he1
  exact ⟨⟨y0, y1⟩, Vf w ⟨y0, y1⟩ , ⟨hw0, hw1⟩⟩
def XJ (x : WU) : Prop := (Nu .i64) x.f0 ∧ (Nu .u64) x.f1 ∧ (Nu .u64) x.f2 ∧ (Nu .u64) x.f3 ∧ (Nu .u64) x.f4 ∧ (fun xs_ => ∀ x_ ∈ xs_, Pj x_) x.f5 ∧ (fun xs_ => ∀ x_ ∈ xs_, Pj x_) x.f6 ∧ (fun xs_ => ∀ x_ ∈ xs_, (Nu .i64) x_) x.f7 ∧ (fun xs_ => ∀ x_ ∈ xs_, (Nu .i64) x_) x.f8
set_option maxRecDepth 100000 in
theorem Vj : Opens Try.prog 29 k29 XJ := by
 intro H enc w base sp held fuel cs x h
 obtain ⟨xs, n, rfl, _, hl, hxl, hf⟩ := DataW.trod_struct Try.underlying29 h
 have hc : cs.length = 9 := hl.trans (by kernel_rfl)
 match cs, hc with
 | [c0, c1, c2, c3, c4, c5, c6, c7, c8], _ =>
  have g0 : DataW.trod enc Try.prog w base sp held n 3 ((([c0, c1, c2, c3, c4, c5, c6, c7, c8] : List Value).drop 0).take (Try.prog.cellsOf 3)) = xs[0]? := hf 0 _ rfl
  rw [show Try.prog.cellsOf 3 = 1 from by kernel_rfl] at g0
  have e0 : xs[0]? = some (xs[0]'(by rw [hxl]; decide)) := List.getElem?_eq_getElem _
  have g1 : DataW.trod enc Try.prog w base sp held n 25 ((([c0, c1, c2, c3, c4, c5, c6, c7, c8] : List Value).drop 1).take (Try.prog.cellsOf 25)) = xs[1]? := hf 1 _ rfl
  rw [show Try.prog.cellsOf 25 = 1 from by kernel_rfl] at g1
  have e1 : xs[1]? = some (xs[1]'(by rw [hxl]; decide)) := List.getElem?_eq_getElem _
  have g2 : DataW.trod enc Try.prog w base sp held n 25 ((([c0, c1, c2, c3, c4, c5, c6, c7, c8] : List Value).drop 2).take (Try.prog.cellsOf 25)) = xs[2]? := hf 2 _ rfl
  rw [show Try.prog.cellsOf 25 = 1 from by kernel_rfl] at g2
  have e2 : xs[2]? = some (xs[2]'(by rw [hxl]; decide)) := List.getElem?_eq_getElem _
  have g3 : DataW.trod enc Try.prog w base sp held n 25 ((([c0, c1, c2, c3, c4, c5, c6, c7, c8] : List Value).drop 3).take (Try.prog.cellsOf 25)) = xs[3]? := hf 3 _ rfl
  rw [show Try.prog.cellsOf 25 = 1 from by kernel_rfl] at g3
  have e3 : xs[3]? = some (xs[3]'(by rw [hxl]; decide)) := List.getElem?_eq_getElem _
  have g4 : DataW.trod enc Try.prog w base sp held n 25 ((([c0, c1, c2, c3, c4, c5, c6, c7, c8] : List Value).drop 4).take (Try.prog.cellsOf 25)) = xs[4]? := hf 4 _ rfl
  rw [show Try.prog.cellsOf 25 = 1 from by kernel_rfl] at g4
  have e4 : xs[4]? = some (xs[4]'(by rw [hxl]; decide)) := List.getElem?_eq_getElem _
  have g5 : DataW.trod enc Try.prog w base sp held n 26 ((([c0, c1, c2, c3, c4, c5, c6, c7, c8] : List Value).drop 5).take (Try.prog.cellsOf 26)) = xs[5]? := hf 5 _ rfl
  rw [show Try.prog.cellsOf 26 = 1 from by kernel_rfl] at g5
  have e5 : xs[5]? = some (xs[5]'(by rw [hxl]; decide)) := List.getElem?_eq_getElem _
  have g6 : DataW.trod enc Try.prog w base sp held n 26 ((([c0, c1, c2, c3, c4, c5, c6, c7, c8] : List Value).drop 6).take (Try.prog.cellsOf 26)) = xs[6]? := hf 6 _ rfl
  rw [show Try.prog.cellsOf 26 = 1 from by kernel_rfl] at g6
  have e6 : xs[6]? = some (xs[6]'(by rw [hxl]; decide)) := List.getElem?_eq_getElem _
  have g7 : DataW.trod enc Try.prog w base sp held n 27 ((([c0, c1, c2, c3, c4, c5, c6, c7, c8] : List Value).drop 7).take (Try.prog.cellsOf 27)) = xs[7]? := hf 7 _ rfl
  rw [show Try.prog.cellsOf 27 = 1 from by kernel_rfl] at g7
  have e7 : xs[7]? = some (xs[7]'(by rw [hxl]; decide)) := List.getElem?_eq_getElem _
  have g8 : DataW.trod enc Try.prog w base sp held n 27 ((([c0, c1, c2, c3, c4, c5, c6, c7, c8] : List Value).drop 8).take (Try.prog.cellsOf 27)) = xs[8]? := hf 8 _ rfl
  rw [show Try.prog.cellsOf 27 = 1 from by kernel_rfl] at g8
  have e8 : xs[8]? = some (xs[8]'(by rw [hxl]; decide)) := List.getElem?_eq_getElem _
  obtain ⟨y0, hk0, hw0⟩ := (oI Try.underlying3) enc w base sp held n [c0] _ (g0.trans e0)
  injection (show [c0] = [Value.int .i64 y0] from hk0) with he0 _
  subst he0
  obtain ⟨y1, hk1, hw1⟩ := (oI Try.underlying25) enc w base sp held n [c1] _ (g1.trans e1)
  injection (show [c1] = [Value.int .u64 y1] from hk1) with he1 _
  subst he1
  obtain ⟨y2, hk2, hw2⟩ := (oI Try.underlying25) enc w base sp held n [c2] _ (g2.trans e2)
  injection (show [c2] = [Value.int .u64 y2] from hk2) with he2 _
  subst he2
  obtain ⟨y3, hk3, hw3⟩ := (oI Try.underlying25) enc w base sp held n [c3] _ (g3.trans e3)
  injection (show [c3] = [Value.int .u64 y3] from hk3) with he3 _
  subst he3
  obtain ⟨y4, hk4, hw4⟩ := (oI Try.underlying25) enc w base sp held n [c4] _ (g4.trans e4)
  injection (show [c4] = [Value.int .u64 y4] from hk4) with he4 _
  subst he4
  obtain ⟨y5, hk5, hw5⟩ := (uY (d := jE) Try.underlying26 (by kernel_rfl) KW) enc w base sp held n [c5] _ (g5.trans e5)
  obtain ⟨A5, d5, he5, hl5, hC5⟩ := hk5
  injection he5 with he5 _
  subst he5
  obtain ⟨y6, hk6, hw6⟩ := (uY (d := jE) Try.underlying26 (by kernel_rfl) KW) enc w base sp held n [c6] _ (g6.trans e6)
  obtain ⟨A6, d6, he6, hl6, hC6⟩ := hk6
  injection he6 with he6 _
  subst he6
  obtain ⟨y7, hk7, hw7⟩ := (uY (d := (Kd.int .i64)) Try.underlying27 (by kernel_rfl) (oI Try.underlying2)) enc w base sp held n [c7] _ (g7.trans e7)
  obtain ⟨A7, d7, he7, hl7, hC7⟩ := hk7
  injection he7 with he7 _
  subst he7
  obtain ⟨y8, hk8, hw8⟩ := (uY (d := (Kd.int .i64)) Try.underlying27 (by kernel_rfl) (oI Try.underlying2)) enc w base sp held n [c8] _ (g8.trans e8)
  obtain ⟨A8, d8, he8, hl8, hC8⟩ := hk8
  injection he8 with he8 _
  subst he8
  exact ⟨⟨y0, y1, y2, y3, y4, y5, y6, y7, y8⟩, XI w ⟨y0, y1, y2, y3, y4, y5, y6, y7, y8⟩ hl5 hC5 hl6 hC6 hl7 hC7 hl8 hC8, ⟨hw0, hw1, hw2, hw3, hw4, hw5, hw6, hw7, hw8⟩⟩
end Go.Proofs.Ytooiccpmngmapaa.P
namespace Go.Proofs.Ytooiccpmngmapaa.P
open Go.RowKit Go.Proofs.YtooiccpmngmapaaW.PrintWords Go.Proofs.YtooiccpmngmapaaW.PrintLast Go.Proofs.YtooiccpmngmapaaW.PrintMore
theorem eu {x : Int} (h0 : -9223372036854775808 ≤ x) (h1 : x ≤ 9223372036854775807) : wrap64 x = x := by unfold wrap64; omega
theorem wrap_succ {i : Nat} (h : i < 9223372036854775807) : wrap64 ((i : Int) + 1) = ((i + 1 : Nat) : Int) := by unfold wrap64; omega
theorem NG (x : Int) : -9223372036854775808 ≤ wrap64 x ∧ wrap64 x ≤ 9223372036854775807 := by unfold wrap64; omega
theorem qC {l : List Int} {i : Nat} (h : i < l.length) : rd l (i : Int) = l[i] := by unfold rd; simp [List.getD, h]
theorem drop_at {α : Type} {l : List α} {i : Nat} (h : i < l.length) : l.drop i = l[i] :: l.drop (i + 1) := List.drop_eq_getElem_cons h
theorem take_at {α : Type} {l : List α} {i : Nat} (h : i < l.length) : l.take (i + 1) = l.take i ++ [l[i]] := List.take_succ_eq_append_getElem h
theorem drop_end {α : Type} {l : List α} {i : Nat} (h : l.length ≤ i) : l.drop i = [] := List.drop_eq_nil_of_le h
def i64 (x : Int) : Prop := -9223372036854775808 ≤ x ∧ x ≤ 9223372036854775807
instance (x : Int) : Decidable (i64 x) := by unfold i64; exact inferInstance
def u64 (x : Int) : Prop := 0 ≤ x ∧ x ≤ 18446744073709551615
instance (x : Int) : Decidable (u64 x) := by unfold u64; exact inferInstance
theorem EX {x : Int} (h : Nu .i64 x) : i64 x := Vg h
theorem Ju {x : Int} (h : Nu .u64 x) : u64 x := Vh h
theorem Pm {l : List Int} (h : ∀ x ∈ l, Nu .i64 x) : ∀ x ∈ l, i64 x := fun x hx => EX (h x hx)
theorem wrap_i64 (x : Int) : i64 (wrap64 x) := NG x
theorem uZ {x : Int} (h : i64 x) : wrap64 x = x := eu h.1 h.2
open Go.Shelf
def wH {α : Type} (p : α → Bool) (l : List α) : Int := match l.findIdx? p with
 | some i => (i : Int)
 | none => -1
theorem Bv {α : Type} (p : α → Bool) (l : List α) (i : Nat) (h : i < l.length) (hp : p l[i] = true) (hb : ∀ j (hj : j < i), p (l[j]'(Nat.lt_trans hj h)) = false) : wH p l = i := by
 have : l.findIdx? p = some i := by
  rw [List.findIdx?_eq_some_iff_getElem]
  exact ⟨h, hp, fun j hj => by simp [hb j hj]⟩
 unfold wH; rw [this]
theorem zK {α : Type} (p : α → Bool) (l : List α) (hb : ∀ j (hj : j < l.length), p l[j] = false) : wH p l = -1 := by
 have : l.findIdx? p = none := by
  rw [List.findIdx?_eq_none_iff]
  intro x hx
  obtain ⟨j, hj, rfl⟩ := List.getElem_of_mem hx
  exact hb j hj
 unfold wH; rw [this]
theorem lN {α : Type} {c : Prop} [Decidable c] {a r : α} (h : (if c then some a else none) = some r) : c ∧ a = r := by
 by_cases hc : c
 ·rw [if_pos hc] at h; exact ⟨hc, Option.some.inj h⟩
 ·rw [if_neg hc] at h; cases h
theorem KX {α : Type} (p : α → Bool) (l : List α) : (wH p l = -1 ∧ l.find? p = none) ∨ (∃ i : Nat, ∃ h : i < l.length, wH p l = (i : Int) ∧ l.find? p = some l[i]) := by
  unfold wH
  cases h : l.findIdx? p with
  | none => exact .inl ⟨rfl, by rw [List.find?_eq_none]; rw [List.findIdx?_eq_none_iff] at h; intro x hx; simp [h x hx]⟩
  | some i =>
    rw [List.findIdx?_eq_some_iff_getElem] at h
    obtain ⟨hi, hp, hb⟩ := h
    exact .inr ⟨i, hi, rfl, by rw [List.find?_eq_some_iff_getElem]; exact ⟨hp, i, hi, rfl, fun j hj => by simpa using hb j hj⟩⟩
theorem KY {α : Type} {d : Kd α} (hM : ∀ w w1 base ok x cs, d.M w base ok x cs → d.M w1 base ok x cs) {e : Nat} {w : World} {base : Nat} {ok : Nat → Prop} {g n cap : Nat} {xs : List α}
  (h : d.R e w base ok (.slice (some ⟨g, 0, none⟩) n cap) xs) (o : Nat) (seg : List Value) (ho : n * d.sz ≤ o) (hs : o + seg.length ≤ cap * d.sz) : d.R e (w.setCells g o seg) base ok (.slice (some ⟨g, 0, none⟩) n cap) xs := by
 obtain ⟨h0, inner, hown, hr⟩ := h
 refine ⟨h0, inner, ⟨hown.1, ?_⟩, hr.qm (fun p c hp => hM _ _ _ _ _ _ hp)⟩
 rcases hown.2 with ⟨hv, _⟩ | ⟨g', cap', cur, hv, hb, hh, hnc, hcm, hcs, ht⟩
 ·cases hv
 injection hv with ha hn hc
 injection ha with ha
 injection ha with hg'
 subst hg'; subst hc
 obtain ⟨cur', h3, h4, h5⟩ := wY seg o w cur hh (by omega)
 refine .inr ⟨g, cap, cur', by rw [hn], hb, h3, hnc, hcm, by omega, ?_⟩
 rw [← hn] at ht ⊢
 have hl : cur.toList.length = cap * d.sz := by rw [Array.length_toList]; exact hcs
 rw [h5, List.append_assoc, List.take_append_of_le_length (by rw [List.length_take]; omega), List.take_take, Nat.min_eq_left ho]
 exact ht
theorem DL {w : World} {g : Nat} {cur : Array Value} {e : TypeId} (hh : w.heap[g]? = some (.cells cur e (0, 0))) (o n : Nat) (h : o + n ≤ cur.size) :
  (∀ j, j < n → (w.cell? ⟨g, o + j, none⟩).isSome = true) ∧ (∀ j, j < n → w.frozen? ⟨g, o + j, none⟩ = false) :=
 ⟨fun j hj => by rw [ay hh]; simp; omega, fun j _ => aG hh _⟩
theorem yt {P : Program} (w : World) (t e ty : TypeId) (z : Value) (ht : P.underlying t = some (.slice e)) (hv : ∀ w, (zeroValue e).run P w = .ok z w) (g o n c : Nat) (hn : 0 < n)
  (hz : ∀ v ∈ (Builtin.zeroCells z.cells n).toList, v.oneCell' = true)
  (hc : ∀ j, j < (Builtin.zeroCells z.cells n).toList.length → (w.cell? ⟨g, o + j, none⟩).isSome = true) (hf : ∀ j, j < (Builtin.zeroCells z.cells n).toList.length → w.frozen? ⟨g, o + j, none⟩ = false) :
  (Builtin.clear_ #[t] ty #[.slice (some ⟨g, o, none⟩) n c]).run P w = .ok (.tuple #[]) (w.setCells g o (Builtin.zeroCells z.cells n).toList) := by
 have hst := run_storeCells_cells (P := P) g o (Builtin.zeroCells z.cells n).toList 0 w (by simpa using hc) (by simpa using hf) hz
 simp only [Nat.add_zero] at hst
 obtain ⟨m, rfl⟩ : ∃ m, n = m + 1 := ⟨n - 1, by omega⟩
 simp [Builtin.clear_, run_underlying ht, hv, hst]
structure DelInv {α : Type} (p : α → Bool) (xs : List α) (i j : Nat) (ys : List α) : Prop where
 len : ys.length = xs.length
 lt : i < j
 le : j ≤ xs.length
 low : ys.take i = (xs.take j).filter (fun x => !p x)
 high : ys.drop j = xs.drop j
theorem DelInv.start {α : Type} {p : α → Bool} {xs : List α} {i : Nat} (h : i < xs.length) (hp : p xs[i] = true) (hb : ∀ j (hj : j < i), p (xs[j]'(Nat.lt_trans hj h)) = false) : DelInv p xs i (i + 1) xs := by
 refine ⟨rfl, Nat.lt_succ_self _, h, ?_, rfl⟩
 rw [List.take_succ_eq_append_getElem h, List.filter_append]
 have h1 : (xs.take i).filter (fun x => !p x) = xs.take i := by
  rw [List.filter_eq_self]
  intro x hx
  obtain ⟨j, hj, rfl⟩ := List.getElem_of_mem hx
  rw [List.length_take] at hj
  rw [List.getElem_take, hb j (by omega)]; rfl
 rw [h1]; simp [hp]
theorem DelInv.at_ {α : Type} {p : α → Bool} {xs ys : List α} {i j : Nat} (h : DelInv p xs i j ys) (hj : j < xs.length) : ∃ h2 : j < ys.length, ys[j] = xs[j] := by
 have h2 : j < ys.length := by rw [h.len]; exact hj
 refine ⟨h2, ?_⟩
 have := congrArg (fun l => l[0]?) h.high
 simp only [List.getElem?_drop, Nat.add_zero, List.getElem?_eq_getElem h2, List.getElem?_eq_getElem hj] at this
 exact Option.some.inj this
theorem DelInv.skip {α : Type} {p : α → Bool} {xs ys : List α} {i j : Nat} (h : DelInv p xs i j ys) (hj : j < xs.length) (hp : p xs[j] = true) : DelInv p xs i (j + 1) ys := by
 refine ⟨h.len, by have := h.lt; omega, hj, ?_, ?_⟩
 ·rw [h.low, List.take_succ_eq_append_getElem hj, List.filter_append]; simp [hp]
 ·have := congrArg (List.drop 1) h.high
  rwa [List.drop_drop, List.drop_drop] at this
theorem DelInv.keep {α : Type} {p : α → Bool} {xs ys : List α} {i j : Nat} (h : DelInv p xs i j ys) (hj : j < xs.length) (hp : p xs[j] = false) : DelInv p xs (i + 1) (j + 1) (ys.set i xs[j]) := by
 have hlt := h.lt
 have hi : i < ys.length := by rw [h.len]; omega
 refine ⟨by rw [List.length_set]; exact h.len, by omega, hj, ?_, ?_⟩
 ·rw [List.take_succ_eq_append_getElem (by rw [List.length_set]; exact hi), List.getElem_set_self, List.take_set_of_le (by omega), h.low, List.take_succ_eq_append_getElem hj, List.filter_append]; simp [hp]
 ·rw [List.drop_set_of_lt (by omega)]
  have := congrArg (List.drop 1) h.high
  rwa [List.drop_drop, List.drop_drop] at this
theorem DelInv.done {α : Type} {p : α → Bool} {xs ys : List α} {i : Nat} (h : DelInv p xs i xs.length ys) : ys.take i = xs.filter (fun x => !p x) := by
 rw [h.low, List.take_of_length_le (Nat.le_refl _)]
theorem EY {α : Type} (p : α → Bool) (l : List α) : (wH p l = -1 ∧ l.filter (fun x => !p x) = l) ∨ (∃ i : Nat, ∃ h : i < l.length, wH p l = (i : Int) ∧ p l[i] = true ∧ ∀ j (hj : j < i), p (l[j]'(Nat.lt_trans hj h)) = false) := by
  unfold wH
  cases h : l.findIdx? p with
  | none =>
    refine .inl ⟨rfl, ?_⟩
    rw [List.findIdx?_eq_none_iff] at h
    rw [List.filter_eq_self]
    intro x hx; simp [h x hx]
  | some i =>
    rw [List.findIdx?_eq_some_iff_getElem] at h
    obtain ⟨hi, hp, hb⟩ := h
    exact .inr ⟨i, hi, rfl, hp, fun j hj => by simpa using hb j hj⟩
def slices_Clone_span.f (l0 : List dP) : Option (List dP) := if l0.length < 8796093022208 then some l0 else none
set_option maxHeartbeats 2000000 in
set_option maxRecDepth 100000 in
theorem slices_Clone_span.calls (A0 : Option Addr) (c0 : Nat) (l0 r : List dP) (w : World) (hr0 : Kd.C jE w A0 l0.length l0) (hc0 : l0.length ≤ c0) (h : slices_Clone_span.f l0 = some r) :
    Calls Try.prog 138 #[.slice A0 l0.length c0] w fun e w' => ∃ lY : Value, e = .returned (lY) ∧ Kd.R jE 113 w' w.heap.size (fun _ => True) lY r ∧ Below w.heap.size w w' := by
  obtain ⟨hm, h2⟩ := lN h
  subst h2
  clear h
  have hu := Try.underlying26
  have HM := ah hm
  clear hm
  cases A0 with
  | none =>
    have hl : l0 = [] := by
      rcases Nat.eq_zero_or_pos l0.length with h | h
      · exact List.length_eq_zero_iff.1 h
      · obtain ⟨ad, e, _⟩ := hr0.2.2 h
        cases e
    subst hl
    have hn : ∀ W n c, (binOp .eql 26 (.slice none n c) (.slice none 0 0)).run Try.prog W = .ok (.bool true) W := fun W n c => by
      exact Lib.run_eql_slice_nil W _ _ none n c 0 0 Try.underlying26
    go_enter Try.func138, Try.ntmps138
    go_wp2
    go_ret
    exact ⟨_, rfl, Kd.dY _ _ _ _ _, Below.refl _ _⟩
  | some ad =>
    have hn : ∀ W n c, (binOp .eql 26 (.slice (some ad) n c) (.slice none 0 0)).run Try.prog W = .ok (.bool false) W := fun W n c => by
      exact Lib.run_eql_slice_nil W _ _ (some ad) n c 0 0 Try.underlying26
    have HR := ah hr0
    clear hr0
    go_enter Try.func138, Try.ntmps138
    go_wp2_with ((with_reducible refine dZ (b := .append) (xs := #[.tmp 5, .tmp 6]) rfl ?_); at_builtin; refine Kd.vZ jE (w0 := w) (Rr := jE.K w) w.heap.size rfl (.tmp 5) (.tmp 6) 26 113 _ 16 rfl Try.underlying26 Js rfl (by decide) (by omega) (.slice (some ⟨w.heap.size, 0, none⟩) 0 0) [] l0 (some ad) l0.length c0 (fun _ => True) (fun _ => False) rfl rfl ?aO ?aR ?aK (fun _ hk => hk.elim) (fun _ _ => trivial) ?aB ?aS ?aL ?_; (case aO => exact ⟨fun _ _ => trivial, [], ⟨rfl, .inr ⟨w.heap.size, 0, #[], rfl, Nat.le_refl _, by simpa using iM w _, Nat.le_refl _, by unfold maxLen; omega, rfl, rfl⟩⟩, jA.none _ _⟩); (case aR => exact HR.out.qm (ak (Below.refl _ _) _) (fun _ _ h => h)); (case aK => intro x cs hx; rw [Iz hx]; exact um _ _ _ x); (case aB => exact ak (Below.refl _ _) _); (case aS => simp); (case aL => have := HM.out; simp; omega); intro v1 w1 ho hb hg hat; rw [List.nil_append] at ho; have HO := ah ho; have HB := ah hb; clear ho hb hg hat)
    go_ret
    exact ⟨_, rfl, HO.out, HB.out⟩
class Lft (w : World) (W : World) : Prop where
 be : Below w.heap.size w W
instance Lft.self (w : World) : Lft w w := ⟨Below.refl _ _⟩
instance Lft.alloc (w W : World) (o : Obj) [b : Lft w W] : Lft w (W.alloc o) := ⟨ak b.be o⟩
instance Lft.drew (w W : World) [b : Lft w W] : Lft w W.drew := ⟨aC b.be⟩
instance Lft.drewN (w W : World) (m : Nat) [b : Lft w W] : Lft w (W.drewN m) := ⟨au b.be m⟩
class Stp (w : outParam World) (W : World) : Prop where
 be : Below w.heap.size w W
instance Stp.alloc (W : World) (o : Obj) : Stp W (W.alloc o) := ⟨ak (Below.refl _ _) o⟩
instance Stp.drew (W : World) : Stp W W.drew := ⟨aC (Below.refl _ _)⟩
instance Stp.drewN (W : World) (m : Nat) : Stp W (W.drewN m) := ⟨au (Below.refl _ _) m⟩
theorem Kd.fB {α : Type} {d : Kd α} {e : TypeId} {w W : World} {base : Nat} {ok : Nat → Prop} {v : Value} {xs : List α} [b : Lft w W] (h : d.R e w base ok v xs) : d.R e W base ok v xs := Kd.fC h b.be
theorem Kd.kJ {α : Type} {d : Kd α} {e : TypeId} {w W : World} {base : Nat} {ok : Nat → Prop} {v : Value} {xs : List α} [b : Stp w W] (h : d.R e w base ok v xs) : d.R e W base ok v xs := Kd.fC h b.be
theorem Kd.kE {α : Type} {d : Kd α} {e : TypeId} {w W w1 : World} {base : Nat} {ok : Nat → Prop} {v : Value} {xs : List α} [b : Lft w W] (h : d.R e w base ok v xs) (hb : Below W.heap.size W w1) : d.R e w1 base ok v xs := Kd.fC (Kd.fC h b.be) hb
theorem Kd.jT {α : Type} {d : Kd α} {w W : World} {A : Option Addr} {n : Nat} {xs : List α} [b : Lft w W] (h : d.C w A n xs) : d.C W A n xs := Kd.bM h b.be
theorem jP {w W : World} {g : Nat} {o : Obj} [b : Lft w W] (h : w.heap[g]? = some o) : W.heap[g]? = some o := bG h b.be
theorem bQ {w W : World} {g : Nat} {o : Obj} [b : Stp w W] (h : w.heap[g]? = some o) : W.heap[g]? = some o := bG h b.be
theorem dX {w W w1 : World} {g : Nat} {o : Obj} [b : Lft w W] (h : w.heap[g]? = some o) (hb : Below W.heap.size W w1) : w1.heap[g]? = some o := bG (bG h b.be) hb
theorem aX {u w W : World} [b : Lft w W] (h : Below u.heap.size u w) : Below u.heap.size u W := aH h h.size b.be
theorem bJ {u w W : World} [b : Stp w W] (h : Below u.heap.size u w) : Below u.heap.size u W := aH h h.size b.be
theorem eH {P : Program} {ops : Array Oper} {Q : Exit → Act → World → Prop} {rest : List Oper} {oi : Oper} {a : Act} {w : World} (N : Option Tmp) {f : FuncId} {fn : Func} {as_ : Array Operand} {ts : Array TypeId} (hf : P.funcs[f]? = some fn) (args : Array Value)
    (h : Calls P f args w fun e w' => ∃ v, e = .returned v ∧ wpList P ops Q rest (a.put N v) w') (hop : oi.op = .call { callee := .value (.func f), args := as_, argTypes := ts } := by rfl)
    (hargs : as_.map a.eval = args := by (try simp only [List.map_toArray, List.map_cons, List.map_nil]); first | done | rfl | (simp only [List.length_drop, List.length_take]; rfl)) (hd : oi.dst = N := by rfl) (hg : oi.guard = none := by rfl) (hname : (fn.name == "runtime.NumGoroutine") = false := by kernel_rfl) (hb : fn.body.isSome = true := by rfl) : wpList P ops Q (oi :: rest) a w :=
  pV N hd hg hf hname hb args hop hargs h
attribute [local go_sem] jh ji jR jS iI iJ jk jl
def span_in.f (a0 : Int) : Option (Bool) := if a0 ≥ (-1048576) then (some (decide (a0 ≤ 1048576))) else (some false)
set_option maxHeartbeats 8000000 in
set_option maxRecDepth 100000 in
theorem span_in.calls (a0 : Int) (r : Bool) (w : World) (h : span_in.f a0 = some r) :
  Calls Try.prog 182 #[.int .i64 a0] w fun e w' => e = .returned (.bool r) ∧ bW w w' := by
 have H : (if a0 ≥ (-1048576) then (some (decide (a0 ≤ 1048576))) else (some false)) = some r := h
 clear h
 by_cases c2 : a0 ≥ (-1048576)
 ·rw [if_pos c2] at H
  have c2b0 : decide ((-1048576) ≤ a0) = true := aiJ c2
  clear c2
  obtain rfl := Option.some.inj H
  go_enter Try.func182, Try.ntmps182
  go_wp2
  go_ret
  exact ⟨by first | rfl | (simp; done) | (simp [*]; done), by repeat (first | exact bW.refl _ | apply bW.step)⟩
 rw [if_neg c2] at H
 have c2b0 : decide ((-1048576) ≤ a0) = false := aiK c2
 clear c2
 obtain rfl := Option.some.inj H
 go_enter Try.func182, Try.ntmps182
 go_wp2
 go_ret
 exact ⟨by first | rfl | (simp; done) | (simp [*]; done), by repeat (first | exact bW.refl _ | apply bW.step)⟩
mutual
def span_right.l0 : Nat → Int → Int → List (dP) → Int → Int → Option (Bool)
 | 0, _, _, _, _, _ => none
 | k + 1, x3, x4, x7, x8, x9 => if x9 < x8 then (if 0 ≤ x9 then (if x9 < (x7.length : Int) then (if ((bf x7 x9).f0) > 2097152 then (span_right.j1 k x3 x4 x7 x8 x9 true ((bf x7 x9).f0) ((bf x7 x9).f1)) else (if ((bf x7 x9).f1) < 0 then (span_right.j1 k x3 x4 x7 x8 x9 true ((bf x7 x9).f0) ((bf x7 x9).f1)) else (if ((bf x7 x9).f1) > 4096 then (span_right.j1 k x3 x4 x7 x8 x9 true ((bf x7 x9).f0) ((bf x7 x9).f1)) else (if ((bf x7 x9).f0) < 0 then (if x9 > 0 then (span_right.j1 k x3 x4 x7 x8 x9 true ((bf x7 x9).f0) ((bf x7 x9).f1)) else ((span_in.f ((bf x7 x9).f0)).bind fun eG => (span_right.j1 k x3 x4 x7 x8 x9 (!eG) ((bf x7 x9).f0) ((bf x7 x9).f1)))) else (span_right.j1 k x3 x4 x7 x8 x9 false ((bf x7 x9).f0) ((bf x7 x9).f1)))))) else (none)) else (none)) else (some true)
def span_right.j1 : Nat → Int → Int → List (dP) → Int → Int → Bool → Int → Int → Option (Bool)
 | 0, _, _, _, _, _, _, _, _ => none
 | k + 1, x3, x4, x7, x8, x9, x41, lZ, lI => if x41 = true then (some false) else ((span_in.f (wrap64 (x3 + lZ))).bind fun lg => (if lg = true then ((span_in.f (wrap64 ((wrap64 (x3 + lZ)) + (mx (wrap64 (lI - 1)) 0)))).bind fun t105 => (if t105 = true then (if (wrap64 (x4 + lI)) > 4096 then (some false) else (span_right.l0 k (wrap64 ((wrap64 (x3 + lZ)) + lI)) (wrap64 (x4 + lI)) x7 x8 (wrap64 (x9 + 1)))) else (some false))) else (some false)))
end
def span_right.f (k : Nat) (l0 : List (dP)) : Option (Bool) := span_right.l0 k 0 0 l0 (l0.length : Int) 0
set_option maxHeartbeats 8000000 in
set_option maxRecDepth 100000 in
theorem span_right.calls (k : Nat) (A0 : Option Addr) (c0 : Nat) (l0 : List (dP)) (r : Bool) (w : World) (hr0 : Kd.C jE w A0 l0.length l0) (hc0 : l0.length ≤ c0) (h : span_right.f k l0 = some r) :
  Calls Try.prog 178 #[.slice A0 l0.length c0] w fun e w' => e = .returned (.bool r) ∧ Below w.heap.size w w' := by
 have La := Try.underlying113
 have HR0 := ah hr0
 have tK := ah hc0
 clear hr0 hc0
 have HB := ah (Below.refl w.heap.size w)
 have H : (span_right.l0 k 0 0 l0 (l0.length : Int) 0) = some r := h
 clear h
 have H' := ah H
 clear H
 go_enter Try.func178, Try.ntmps178
 go_wp2
 go_loopg [3, 4, 9] k (fun kq v3 v4 v9 w' => ∃ (fG : Int) (dM : Int) (fV : Int), v3 = .int .i64 fG ∧ v4 = .int .i64 dM ∧ v9 = .int .i64 fV ∧ aj (span_right.l0 kq fG dM l0 (l0.length : Int) fV = some r) ∧ aj (kq ≤ k) ∧ aj (Below w.heap.size w w'))
 case atStart => exact ⟨(0), (0), (0), (by first | rfl | (simp; done) | (simp [*]; done)), (by first | rfl | (simp; done) | (simp [*]; done)), (by first | rfl | (simp; done) | (simp [*]; done)), H', ⟨Nat.le_refl _⟩, ⟨by repeat (first | (with_reducible first | exact HB.out | apply ak | apply au | apply aC) | exact HB.out)⟩⟩
 case round =>
  clear H'
  try clear c1
  obtain ⟨fG, dM, fV, rfl, rfl, rfl, HA, jf, HB⟩ := hrel
  cases gk with
  | zero => exact absurd HA.out (by simp [span_right.l0])
  | succ k1 =>
   have H := HA.out
   clear HA
   simp only [span_right.l0] at H
   by_cases c2 : fV < (l0.length : Int)
   ·rw [if_pos c2] at H
    have c2b0 : decide (fV < (l0.length : Int)) = true := aiJ c2
    clear c2
    by_cases c3 : 0 ≤ fV
    ·rw [if_pos c3] at H
     have c3b0 : decide (0 ≤ fV) = true := aiJ c3
     clear c3
     by_cases c4 : fV < (l0.length : Int)
     ·rw [if_pos c4] at H
      have c4b0 : decide (fV < (l0.length : Int)) = true := aiJ c4
      clear c4
      have NH := ah H
      clear H
      have eX : 0 ≤ (fV : Int) := aiI (by assumption)
      have eY : fV < (l0.length : Int) := aiI (by assumption)
      obtain ⟨jU, jK, bP, dS⟩ := pU HR0.out fV eX eY
      cases jK
      replace bP := (HB.out.cell (World.block_lt_of_cell? w _ bP)).trans bP
      replace dS := (HB.out.cell (World.block_lt_of_cell? w _ dS)).trans dS
      replace eX := eq_true eX
      replace eY := eq_true eY
      go_upto_region 5 with (first | ((with_reducible refine fJ (N := 6) rfl ?_); (try (refine uj (by rfl) ?_; dsimp only)); refine eU ?hg (N := 6) ?hd (cs := #[.int .i64 0, .int .i64 0]) (t := 113) ?hr ?_; (case hd => rfl); (case hg => rfl); (case hr => first | (go_simp; done) | (go_simp; rfl)); intro aJ hg w6 hbox hb; have aN := ah (hbox); have oM := ah ((by rw [hg]; exact (aI (aX HB.out)) : w.heap.size ≤ aJ)); have bT := ah ((by rw [hg]; exact (aI (aX HB.out)) : w.heap.size ≤ aJ)); replace HB := ah (aW (aX HB.out) hb); clear hb hbox hg; have yH := ay aN.out; have yI := aG aN.out))
      (try simp only [Act.put, List.setIfInBounds_toArray, List.set_cons_zero, List.set_cons_succ])
      go_cut [41] (fun v41 wc => ∃ (kq : Nat) (Pn : Bool), v41 = .bool Pn ∧ aj (span_right.j1 kq fG dM l0 (l0.length : Int) fV Pn ((bf l0 fV).f0) ((bf l0 fV).f1) = some r) ∧ aj (kq ≤ k1) ∧ aj (wc.heap[aJ]? = some (.cells #[.int .i64 ((bf l0 fV).f0), .int .i64 ((bf l0 fV).f1)] 113 (0, 0))) ∧ aj (Below w.heap.size w wc))
      case first =>
       have H := NH.out
       clear NH
       by_cases c8 : ((bf l0 fV).f0) > 2097152
       ·rw [if_pos c8] at H
        have c8b0 : decide (2097152 < ((bf l0 fV).f0)) = true := aiJ c8
        clear c8
        (first | rw [c8b0] | (simp only [dh, dF]; rw [c8b0]) | skip)
        have H' := ah H
        clear H
        have sS := ay aN.out
        have sU := aG aN.out
        go_wp2
        go_meet
        case rel => exact ⟨_, (true), (by first | rfl | (simp; done) | (simp [*]; done)), H', ⟨by have := jf.out; first | omega | exact Nat.le_refl _⟩, ⟨by (repeat with_reducible refine bQ ?_); refine bC (cs := #[.int .i64 ((bf l0 fV).f0), .int .i64 0]) ?_ 1 _ rfl; (repeat with_reducible refine bQ ?_); refine bC (cs := #[.int .i64 0, .int .i64 0]) ?_ 0 _ rfl; (repeat with_reducible refine bQ ?_); exact aN.out⟩, ⟨by repeat (first | (with_reducible first | exact HB.out | apply ak | apply au | apply aC | refine aA ?_ bT.out) | exact HB.out)⟩⟩
       rw [if_neg c8] at H
       have c8b0 : decide (2097152 < ((bf l0 fV).f0)) = false := aiK c8
       clear c8
       (first | rw [c8b0] | (simp only [dh, dF]; rw [c8b0]) | skip)
       by_cases c10 : ((bf l0 fV).f1) < 0
       ·rw [if_pos c10] at H
        have c10b0 : decide (((bf l0 fV).f1) < 0) = true := aiJ c10
        clear c10
        have H' := ah H
        clear H
        have xg := ay aN.out
        have xk := aG aN.out
        go_wp2
        go_meet
        case rel => exact ⟨_, (true), (by first | rfl | (simp; done) | (simp [*]; done)), H', ⟨by have := jf.out; first | omega | exact Nat.le_refl _⟩, ⟨by (repeat with_reducible refine bQ ?_); refine bC (cs := #[.int .i64 ((bf l0 fV).f0), .int .i64 0]) ?_ 1 _ rfl; (repeat with_reducible refine bQ ?_); refine bC (cs := #[.int .i64 0, .int .i64 0]) ?_ 0 _ rfl; (repeat with_reducible refine bQ ?_); exact aN.out⟩, ⟨by repeat (first | (with_reducible first | exact HB.out | apply ak | apply au | apply aC | refine aA ?_ bT.out) | exact HB.out)⟩⟩
       rw [if_neg c10] at H
       have c10b0 : decide (((bf l0 fV).f1) < 0) = false := aiK c10
       clear c10
       by_cases c12 : ((bf l0 fV).f1) > 4096
       ·rw [if_pos c12] at H
        have c12b0 : decide (4096 < ((bf l0 fV).f1)) = true := aiJ c12
        clear c12
        have H' := ah H
        clear H
        have xq := ay aN.out
        have xu := aG aN.out
        go_wp2
        go_meet
        case rel => exact ⟨_, (true), (by first | rfl | (simp; done) | (simp [*]; done)), H', ⟨by have := jf.out; first | omega | exact Nat.le_refl _⟩, ⟨by (repeat with_reducible refine bQ ?_); refine bC (cs := #[.int .i64 ((bf l0 fV).f0), .int .i64 0]) ?_ 1 _ rfl; (repeat with_reducible refine bQ ?_); refine bC (cs := #[.int .i64 0, .int .i64 0]) ?_ 0 _ rfl; (repeat with_reducible refine bQ ?_); exact aN.out⟩, ⟨by repeat (first | (with_reducible first | exact HB.out | apply ak | apply au | apply aC | refine aA ?_ bT.out) | exact HB.out)⟩⟩
       rw [if_neg c12] at H
       have c12b0 : decide (4096 < ((bf l0 fV).f1)) = false := aiK c12
       clear c12
       by_cases c14 : ((bf l0 fV).f0) < 0
       ·rw [if_pos c14] at H
        have c14b0 : decide (((bf l0 fV).f0) < 0) = true := aiJ c14
        clear c14
        by_cases c15 : fV > 0
        ·rw [if_pos c15] at H
         have c15b0 : decide (0 < fV) = true := aiJ c15
         clear c15
         have H' := ah H
         clear H
         have EG := ay aN.out
         have EH := aG aN.out
         go_wp2
         go_meet
         case rel => exact ⟨_, (true), (by first | rfl | (simp; done) | (simp [*]; done)), H', ⟨by have := jf.out; first | omega | exact Nat.le_refl _⟩, ⟨by (repeat with_reducible refine bQ ?_); refine bC (cs := #[.int .i64 ((bf l0 fV).f0), .int .i64 0]) ?_ 1 _ rfl; (repeat with_reducible refine bQ ?_); refine bC (cs := #[.int .i64 0, .int .i64 0]) ?_ 0 _ rfl; (repeat with_reducible refine bQ ?_); exact aN.out⟩, ⟨by repeat (first | (with_reducible first | exact HB.out | apply ak | apply au | apply aC | refine aA ?_ bT.out) | exact HB.out)⟩⟩
        rw [if_neg c15] at H
        have c15b0 : decide (0 < fV) = false := aiK c15
        clear c15
        replace H := Option.bind_eq_some_iff.mp H
        obtain ⟨eG, Sz, H⟩ := H
        replace H : (span_right.j1 k1 fG dM l0 (l0.length : Int) fV (!eG) ((bf l0 fV).f0) ((bf l0 fV).f1)) = some r := H
        have XK := ah Sz
        clear Sz
        have H' := ah H
        clear H
        have Vk := ay aN.out
        have Vl := aG aN.out
        go_wp2_with (first | (go_at_call 182; (with_reducible refine (span_in.calls ((bf l0 fV).f0) eG _ XK.out).mono ?_); rintro e w' ⟨rfl, ⟨nd, rfl⟩⟩; clear XK))
        go_meet
        case rel => exact ⟨_, (!eG), (by first | rfl | (simp; done) | (simp [*]; done)), H', ⟨by have := jf.out; first | omega | exact Nat.le_refl _⟩, ⟨by (repeat with_reducible refine bQ ?_); refine bC (cs := #[.int .i64 ((bf l0 fV).f0), .int .i64 0]) ?_ 1 _ rfl; (repeat with_reducible refine bQ ?_); refine bC (cs := #[.int .i64 0, .int .i64 0]) ?_ 0 _ rfl; (repeat with_reducible refine bQ ?_); exact aN.out⟩, ⟨by repeat (first | (with_reducible first | exact HB.out | apply ak | apply au | apply aC | refine aA ?_ bT.out) | exact HB.out)⟩⟩
       rw [if_neg c14] at H
       have c14b0 : decide (((bf l0 fV).f0) < 0) = false := aiK c14
       clear c14
       have H' := ah H
       clear H
       have zL := ay aN.out
       have zM := aG aN.out
       go_wp2
       go_meet
       case rel => exact ⟨_, (false), (by first | rfl | (simp; done) | (simp [*]; done)), H', ⟨by have := jf.out; first | omega | exact Nat.le_refl _⟩, ⟨by (repeat with_reducible refine bQ ?_); refine bC (cs := #[.int .i64 ((bf l0 fV).f0), .int .i64 0]) ?_ 1 _ rfl; (repeat with_reducible refine bQ ?_); refine bC (cs := #[.int .i64 0, .int .i64 0]) ?_ 0 _ rfl; (repeat with_reducible refine bQ ?_); exact aN.out⟩, ⟨by repeat (first | (with_reducible first | exact HB.out | apply ak | apply au | apply aC | refine aA ?_ bT.out) | exact HB.out)⟩⟩
      case rest =>
       clear NH
       try clear c1
       try clear p1
       try clear q1
       try clear hx1
       try clear c2
       try clear c2b0
       try clear p2
       try clear c3
       try clear c3b0
       try clear c4
       try clear c4b0
       try clear c8
       try clear c8b0
       try clear c10
       try clear c10b0
       try clear p10
       try clear q10
       try clear SA
       try clear c12
       try clear c12b0
       try clear c14
       try clear c14b0
       try clear c15
       try clear c15b0
       try clear c17
       try clear xg
       try clear xq
       try clear EG
       try clear Vk
       try clear zL
       try clear yH
       try clear sS
       try clear xk
       try clear xu
       try clear EH
       try clear Vl
       try clear zM
       try clear yI
       try clear sU
       try clear bP
       try clear dS
       try clear eX
       try clear eY
       obtain ⟨kq, Pn, rfl, HA, Jv, aN, HB⟩ := hcut
       cases kq with
       | zero => exact absurd HA.out (by simp [span_right.j1])
       | succ nJ =>
        have H := HA.out
        clear HA
        simp only [span_right.j1] at H
        by_cases c20 : Pn = true
        ·subst c20
         have H1 : (some false) = some r := by rw [if_pos rfl] at H; exact H
         clear H
         have H := H1
         clear H1
         obtain rfl := Option.some.inj H
         go_wp2
         go_ret
         exact ⟨by first | rfl | (simp [aT, aU] <;> rfl) | (simp [*, aT, aU] <;> rfl), by repeat (first | (with_reducible first | exact HB.out | apply ak | apply au | apply aC | refine aA ?_ bT.out) | exact HB.out)⟩
        replace c20 := Bool.eq_false_iff.mpr c20
        subst c20
        have H1 : ((span_in.f (wrap64 (fG + ((bf l0 fV).f0)))).bind fun lg => (if lg = true then ((span_in.f (wrap64 ((wrap64 (fG + ((bf l0 fV).f0))) + (mx (wrap64 (((bf l0 fV).f1) - 1)) 0)))).bind fun t105 => (if t105 = true then (if (wrap64 (dM + ((bf l0 fV).f1))) > 4096 then (some false) else (span_right.l0 nJ (wrap64 ((wrap64 (fG + ((bf l0 fV).f0))) + ((bf l0 fV).f1))) (wrap64 (dM + ((bf l0 fV).f1))) l0 (l0.length : Int) (wrap64 (fV + 1)))) else (some false))) else (some false))) = some r := by rw [if_neg (show ¬ (false = true) by decide)] at H; exact H
        clear H
        have H := H1
        clear H1
        replace H := Option.bind_eq_some_iff.mp H
        obtain ⟨lg, ZF, H⟩ := H
        replace H : (if lg = true then ((span_in.f (wrap64 ((wrap64 (fG + ((bf l0 fV).f0))) + (mx (wrap64 (((bf l0 fV).f1) - 1)) 0)))).bind fun t105 => (if t105 = true then (if (wrap64 (dM + ((bf l0 fV).f1))) > 4096 then (some false) else (span_right.l0 nJ (wrap64 ((wrap64 (fG + ((bf l0 fV).f0))) + ((bf l0 fV).f1))) (wrap64 (dM + ((bf l0 fV).f1))) l0 (l0.length : Int) (wrap64 (fV + 1)))) else (some false))) else (some false)) = some r := H
        have Vm := ah ZF
        clear ZF
        by_cases Rw : lg = true
        ·subst Rw
         have H1 : ((span_in.f (wrap64 ((wrap64 (fG + ((bf l0 fV).f0))) + (mx (wrap64 (((bf l0 fV).f1) - 1)) 0)))).bind fun t105 => (if t105 = true then (if (wrap64 (dM + ((bf l0 fV).f1))) > 4096 then (some false) else (span_right.l0 nJ (wrap64 ((wrap64 (fG + ((bf l0 fV).f0))) + ((bf l0 fV).f1))) (wrap64 (dM + ((bf l0 fV).f1))) l0 (l0.length : Int) (wrap64 (fV + 1)))) else (some false))) = some r := by rw [if_pos rfl] at H; exact H
         clear H
         have H := H1
         clear H1
         obtain ⟨SB, IE⟩ : ∃ j_ : Int, (mx (wrap64 (((bf l0 fV).f1) - 1)) 0) = j_ := ⟨_, rfl⟩
         replace H : ((span_in.f (wrap64 ((wrap64 (fG + ((bf l0 fV).f0))) + (SB)))).bind fun t105 => (if t105 = true then (if (wrap64 (dM + ((bf l0 fV).f1))) > 4096 then (some false) else (span_right.l0 nJ (wrap64 ((wrap64 (fG + ((bf l0 fV).f0))) + ((bf l0 fV).f1))) (wrap64 (dM + ((bf l0 fV).f1))) l0 (l0.length : Int) (wrap64 (fV + 1)))) else (some false))) = some r := by first | (rw [IE] at H; exact H) | (simp only [IE] at H ⊢; exact H)
         (try rw [IE] at Vm)
         have ac1 : (if (wrap64 (((bf l0 fV).f1) - 1)) < 0 then 0 else (wrap64 (((bf l0 fV).f1) - 1))) = SB := IE
         replace H := Option.bind_eq_some_iff.mp H
         obtain ⟨t105, SC, H⟩ := H
         replace H : (if t105 = true then (if (wrap64 (dM + ((bf l0 fV).f1))) > 4096 then (some false) else (span_right.l0 nJ (wrap64 ((wrap64 (fG + ((bf l0 fV).f0))) + ((bf l0 fV).f1))) (wrap64 (dM + ((bf l0 fV).f1))) l0 (l0.length : Int) (wrap64 (fV + 1)))) else (some false)) = some r := H
         have Vo := ah SC
         clear SC
         by_cases c25 : t105 = true
         ·subst c25
          have H1 : (if (wrap64 (dM + ((bf l0 fV).f1))) > 4096 then (some false) else (span_right.l0 nJ (wrap64 ((wrap64 (fG + ((bf l0 fV).f0))) + ((bf l0 fV).f1))) (wrap64 (dM + ((bf l0 fV).f1))) l0 (l0.length : Int) (wrap64 (fV + 1)))) = some r := by rw [if_pos rfl] at H; exact H
          clear H
          have H := H1
          clear H1
          by_cases SE : (wrap64 (dM + ((bf l0 fV).f1))) > 4096
          ·rw [if_pos SE] at H
           have c26b0 : decide (4096 < (wrap64 (dM + ((bf l0 fV).f1)))) = true := aiJ SE
           clear SE
           obtain rfl := Option.some.inj H
           have Jw := ay aN.out
           have Jy := aG aN.out
           go_wp2_with (first | ((with_reducible refine bH (f := 182) rfl ?_); refine eH (some 51) Try.func182 #[.int .i64 (wrap64 (fG + ((bf l0 fV).f0)))] ?_; (with_reducible refine (span_in.calls (wrap64 (fG + ((bf l0 fV).f0))) true _ Vm.out).mono ?_); rintro e w' ⟨rfl, ⟨nd, rfl⟩⟩; refine ⟨_, rfl, ?_⟩; clear Vm) | (go_at_call 182; (with_reducible refine (span_in.calls (wrap64 ((wrap64 (fG + ((bf l0 fV).f0))) + (SB))) true _ Vo.out).mono ?_); rintro e w' ⟨rfl, ⟨nd, rfl⟩⟩; clear Vo))
           go_ret
           exact ⟨by first | rfl | (simp [aT, aU] <;> rfl) | (simp only [← IE]; first | rfl | (simp [aT, aU] <;> rfl)) | (simp [*, aT, aU] <;> rfl), by repeat (first | (with_reducible first | exact HB.out | apply ak | apply au | apply aC | refine aA ?_ bT.out) | exact HB.out)⟩
          rw [if_neg SE] at H
          have c26b0 : decide (4096 < (wrap64 (dM + ((bf l0 fV).f1)))) = false := aiK SE
          clear SE
          have H' := ah H
          clear H
          have zN := ay aN.out
          have zO := aG aN.out
          go_wp2_with (first | ((with_reducible refine bH (f := 182) rfl ?_); refine eH (some 51) Try.func182 #[.int .i64 (wrap64 (fG + ((bf l0 fV).f0)))] ?_; (with_reducible refine (span_in.calls (wrap64 (fG + ((bf l0 fV).f0))) true _ Vm.out).mono ?_); rintro e w' ⟨rfl, ⟨nd, rfl⟩⟩; refine ⟨_, rfl, ?_⟩; clear Vm) | (go_at_call 182; (with_reducible refine (span_in.calls (wrap64 ((wrap64 (fG + ((bf l0 fV).f0))) + (SB))) true _ Vo.out).mono ?_); rintro e w' ⟨rfl, ⟨nd, rfl⟩⟩; clear Vo))
          go_roundg nJ
          case measure => have := jf.out; have := Jv.out; omega
          case rel => exact ⟨(wrap64 ((wrap64 (fG + ((bf l0 fV).f0))) + ((bf l0 fV).f1))), (wrap64 (dM + ((bf l0 fV).f1))), (wrap64 (fV + 1)), (by first | rfl | (simp; done) | (simp [*]; done)), (by first | rfl | (simp; done) | (simp [*]; done)), (by first | rfl | (simp; done) | (simp [*]; done)), H', ⟨by have := jf.out; have := Jv.out; omega⟩, ⟨by repeat (first | (with_reducible first | exact HB.out | apply ak | apply au | apply aC | refine aA ?_ bT.out) | exact HB.out)⟩⟩
         replace c25 := Bool.eq_false_iff.mpr c25
         subst c25
         have H1 : (some false) = some r := by rw [if_neg (show ¬ (false = true) by decide)] at H; exact H
         clear H
         have H := H1
         clear H1
         obtain rfl := Option.some.inj H
         have EI := ay aN.out
         have EJ := aG aN.out
         go_wp2_with (first | ((with_reducible refine bH (f := 182) rfl ?_); refine eH (some 51) Try.func182 #[.int .i64 (wrap64 (fG + ((bf l0 fV).f0)))] ?_; (with_reducible refine (span_in.calls (wrap64 (fG + ((bf l0 fV).f0))) true _ Vm.out).mono ?_); rintro e w' ⟨rfl, ⟨nd, rfl⟩⟩; refine ⟨_, rfl, ?_⟩; clear Vm) | (go_at_call 182; (with_reducible refine (span_in.calls (wrap64 ((wrap64 (fG + ((bf l0 fV).f0))) + (SB))) false _ Vo.out).mono ?_); rintro e w' ⟨rfl, ⟨nd, rfl⟩⟩; clear Vo))
         go_ret
         exact ⟨by first | rfl | (simp [aT, aU] <;> rfl) | (simp only [← IE]; first | rfl | (simp [aT, aU] <;> rfl)) | (simp [*, aT, aU] <;> rfl), by repeat (first | (with_reducible first | exact HB.out | apply ak | apply au | apply aC | refine aA ?_ bT.out) | exact HB.out)⟩
        replace Rw := Bool.eq_false_iff.mpr Rw
        subst Rw
        have H1 : (some false) = some r := by rw [if_neg (show ¬ (false = true) by decide)] at H; exact H
        clear H
        have H := H1
        clear H1
        obtain rfl := Option.some.inj H
        have abn := ay aN.out
        have abo := aG aN.out
        go_wp2_with (first | ((with_reducible refine bH (f := 182) rfl ?_); refine eH (some 51) Try.func182 #[.int .i64 (wrap64 (fG + ((bf l0 fV).f0)))] ?_; (with_reducible refine (span_in.calls (wrap64 (fG + ((bf l0 fV).f0))) false _ Vm.out).mono ?_); rintro e w' ⟨rfl, ⟨nd, rfl⟩⟩; refine ⟨_, rfl, ?_⟩; clear Vm))
        go_ret
        exact ⟨by first | rfl | (simp [aT, aU] <;> rfl) | (simp [*, aT, aU] <;> rfl), by repeat (first | (with_reducible first | exact HB.out | apply ak | apply au | apply aC | refine aA ?_ bT.out) | exact HB.out)⟩
     rw [if_neg c4] at H
     exact absurd H (by simp)
    rw [if_neg c3] at H
    exact absurd H (by simp)
   rw [if_neg c2] at H
   have c2b0 : decide (fV < (l0.length : Int)) = false := aiK c2
   clear c2
   obtain rfl := Option.some.inj H
   go_wp2
   go_ret
   exact ⟨by first | rfl | (simp [aT, aU] <;> rfl) | (simp [*, aT, aU] <;> rfl), by repeat (first | (with_reducible first | exact HB.out | apply ak | apply au | apply aC) | exact HB.out)⟩
def span_Check.f (k : Nat) (l0 : List (dP)) : Option (Int) := if (l0.length : Int) > 1024 then (some 12) else ((span_right.f k l0).bind fun dV => (if dV = true then (some 0) else (some 20)))
set_option maxHeartbeats 8000000 in
set_option maxRecDepth 100000 in
theorem span_Check.calls (k : Nat) (A0 : Option Addr) (c0 : Nat) (l0 : List (dP)) (r : Int) (w : World) (hr0 : Kd.C jE w A0 l0.length l0) (hc0 : l0.length ≤ c0) (h : span_Check.f k l0 = some r) :
  Calls Try.prog 164 #[.slice A0 l0.length c0] w fun e w' => e = .returned (.int .i64 r) ∧ Below w.heap.size w w' := by
 have HR0 := ah hr0
 have tK := ah hc0
 clear hr0 hc0
 have HB := ah (Below.refl w.heap.size w)
 have H : (if (l0.length : Int) > 1024 then (some 12) else ((span_right.f k l0).bind fun dV => (if dV = true then (some 0) else (some 20)))) = some r := h
 clear h
 by_cases c2 : (l0.length : Int) > 1024
 ·rw [if_pos c2] at H
  have c2b0 : decide (1024 < (l0.length : Int)) = true := aiJ c2
  have c2b1 : decide (1024 < l0.length) = true := aiJ (by omega)
  clear c2
  obtain rfl := Option.some.inj H
  go_enter Try.func164, Try.ntmps164
  go_wp2
  go_ret
  exact ⟨by first | rfl | (simp [aT, aU] <;> rfl) | (simp [*, aT, aU] <;> rfl), by repeat (first | (with_reducible first | exact HB.out | apply ak | apply au | apply aC) | exact HB.out)⟩
 rw [if_neg c2] at H
 have c2b0 : decide (1024 < (l0.length : Int)) = false := aiK c2
 have c2b1 : decide (1024 < l0.length) = false := aiK (by omega)
 clear c2
 replace H := Option.bind_eq_some_iff.mp H
 obtain ⟨dV, IG, H⟩ := H
 replace H : (if dV = true then (some 0) else (some 20)) = some r := H
 have A3 := ah IG
 clear IG
 by_cases c4 : dV = true
 ·subst c4
  have H1 : (some 0) = some r := by rw [if_pos rfl] at H; exact H
  clear H
  have H := H1
  clear H1
  obtain rfl := Option.some.inj H
  go_enter Try.func164, Try.ntmps164
  go_wp2_with (first | ((with_reducible refine bH (f := 178) rfl ?_); refine eH (some 9) Try.func178 #[.slice A0 l0.length c0] ?_; (with_reducible refine (span_right.calls k _ _ l0 true _ ?dw ?dA A3.out).mono ?_); (case dw => exact Kd.jT HR0.out); (case dA => exact tK.out); rintro e w5 ⟨rfl, hb⟩; refine ⟨_, rfl, ?_⟩; replace HB := ah (aW (aX HB.out) hb); (try clear hb); (try clear hb2); (try clear hk); (try clear hi); clear A3))
  go_ret
  exact ⟨by first | rfl | (simp [aT, aU] <;> rfl) | (simp [*, aT, aU] <;> rfl), by repeat (first | (with_reducible first | exact HB.out | apply ak | apply au | apply aC) | exact HB.out)⟩
 replace c4 := Bool.eq_false_iff.mpr c4
 subst c4
 have H1 : (some 20) = some r := by rw [if_neg (show ¬ (false = true) by decide)] at H; exact H
 clear H
 have H := H1
 clear H1
 obtain rfl := Option.some.inj H
 go_enter Try.func164, Try.ntmps164
 go_wp2_with (first | ((with_reducible refine bH (f := 178) rfl ?_); refine eH (some 9) Try.func178 #[.slice A0 l0.length c0] ?_; (with_reducible refine (span_right.calls k _ _ l0 false _ ?dw ?dA A3.out).mono ?_); (case dw => exact Kd.jT HR0.out); (case dA => exact tK.out); rintro e w6 ⟨rfl, hb⟩; refine ⟨_, rfl, ?_⟩; replace HB := ah (aW (aX HB.out) hb); (try clear hb); (try clear hb2); (try clear hk); (try clear hi); clear A3))
 go_ret
 exact ⟨by first | rfl | (simp [aT, aU] <;> rfl) | (simp [*, aT, aU] <;> rfl), by repeat (first | (with_reducible first | exact HB.out | apply ak | apply au | apply aC) | exact HB.out)⟩
def span_Count.l0 : Nat → Int → List (dP) → Int → Int → Option (Int)
 | 0, _, _, _, _ => none
 | k + 1, x3, x9, x10, x11 => if x11 < x10 then (if 0 ≤ x11 then (if x11 < (x9.length : Int) then (span_Count.l0 k (wrap64 (x3 + ((bf x9 x11).f1))) x9 x10 (wrap64 (x11 + 1))) else (none)) else (none)) else (some x3)
def span_Count.f (k : Nat) (l0 : List (dP)) : Option (Int) := (span_Check.f k l0).bind fun dV => (if dV = 0 then (span_Count.l0 k 0 l0 (l0.length : Int) 0) else (some 0))
set_option maxHeartbeats 8000000 in
set_option maxRecDepth 100000 in
theorem span_Count.calls (k : Nat) (A0 : Option Addr) (c0 : Nat) (l0 : List (dP)) (r : Int) (w : World) (hr0 : Kd.C jE w A0 l0.length l0) (hc0 : l0.length ≤ c0) (h : span_Count.f k l0 = some r) :
  Calls Try.prog 165 #[.slice A0 l0.length c0] w fun e w' => e = .returned (.int .i64 r) ∧ Below w.heap.size w w' := by
 have La := Try.underlying113
 have HR0 := ah hr0
 have tK := ah hc0
 clear hr0 hc0
 have HB := ah (Below.refl w.heap.size w)
 have H : ((span_Check.f k l0).bind fun dV => (if dV = 0 then (span_Count.l0 k 0 l0 (l0.length : Int) 0) else (some 0))) = some r := h
 clear h
 replace H := Option.bind_eq_some_iff.mp H
 obtain ⟨dV, sV, H⟩ := H
 replace H : (if dV = 0 then (span_Count.l0 k 0 l0 (l0.length : Int) 0) else (some 0)) = some r := H
 have A2 := ah sV
 clear sV
 by_cases c3 : dV = 0
 ·rw [if_pos c3] at H
  have c3b0 : (dV == 0) = true := beq_iff_eq.mpr c3
  have c3b1 : (dV != 0) = false := bne_eq_false_iff_eq.mpr c3
  clear c3
  have H' := ah H
  clear H
  go_enter Try.func165, Try.ntmps165
  go_wp2_with (first | ((with_reducible refine bH (f := 164) rfl ?_); refine eH (some 7) Try.func164 #[.slice A0 l0.length c0] ?_; (with_reducible refine (span_Check.calls k _ _ l0 dV _ ?dw ?dA A2.out).mono ?_); (case dw => exact Kd.jT HR0.out); (case dA => exact tK.out); rintro e w4 ⟨rfl, hb⟩; refine ⟨_, rfl, ?_⟩; replace HB := ah (aW (aX HB.out) hb); (try clear hb); (try clear hb2); (try clear hk); (try clear hi); clear A2))
  go_loopg [3, 11] k (fun kq v3 v11 w' => ∃ (fG : Int) (gU : Int), v3 = .int .i64 fG ∧ v11 = .int .i64 gU ∧ aj (span_Count.l0 kq fG l0 (l0.length : Int) gU = some r) ∧ aj (kq ≤ k) ∧ aj (Below w.heap.size w w'))
  case atStart => exact ⟨(0), (0), (by first | rfl | (simp; done) | (simp [*]; done)), (by first | rfl | (simp; done) | (simp [*]; done)), H', ⟨Nat.le_refl _⟩, ⟨by repeat (first | (with_reducible first | exact HB.out | apply ak | apply au | apply aC) | exact HB.out)⟩⟩
  case round =>
   clear H'
   try clear c1
   try clear p2
   try clear c3
   try clear c3b0
   try clear c3b1
   obtain ⟨fG, gU, rfl, rfl, HA, jf, HB⟩ := hrel
   cases gk with
   | zero => exact absurd HA.out (by simp [span_Count.l0])
   | succ k1 =>
    have H := HA.out
    clear HA
    simp only [span_Count.l0] at H
    by_cases c5 : gU < (l0.length : Int)
    ·rw [if_pos c5] at H
     have c5b0 : decide (gU < (l0.length : Int)) = true := aiJ c5
     clear c5
     by_cases c6 : 0 ≤ gU
     ·rw [if_pos c6] at H
      have c6b0 : decide (0 ≤ gU) = true := aiJ c6
      clear c6
      by_cases c7 : gU < (l0.length : Int)
      ·rw [if_pos c7] at H
       have c7b0 : decide (gU < (l0.length : Int)) = true := aiJ c7
       clear c7
       have H' := ah H
       clear H
       have lu : 0 ≤ (gU : Int) := aiI (by assumption)
       have lC : gU < (l0.length : Int) := aiI (by assumption)
       obtain ⟨qW, uo, kQ, oJ⟩ := pU HR0.out gU lu lC
       cases uo
       replace kQ := (HB.out.cell (World.block_lt_of_cell? w _ kQ)).trans kQ
       replace oJ := (HB.out.cell (World.block_lt_of_cell? w _ oJ)).trans oJ
       replace lu := eq_true lu
       replace lC := eq_true lC
       go_wp2_with (first | ((with_reducible refine fJ (N := 5) rfl ?_); refine eU ?hg (N := 5) ?hd (cs := #[.int .i64 0, .int .i64 0]) (t := 113) ?hr ?_; (case hd => rfl); (case hg => rfl); (case hr => first | (go_simp; done) | (go_simp; rfl)); intro WV hg w8 hbox hb; have WW := ah (hbox); have ae9 := ah ((by rw [hg]; exact (aI (aX HB.out)) : w.heap.size ≤ WV)); have ZG := ah ((by rw [hg]; exact (aI (aX HB.out)) : w.heap.size ≤ WV)); replace HB := ah (aW (aX HB.out) hb); clear hb hbox hg; have sS := ay WW.out; have sU := aG WW.out))
       go_roundg k1
       case measure => have := jf.out; omega
       case rel => exact ⟨(wrap64 (fG + ((bf l0 gU).f1))), (wrap64 (gU + 1)), (by first | rfl | (simp; done) | (simp [*]; done)), (by first | rfl | (simp; done) | (simp [*]; done)), H', ⟨by have := jf.out; omega⟩, ⟨by repeat (first | (with_reducible first | exact HB.out | apply ak | apply au | apply aC | refine aA ?_ ZG.out) | exact HB.out)⟩⟩
      rw [if_neg c7] at H
      exact absurd H (by simp)
     rw [if_neg c6] at H
     exact absurd H (by simp)
    rw [if_neg c5] at H
    have c5b0 : decide (gU < (l0.length : Int)) = false := aiK c5
    clear c5
    obtain rfl := Option.some.inj H
    go_wp2
    go_ret
    exact ⟨by first | rfl | (simp [aT, aU] <;> rfl) | (simp [*, aT, aU] <;> rfl), by repeat (first | (with_reducible first | exact HB.out | apply ak | apply au | apply aC) | exact HB.out)⟩
 rw [if_neg c3] at H
 have c3b0 : (dV == 0) = false := beq_eq_false_iff_ne.mpr c3
 have c3b1 : (dV != 0) = true := bne_iff_ne.mpr c3
 obtain rfl := Option.some.inj H
 go_enter Try.func165, Try.ntmps165
 go_wp2_with (first | ((with_reducible refine bH (f := 164) rfl ?_); refine eH (some 7) Try.func164 #[.slice A0 l0.length c0] ?_; (with_reducible refine (span_Check.calls k _ _ l0 dV _ ?dw ?dA A2.out).mono ?_); (case dw => exact Kd.jT HR0.out); (case dA => exact tK.out); rintro e w10 ⟨rfl, hb⟩; refine ⟨_, rfl, ?_⟩; replace HB := ah (aW (aX HB.out) hb); (try clear hb); (try clear hb2); (try clear hk); (try clear hi); clear A2))
 go_ret
 exact ⟨by first | rfl | (simp [aT, aU] <;> rfl) | (simp [*, aT, aU] <;> rfl), by repeat (first | (with_reducible first | exact HB.out | apply ak | apply au | apply aC) | exact HB.out)⟩
mutual
def span_From.l0 : Nat → List Int → List (dP) → Int → List Int → Int → Int → Option ((List (dP)) × Int)
 | 0, _, _, _, _, _, _ => none
 | k + 1, x0, x4, x5, x8, x9, x10 => if x10 < x9 then (if 0 ≤ x10 then (if x10 < (x8.length : Int) then ((span_in.f (rd x8 x10)).bind fun eP => (if eP = true then (if x10 > 0 then (span_From.j1 k x0 x4 x5 x10 (rd x8 x10) x8 x9 x10 (decide ((rd x8 x10) < x5))) else (span_From.j1 k x0 x4 x5 x10 (rd x8 x10) x8 x9 x10 false)) else (span_From.j1 k x0 x4 x5 x10 (rd x8 x10) x8 x9 x10 true))) else (none)) else (none)) else (if (x0.length : Int) > 4096 then (some (([] : List (dP)), 12)) else (if (x4.length : Int) > 1024 then (some (([] : List (dP)), 12)) else (some (x4, 0))))
def span_From.j1 : Nat → List Int → List (dP) → Int → Int → Int → List Int → Int → Int → Bool → Option ((List (dP)) × Int)
 | 0, _, _, _, _, _, _, _, _, _ => none
 | k + 1, x0, x4, x5, x6, x7, x8, x9, x10, Vp => if Vp = true then (some (([] : List (dP)), 11)) else (if x6 = 0 then (if x4.length < 8796093022208 then ((some (x4 ++ [(⟨wrap64 (x7 - x5), 0⟩ : dP)] : List (dP))).bind fun gV => (if 0 ≤ (wrap64 ((gV.length : Int) - 1)) then (if (wrap64 ((gV.length : Int) - 1)) < (gV.length : Int) then (span_From.l0 k x0 (gV.set ((wrap64 ((gV.length : Int) - 1)) : Int).toNat (⟨(bf gV (wrap64 ((gV.length : Int) - 1))).f0, wrap64 (((bf gV (wrap64 ((gV.length : Int) - 1))).f1) + 1)⟩ : dP)) (wrap64 (x7 + 1)) x8 x9 (wrap64 (x10 + 1))) else (none)) else (none))) else (none)) else (if x7 > x5 then (if x4.length < 8796093022208 then ((some (x4 ++ [(⟨wrap64 (x7 - x5), 0⟩ : dP)] : List (dP))).bind fun jB => (if 0 ≤ (wrap64 ((jB.length : Int) - 1)) then (if (wrap64 ((jB.length : Int) - 1)) < (jB.length : Int) then (span_From.l0 k x0 (jB.set ((wrap64 ((jB.length : Int) - 1)) : Int).toNat (⟨(bf jB (wrap64 ((jB.length : Int) - 1))).f0, wrap64 (((bf jB (wrap64 ((jB.length : Int) - 1))).f1) + 1)⟩ : dP)) (wrap64 (x7 + 1)) x8 x9 (wrap64 (x10 + 1))) else (none)) else (none))) else (none)) else (if 0 ≤ (wrap64 ((x4.length : Int) - 1)) then (if (wrap64 ((x4.length : Int) - 1)) < (x4.length : Int) then (span_From.l0 k x0 (x4.set ((wrap64 ((x4.length : Int) - 1)) : Int).toNat (⟨(bf x4 (wrap64 ((x4.length : Int) - 1))).f0, wrap64 (((bf x4 (wrap64 ((x4.length : Int) - 1))).f1) + 1)⟩ : dP)) (wrap64 (x7 + 1)) x8 x9 (wrap64 (x10 + 1))) else (none)) else (none))))
end
def span_From.f (k : Nat) (l0 : List Int) : Option ((List (dP)) × Int) := span_From.l0 k l0 ([] : List (dP)) 0 l0 (l0.length : Int) 0
set_option maxHeartbeats 8000000 in
set_option maxRecDepth 100000 in
theorem span_From.calls (k : Nat) (A0 : Option Addr) (c0 : Nat) (l0 : List Int) (r1 : List (dP)) (r2 : Int) (w : World) (hr0 : Kd.C (Kd.int .i64) w A0 l0.length l0) (hc0 : l0.length ≤ c0) (h : span_From.f k l0 = some (r1, r2)) :
  Calls Try.prog 172 #[.slice A0 l0.length c0] w fun e w' => ∃ lY : Value, e = .returned (.tuple #[lY, .int .i64 r2]) ∧ Kd.R jE 113 w' w.heap.size (fun _ => True) lY r1 ∧ Below w.heap.size w w' := by
 have La := Try.underlying113
 have HR0 := ah hr0
 have tK := ah hc0
 clear hr0 hc0
 have HB := ah (Below.refl w.heap.size w)
 have H : (span_From.l0 k l0 ([] : List (dP)) 0 l0 (l0.length : Int) 0) = some (r1, r2) := h
 clear h
 have H' := ah H
 clear H
 go_enter Try.func172, Try.ntmps172
 go_wp2
 go_loopg [4, 5, 10] k (fun kq v4 v5 v10 w' => ∃ (dM : List (dP)) (bF : Int) (dG : Int), v5 = .int .i64 bF ∧ v10 = .int .i64 dG ∧ aj (span_From.l0 kq l0 dM bF l0 (l0.length : Int) dG = some (r1, r2)) ∧ aj (kq ≤ k) ∧ aj (Kd.R jE 113 w' w.heap.size (fun _ => True) v4 dM) ∧ aj (Below w.heap.size w w'))
 case atStart => exact ⟨(([] : List (dP))), (0), (0), (by first | rfl | (simp; done) | (simp [*]; done)), (by first | rfl | (simp; done) | (simp [*]; done)), H', ⟨Nat.le_refl _⟩, ⟨by first | exact Kd.dY _ _ _ _ _ | exact Kd.gI _ _ _ _ _ | exact Kd.gJ _ _ _ _ _ | exact Kd.gB _ _ _ _ _ | exact Kd.gG _ _ _ _ _⟩, ⟨by repeat (first | (with_reducible first | exact HB.out | apply ak | apply au | apply aC) | exact HB.out)⟩⟩
 case round =>
  clear H'
  try clear c1
  obtain ⟨dM, bF, dG, rfl, rfl, HA, jf, HO_4, HB⟩ := hrel
  cases gk with
  | zero => exact absurd HA.out (by simp [span_From.l0])
  | succ k1 =>
   have H := HA.out
   clear HA
   simp only [span_From.l0] at H
   by_cases c2 : dG < (l0.length : Int)
   ·rw [if_pos c2] at H
    have c2b0 : decide (dG < (l0.length : Int)) = true := aiJ c2
    clear c2
    by_cases c3 : 0 ≤ dG
    ·rw [if_pos c3] at H
     have c3b0 : decide (0 ≤ dG) = true := aiJ c3
     clear c3
     by_cases c4 : dG < (l0.length : Int)
     ·rw [if_pos c4] at H
      have c4b0 : decide (dG < (l0.length : Int)) = true := aiJ c4
      clear c4
      have NH := ah H
      clear H
      have eX : 0 ≤ (dG : Int) := aiI (by assumption)
      have eY : dG < (l0.length : Int) := aiI (by assumption)
      obtain ⟨jU, jK, bP⟩ := Kd.fA HR0.out dG eX eY
      cases jK
      replace bP := (HB.out.cell (World.block_lt_of_cell? w _ bP)).trans bP
      replace eX := eq_true eX
      replace eY := eq_true eY
      go_upto_region 6 with (fail)
      go_cut [26] (fun v26 wc => ∃ (kq : Nat) (Po : Bool), v26 = .bool Po ∧ aj (span_From.j1 kq l0 dM bF dG (rd l0 dG) l0 (l0.length : Int) dG Po = some (r1, r2)) ∧ aj (kq ≤ k1) ∧ aj (Kd.R jE 113 wc w.heap.size (fun _ => True) u4 dM) ∧ aj (Below w.heap.size w wc))
      case first =>
       have H := NH.out
       clear NH
       replace H := Option.bind_eq_some_iff.mp H
       obtain ⟨eP, Pq, H⟩ := H
       replace H : (if eP = true then (if dG > 0 then (span_From.j1 k1 l0 dM bF dG (rd l0 dG) l0 (l0.length : Int) dG (decide ((rd l0 dG) < bF))) else (span_From.j1 k1 l0 dM bF dG (rd l0 dG) l0 (l0.length : Int) dG false)) else (span_From.j1 k1 l0 dM bF dG (rd l0 dG) l0 (l0.length : Int) dG true)) = some (r1, r2) := H
       have A6 := ah Pq
       clear Pq
       by_cases c7 : eP = true
       ·subst c7
        have H1 : (if dG > 0 then (span_From.j1 k1 l0 dM bF dG (rd l0 dG) l0 (l0.length : Int) dG (decide ((rd l0 dG) < bF))) else (span_From.j1 k1 l0 dM bF dG (rd l0 dG) l0 (l0.length : Int) dG false)) = some (r1, r2) := by rw [if_pos rfl] at H; exact H
        clear H
        have H := H1
        clear H1
        by_cases c8 : dG > 0
        ·rw [if_pos c8] at H
         have c8b0 : decide (0 < dG) = true := aiJ c8
         clear c8
         (first | rw [c8b0] | (simp only [dh, dF]; rw [c8b0]) | skip)
         have H' := ah H
         clear H
         go_wp2_with (first | ((with_reducible refine bH (f := 182) rfl ?_); refine eH (some 16) Try.func182 #[.int .i64 (rd l0 dG)] ?_; (with_reducible refine (span_in.calls (rd l0 dG) true _ A6.out).mono ?_); rintro e w' ⟨rfl, ⟨nd, rfl⟩⟩; refine ⟨_, rfl, ?_⟩; clear A6))
         go_meet
         case rel => exact ⟨_, (decide ((rd l0 dG) < bF)), (by first | rfl | (simp; done) | (simp [*]; done)), H', ⟨by have := jf.out; first | omega | exact Nat.le_refl _⟩, ⟨by (repeat with_reducible refine Kd.kJ ?_); exact HO_4.out⟩, ⟨by repeat (first | (with_reducible first | exact HB.out | apply ak | apply au | apply aC) | exact HB.out)⟩⟩
        rw [if_neg c8] at H
        have c8b0 : decide (0 < dG) = false := aiK c8
        clear c8
        (first | rw [c8b0] | (simp only [dh, dF]; rw [c8b0]) | skip)
        have H' := ah H
        clear H
        go_wp2_with (first | ((with_reducible refine bH (f := 182) rfl ?_); refine eH (some 16) Try.func182 #[.int .i64 (rd l0 dG)] ?_; (with_reducible refine (span_in.calls (rd l0 dG) true _ A6.out).mono ?_); rintro e w' ⟨rfl, ⟨nd, rfl⟩⟩; refine ⟨_, rfl, ?_⟩; clear A6))
        go_meet
        case rel => exact ⟨_, (false), (by first | rfl | (simp; done) | (simp [*]; done)), H', ⟨by have := jf.out; first | omega | exact Nat.le_refl _⟩, ⟨by (repeat with_reducible refine Kd.kJ ?_); exact HO_4.out⟩, ⟨by repeat (first | (with_reducible first | exact HB.out | apply ak | apply au | apply aC) | exact HB.out)⟩⟩
       replace c7 := Bool.eq_false_iff.mpr c7
       subst c7
       have H1 : (span_From.j1 k1 l0 dM bF dG (rd l0 dG) l0 (l0.length : Int) dG true) = some (r1, r2) := by rw [if_neg (show ¬ (false = true) by decide)] at H; exact H
       clear H
       have H := H1
       clear H1
       have H' := ah H
       clear H
       go_wp2_with (first | ((with_reducible refine bH (f := 182) rfl ?_); refine eH (some 16) Try.func182 #[.int .i64 (rd l0 dG)] ?_; (with_reducible refine (span_in.calls (rd l0 dG) false _ A6.out).mono ?_); rintro e w' ⟨rfl, ⟨nd, rfl⟩⟩; refine ⟨_, rfl, ?_⟩; clear A6))
       go_meet
       case rel => exact ⟨_, (true), (by first | rfl | (simp; done) | (simp [*]; done)), H', ⟨by have := jf.out; first | omega | exact Nat.le_refl _⟩, ⟨by (repeat with_reducible refine Kd.kJ ?_); exact HO_4.out⟩, ⟨by repeat (first | (with_reducible first | exact HB.out | apply ak | apply au | apply aC) | exact HB.out)⟩⟩
      case rest =>
       clear NH
       try clear c1
       try clear p1
       try clear q1
       try clear hx1
       try clear c2
       try clear c2b0
       try clear p2
       try clear c3
       try clear c3b0
       try clear c4
       try clear c4b0
       try clear c7
       try clear c8
       try clear c8b0
       try clear bP
       try clear eX
       try clear eY
       obtain ⟨kq, Po, rfl, HA, Jv, HO_4, HB⟩ := hcut
       cases kq with
       | zero => exact absurd HA.out (by simp [span_From.j1])
       | succ nJ =>
        have H := HA.out
        clear HA
        simp only [span_From.j1] at H
        by_cases c9 : Po = true
        ·subst c9
         have H1 : (some (([] : List (dP)), 11)) = some (r1, r2) := by rw [if_pos rfl] at H; exact H
         clear H
         have H := H1
         clear H1
         simp only [Option.some.injEq, Prod.mk.injEq] at H
         obtain ⟨rfl, rfl⟩ := H
         go_wp2
         go_ret2
         exact ⟨_, by first | rfl | (simp [aT, aU] <;> rfl) | (simp [*, aT, aU] <;> rfl), by first | exact Kd.dY _ _ _ _ _ | exact Kd.gI _ _ _ _ _ | exact Kd.gJ _ _ _ _ _ | exact Kd.gB _ _ _ _ _ | exact Kd.gG _ _ _ _ _, by repeat (first | (with_reducible first | exact HB.out | apply ak | apply au | apply aC) | exact HB.out)⟩
        replace c9 := Bool.eq_false_iff.mpr c9
        subst c9
        have H1 : (if dG = 0 then (if dM.length < 8796093022208 then ((some (dM ++ [(⟨wrap64 ((rd l0 dG) - bF), 0⟩ : dP)] : List (dP))).bind fun gV => (if 0 ≤ (wrap64 ((gV.length : Int) - 1)) then (if (wrap64 ((gV.length : Int) - 1)) < (gV.length : Int) then (span_From.l0 nJ l0 (gV.set ((wrap64 ((gV.length : Int) - 1)) : Int).toNat (⟨(bf gV (wrap64 ((gV.length : Int) - 1))).f0, wrap64 (((bf gV (wrap64 ((gV.length : Int) - 1))).f1) + 1)⟩ : dP)) (wrap64 ((rd l0 dG) + 1)) l0 (l0.length : Int) (wrap64 (dG + 1))) else (none)) else (none))) else (none)) else (if (rd l0 dG) > bF then (if dM.length < 8796093022208 then ((some (dM ++ [(⟨wrap64 ((rd l0 dG) - bF), 0⟩ : dP)] : List (dP))).bind fun jB => (if 0 ≤ (wrap64 ((jB.length : Int) - 1)) then (if (wrap64 ((jB.length : Int) - 1)) < (jB.length : Int) then (span_From.l0 nJ l0 (jB.set ((wrap64 ((jB.length : Int) - 1)) : Int).toNat (⟨(bf jB (wrap64 ((jB.length : Int) - 1))).f0, wrap64 (((bf jB (wrap64 ((jB.length : Int) - 1))).f1) + 1)⟩ : dP)) (wrap64 ((rd l0 dG) + 1)) l0 (l0.length : Int) (wrap64 (dG + 1))) else (none)) else (none))) else (none)) else (if 0 ≤ (wrap64 ((dM.length : Int) - 1)) then (if (wrap64 ((dM.length : Int) - 1)) < (dM.length : Int) then (span_From.l0 nJ l0 (dM.set ((wrap64 ((dM.length : Int) - 1)) : Int).toNat (⟨(bf dM (wrap64 ((dM.length : Int) - 1))).f0, wrap64 (((bf dM (wrap64 ((dM.length : Int) - 1))).f1) + 1)⟩ : dP)) (wrap64 ((rd l0 dG) + 1)) l0 (l0.length : Int) (wrap64 (dG + 1))) else (none)) else (none)))) = some (r1, r2) := by rw [if_neg (show ¬ (false = true) by decide)] at H; exact H
        clear H
        have H := H1
        clear H1
        by_cases c10 : dG = 0
        ·rw [if_pos c10] at H
         have c10b0 : (dG == 0) = true := beq_iff_eq.mpr c10
         have c10b1 : (dG != 0) = false := bne_eq_false_iff_eq.mpr c10
         clear c10
         by_cases c11 : dM.length < 8796093022208
         ·rw [if_pos c11] at H
          have ZH := ah c11
          clear c11
          obtain ⟨gV, kM⟩ : ∃ y_ : List (dP), y_ = (dM ++ [(⟨wrap64 ((rd l0 dG) - bF), 0⟩ : dP)]) := ⟨_, rfl⟩
          replace H : (if 0 ≤ (wrap64 ((gV.length : Int) - 1)) then (if (wrap64 ((gV.length : Int) - 1)) < (gV.length : Int) then (span_From.l0 nJ l0 (gV.set ((wrap64 ((gV.length : Int) - 1)) : Int).toNat (⟨(bf gV (wrap64 ((gV.length : Int) - 1))).f0, wrap64 (((bf gV (wrap64 ((gV.length : Int) - 1))).f1) + 1)⟩ : dP)) (wrap64 ((rd l0 dG) + 1)) l0 (l0.length : Int) (wrap64 (dG + 1))) else (none)) else (none)) = some (r1, r2) := by first | (rw [kM]; with_reducible exact H) | (have jm := (Option.bind_some _ _).symm.trans H; rw [kM]; with_reducible exact jm) | (have jm := (Option.bind_some _ _).symm.trans H; with_reducible exact jm) | with_reducible exact H | (rw [kM]; exact H) | exact H
          have su := ah kM
          clear kM
          obtain ⟨nK, SG⟩ : ∃ j_ : Int, (wrap64 ((gV.length : Int) - 1)) = j_ := ⟨_, rfl⟩
          replace H : (if 0 ≤ (nK) then (if (nK) < (gV.length : Int) then (span_From.l0 nJ l0 (gV.set ((nK) : Int).toNat (⟨(bf gV (nK)).f0, wrap64 (((bf gV (nK)).f1) + 1)⟩ : dP)) (wrap64 ((rd l0 dG) + 1)) l0 (l0.length : Int) (wrap64 (dG + 1))) else (none)) else (none)) = some (r1, r2) := by first | (rw [SG] at H; exact H) | (simp only [SG] at H ⊢; exact H)
          have hji12w : (IntKind.i64.wrap ((gV.length : Int) - 1)) = nK := (dh _).trans SG
          by_cases c13 : 0 ≤ (nK)
          ·rw [if_pos c13] at H
           have c13b0 : decide (0 ≤ (nK)) = true := aiJ c13
           clear c13
           by_cases c14 : (nK) < (gV.length : Int)
           ·rw [if_pos c14] at H
            have c14b0 : decide ((nK) < (gV.length : Int)) = true := aiJ c14
            clear c14
            obtain ⟨Ej, nR⟩ : ∃ y_ : List (dP), y_ = (gV.set ((nK) : Int).toNat (⟨(bf gV (nK)).f0, wrap64 (((bf gV (nK)).f1) + 1)⟩ : dP)) := ⟨_, rfl⟩
            replace H : (span_From.l0 nJ l0 Ej (wrap64 ((rd l0 dG) + 1)) l0 (l0.length : Int) (wrap64 (dG + 1))) = some (r1, r2) := by first | (rw [nR]; with_reducible exact H) | (have jm := (Option.bind_some _ _).symm.trans H; rw [nR]; with_reducible exact jm) | (have jm := (Option.bind_some _ _).symm.trans H; with_reducible exact jm) | with_reducible exact H | (rw [nR]; exact H) | exact H
            have EZ := ah nR
            clear nR
            have H' := ah H
            clear H
            go_wp2_with (first | ((with_reducible refine dZ (b := .append) (xs := #[.tmp 34, .tmp 39]) rfl ?_); (try (refine uj (by rfl) ?_; dsimp only)); at_builtin; refine Kd.iP jE (w0 := w) w.heap.size rfl (.tmp 34) (.tmp 39) 26 113 (.agg #[(.int .i64 0), (.int .i64 0)]) 16 rfl Try.underlying26 Js rfl (by decide) (by omega) u4 dM (⟨wrap64 ((rd l0 dG) - bF), 0⟩ : dP) [.int .i64 (wrap64 ((rd l0 dG) - bF)), .int .i64 0] (fun _ => True) (fun _ => False) rfl rfl ?aP (fun _ hk => hk.elim) ?aF ?aO ?aB ?aS ?aL ?_; (case aP => exact um _ _ _ (⟨wrap64 ((rd l0 dG) - bF), 0⟩ : dP)); (case aB => exact (aX HB.out)); (case aF => exact (fun _ _ => trivial)); (case aO => exact (Kd.fB HO_4.out)); (case aS => exact (aI (aX HB.out))); (case aL => have := ZH.out; omega); intro yJ w16 ho hb hg hat; rw [← su.out] at ho; have eF := ah (ho); replace HB := ah (hb); clear HO_4 ho hb hg hat; obtain ⟨XL, SH, SK⟩ := Kd.bY eF.out; subst SK; have xw : 0 ≤ ((nK) : Int) := aiI (by assumption); have xA : (nK) < (gV.length : Int) := aiI (by assumption); obtain ⟨Lc, Jz, qE, Vq⟩ := pU (Kd.bD eF.out).2.2 (nK) xw xA; cases Jz; replace xw := eq_true xw; replace xA := eq_true xA; have p15 : 0 ≤ ((nK) : Int) := aiI (by assumption); have q15 : ((nK) : Int) < ((gV.length : Int) : Int) := aiI (by assumption); obtain ⟨Ld, Le, Em, ZI, ac4, agA, ZJ⟩ := Kd.qw eF.out (by omega); (first | cases Em | (injection Em with ea_ en_ ec_; (first | subst ea_ | (injection ea_ with ea_; subst ea_)); subst ec_; clear en_)); have ac5 := ah ZI; have agB := ah ZJ; clear ZI ac4 ZJ; (first | simp only [add_plain] at qE | skip); (first | simp only [add_plain] at Vq | skip); obtain ⟨agC, ZK, ZL, SL, SN⟩ := Kd.jJ eF.out KU ((nK) : Int) p15 q15; obtain rfl := ru ZL; have ac6 : w16.cell? ⟨Ld, ((nK) : Int).toNat * 2, none⟩ = some (.int .i64 ((bf gV (nK)).f0)) := SL 0 _ rfl; have ac7 : w16.cell? ⟨Ld, ((nK) : Int).toNat * 2 + 1, none⟩ = some (.int .i64 ((bf gV (nK)).f1)) := SL 1 _ rfl; have ac8 : w16.frozen? ⟨Ld, ((nK) : Int).toNat * 2, none⟩ = false := SN 0; have ac9 : w16.frozen? ⟨Ld, ((nK) : Int).toNat * 2 + 1, none⟩ = false := SN 1; clear ZK SL SN ZL; replace p15 := eq_true p15; replace q15 := eq_true q15; have ZM := ah (show Kd.R jE 113 w16 w.heap.size (fun _ => True) (.slice (some ⟨Ld, 0, none⟩) gV.length SH) gV from (Kd.fB eF.out)); obtain ⟨agD, WX, ZN, SQ, WY⟩ := Kd.jJ ZM.out KU ((nK) : Int) (aiI (by assumption)) (by have h_ : ((nK) : Int) < ((gV.length : Int) : Int) := aiI (by assumption); first | exact h_ | (have e_ := (Kd.bD eF.out).1; omega) | simpa using h_); obtain rfl := ru ZN; have XM := Kd.qy ZM.out ((nK) : Int) (aiI (by assumption)) (by have h_ : ((nK) : Int) < ((gV.length : Int) : Int) := aiI (by assumption); first | exact h_ | (have e_ := (Kd.bD eF.out).1; omega) | simpa using h_) (seg := [.int .i64 (wrap64 (((bf gV (nK)).f1) + 1))]) (j := 1) WX SQ (show 2 ≤ 2 from by decide) (x' := (⟨(bf gV (nK)).f0, wrap64 (((bf gV (nK)).f1) + 1)⟩ : dP)) (um _ _ _ (⟨(bf gV (nK)).f0, wrap64 (((bf gV (nK)).f1) + 1)⟩ : dP) ) (fun _ hk => hk); have XO := SQ 1 _ rfl; (try simp only [show (jE).sz = 2 from rfl, Nat.mul_one, Nat.add_zero] at XO); have XP := WY 1; (try simp only [show (jE).sz = 2 from rfl, Nat.mul_one, Nat.add_zero] at XP); clear WX SQ WY ZN) | ((with_reducible refine kU (t := 3) (p := 50) rfl ?_); refine ku (t := 3) (p := 50) (v := ?vo_w19) (w1 := (w16.setCell ⟨Ld, ((nK) : Int).toNat * 2 + 1, none⟩ (.int .i64 (wrap64 (((bf gV (nK)).f1) + 1))))) ?hg ?ho ?hn ?hr ?_; (case ho => rfl); (case hg => rfl); (case hn => rfl); (case hr => first | (go_simp; done) | (go_simp; rfl)); intro Ak hw; have hg : w16.grownBy Ak (some Ld) := (by rw [hw]; exact XM.2); have hp_ : Kd.R jE 113 Ak w.heap.size (fun _ => True) (.slice (some ⟨Ld, 0, none⟩) gV.length SH) Ej := (by rw [hw, EZ.out]; exact XM.1); clear XM; replace eF := ah (hp_); replace HB := ah ((by rw [hw]; exact aA (HB.out) ac5.out : Below w.heap.size w Ak)); clear hg hw hp_))
            go_roundg nJ
            case measure => have := jf.out; have := Jv.out; omega
            case rel => exact ⟨(Ej), (wrap64 ((rd l0 dG) + 1)), (wrap64 (dG + 1)), (by first | rfl | (simp; done) | (simp [*]; done)), (by first | rfl | (simp; done) | (simp [*]; done)), H', ⟨by have := jf.out; have := Jv.out; omega⟩, ⟨by (repeat with_reducible refine Kd.kJ ?_); exact eF.out⟩, ⟨by repeat (first | (with_reducible first | exact HB.out | apply ak | apply au | apply aC) | exact HB.out)⟩⟩
           rw [if_neg c14] at H
           exact absurd H (by simp)
          rw [if_neg c13] at H
          exact absurd H (by simp)
         rw [if_neg c11] at H
         exact absurd H (by simp)
        rw [if_neg c10] at H
        have c10b0 : (dG == 0) = false := beq_eq_false_iff_ne.mpr c10
        have c10b1 : (dG != 0) = true := bne_iff_ne.mpr c10
        by_cases c20 : (rd l0 dG) > bF
        ·rw [if_pos c20] at H
         have c20b0 : decide (bF < (rd l0 dG)) = true := aiJ c20
         clear c20
         by_cases c21 : dM.length < 8796093022208
         ·rw [if_pos c21] at H
          have ZO := ah c21
          clear c21
          obtain ⟨jB, nS⟩ : ∃ y_ : List (dP), y_ = (dM ++ [(⟨wrap64 ((rd l0 dG) - bF), 0⟩ : dP)]) := ⟨_, rfl⟩
          replace H : (if 0 ≤ (wrap64 ((jB.length : Int) - 1)) then (if (wrap64 ((jB.length : Int) - 1)) < (jB.length : Int) then (span_From.l0 nJ l0 (jB.set ((wrap64 ((jB.length : Int) - 1)) : Int).toNat (⟨(bf jB (wrap64 ((jB.length : Int) - 1))).f0, wrap64 (((bf jB (wrap64 ((jB.length : Int) - 1))).f1) + 1)⟩ : dP)) (wrap64 ((rd l0 dG) + 1)) l0 (l0.length : Int) (wrap64 (dG + 1))) else (none)) else (none)) = some (r1, r2) := by first | (rw [nS]; with_reducible exact H) | (have jm := (Option.bind_some _ _).symm.trans H; rw [nS]; with_reducible exact jm) | (have jm := (Option.bind_some _ _).symm.trans H; with_reducible exact jm) | with_reducible exact H | (rw [nS]; exact H) | exact H
          have wI := ah nS
          clear nS
          obtain ⟨nM, SS⟩ : ∃ j_ : Int, (wrap64 ((jB.length : Int) - 1)) = j_ := ⟨_, rfl⟩
          replace H : (if 0 ≤ (nM) then (if (nM) < (jB.length : Int) then (span_From.l0 nJ l0 (jB.set ((nM) : Int).toNat (⟨(bf jB (nM)).f0, wrap64 (((bf jB (nM)).f1) + 1)⟩ : dP)) (wrap64 ((rd l0 dG) + 1)) l0 (l0.length : Int) (wrap64 (dG + 1))) else (none)) else (none)) = some (r1, r2) := by first | (rw [SS] at H; exact H) | (simp only [SS] at H ⊢; exact H)
          have hji22w : (IntKind.i64.wrap ((jB.length : Int) - 1)) = nM := (dh _).trans SS
          by_cases c23 : 0 ≤ (nM)
          ·rw [if_pos c23] at H
           have c23b0 : decide (0 ≤ (nM)) = true := aiJ c23
           clear c23
           by_cases c24 : (nM) < (jB.length : Int)
           ·rw [if_pos c24] at H
            have c24b0 : decide ((nM) < (jB.length : Int)) = true := aiJ c24
            clear c24
            obtain ⟨y112, hy112⟩ : ∃ y_ : List (dP), y_ = (jB.set ((nM) : Int).toNat (⟨(bf jB (nM)).f0, wrap64 (((bf jB (nM)).f1) + 1)⟩ : dP)) := ⟨_, rfl⟩
            replace H : (span_From.l0 nJ l0 y112 (wrap64 ((rd l0 dG) + 1)) l0 (l0.length : Int) (wrap64 (dG + 1))) = some (r1, r2) := by first | (rw [hy112]; with_reducible exact H) | (have jm := (Option.bind_some _ _).symm.trans H; rw [hy112]; with_reducible exact jm) | (have jm := (Option.bind_some _ _).symm.trans H; with_reducible exact jm) | with_reducible exact H | (rw [hy112]; exact H) | exact H
            have Lh := ah hy112
            clear hy112
            have H' := ah H
            clear H
            go_wp2_with (first | ((with_reducible refine dZ (b := .append) (xs := #[.tmp 34, .tmp 39]) rfl ?_); (try (refine uj (by rfl) ?_; dsimp only)); at_builtin; refine Kd.iP jE (w0 := w) w.heap.size rfl (.tmp 34) (.tmp 39) 26 113 (.agg #[(.int .i64 0), (.int .i64 0)]) 16 rfl Try.underlying26 Js rfl (by decide) (by omega) u4 dM (⟨wrap64 ((rd l0 dG) - bF), 0⟩ : dP) [.int .i64 (wrap64 ((rd l0 dG) - bF)), .int .i64 0] (fun _ => True) (fun _ => False) rfl rfl ?aP (fun _ hk => hk.elim) ?aF ?aO ?aB ?aS ?aL ?_; (case aP => exact um _ _ _ (⟨wrap64 ((rd l0 dG) - bF), 0⟩ : dP)); (case aB => exact (aX HB.out)); (case aF => exact (fun _ _ => trivial)); (case aO => exact (Kd.fB HO_4.out)); (case aS => exact (aI (aX HB.out))); (case aL => have := ZO.out; omega); intro v109 SV ho hb hg hat; rw [← wI.out] at ho; have jV := ah (ho); replace HB := ah (hb); clear HO_4 ho hb hg hat; obtain ⟨ZP, SX, NI⟩ := Kd.bY jV.out; subst NI; have xB : 0 ≤ ((nM) : Int) := aiI (by assumption); have xC : (nM) < (jB.length : Int) := aiI (by assumption); obtain ⟨Lj, JA, lQ, Vr⟩ := pU (Kd.bD jV.out).2.2 (nM) xB xC; cases JA; replace xB := eq_true xB; replace xC := eq_true xC; have p25 : 0 ≤ ((nM) : Int) := aiI (by assumption); have q25 : ((nM) : Int) < ((jB.length : Int) : Int) := aiI (by assumption); obtain ⟨Ll, adb, Vs, ZQ, ade, agE, ZR⟩ := Kd.qw jV.out (by omega); (first | cases Vs | (injection Vs with ea_ en_ ec_; (first | subst ea_ | (injection ea_ with ea_; subst ea_)); subst ec_; clear en_)); have adf := ah ZQ; have agF := ah ZR; clear ZQ ade ZR; (first | simp only [add_plain] at lQ | skip); (first | simp only [add_plain] at Vr | skip); obtain ⟨agG, ZT, ZU, SY, S9⟩ := Kd.jJ jV.out KU ((nM) : Int) p25 q25; obtain rfl := ru ZU; have adg : SV.cell? ⟨Ll, ((nM) : Int).toNat * 2, none⟩ = some (.int .i64 ((bf jB (nM)).f0)) := SY 0 _ rfl; have adh : SV.cell? ⟨Ll, ((nM) : Int).toNat * 2 + 1, none⟩ = some (.int .i64 ((bf jB (nM)).f1)) := SY 1 _ rfl; have adi : SV.frozen? ⟨Ll, ((nM) : Int).toNat * 2, none⟩ = false := S9 0; have adk : SV.frozen? ⟨Ll, ((nM) : Int).toNat * 2 + 1, none⟩ = false := S9 1; clear ZT SY S9 ZU; replace p25 := eq_true p25; replace q25 := eq_true q25; have ZV := ah (show Kd.R jE 113 SV w.heap.size (fun _ => True) (.slice (some ⟨Ll, 0, none⟩) jB.length SX) jB from (Kd.fB jV.out)); obtain ⟨agH, W9, ZW, Tc, Xa⟩ := Kd.jJ ZV.out KU ((nM) : Int) (aiI (by assumption)) (by have h_ : ((nM) : Int) < ((jB.length : Int) : Int) := aiI (by assumption); first | exact h_ | (have e_ := (Kd.bD jV.out).1; omega) | simpa using h_); obtain rfl := ru ZW; have XQ := Kd.qy ZV.out ((nM) : Int) (aiI (by assumption)) (by have h_ : ((nM) : Int) < ((jB.length : Int) : Int) := aiI (by assumption); first | exact h_ | (have e_ := (Kd.bD jV.out).1; omega) | simpa using h_) (seg := [.int .i64 (wrap64 (((bf jB (nM)).f1) + 1))]) (j := 1) W9 Tc (show 2 ≤ 2 from by decide) (x' := (⟨(bf jB (nM)).f0, wrap64 (((bf jB (nM)).f1) + 1)⟩ : dP)) (um _ _ _ (⟨(bf jB (nM)).f0, wrap64 (((bf jB (nM)).f1) + 1)⟩ : dP) ) (fun _ hk => hk); have XR := Tc 1 _ rfl; (try simp only [show (jE).sz = 2 from rfl, Nat.mul_one, Nat.add_zero] at XR); have XT := Xa 1; (try simp only [show (jE).sz = 2 from rfl, Nat.mul_one, Nat.add_zero] at XT); clear W9 Tc Xa ZW) | ((with_reducible refine kU (t := 3) (p := 50) rfl ?_); refine ku (t := 3) (p := 50) (v := ?vo_w29) (w1 := (SV.setCell ⟨Ll, ((nM) : Int).toNat * 2 + 1, none⟩ (.int .i64 (wrap64 (((bf jB (nM)).f1) + 1))))) ?hg ?ho ?hn ?hr ?_; (case ho => rfl); (case hg => rfl); (case hn => rfl); (case hr => first | (go_simp; done) | (go_simp; rfl)); intro Vt hw; have hg : SV.grownBy Vt (some Ll) := (by rw [hw]; exact XQ.2); have hp_ : Kd.R jE 113 Vt w.heap.size (fun _ => True) (.slice (some ⟨Ll, 0, none⟩) jB.length SX) y112 := (by rw [hw, Lh.out]; exact XQ.1); clear XQ; replace jV := ah (hp_); replace HB := ah ((by rw [hw]; exact aA (HB.out) adf.out : Below w.heap.size w Vt)); clear hg hw hp_))
            go_roundg nJ
            case measure => have := jf.out; have := Jv.out; omega
            case rel => exact ⟨(y112), (wrap64 ((rd l0 dG) + 1)), (wrap64 (dG + 1)), (by first | rfl | (simp; done) | (simp [*]; done)), (by first | rfl | (simp; done) | (simp [*]; done)), H', ⟨by have := jf.out; have := Jv.out; omega⟩, ⟨by (repeat with_reducible refine Kd.kJ ?_); exact jV.out⟩, ⟨by repeat (first | (with_reducible first | exact HB.out | apply ak | apply au | apply aC) | exact HB.out)⟩⟩
           rw [if_neg c24] at H
           exact absurd H (by simp)
          rw [if_neg c23] at H
          exact absurd H (by simp)
         rw [if_neg c21] at H
         exact absurd H (by simp)
        rw [if_neg c20] at H
        have c20b0 : decide (bF < (rd l0 dG)) = false := aiK c20
        clear c20
        obtain ⟨nN, Td⟩ : ∃ j_ : Int, (wrap64 ((dM.length : Int) - 1)) = j_ := ⟨_, rfl⟩
        replace H : (if 0 ≤ (nN) then (if (nN) < (dM.length : Int) then (span_From.l0 nJ l0 (dM.set ((nN) : Int).toNat (⟨(bf dM (nN)).f0, wrap64 (((bf dM (nN)).f1) + 1)⟩ : dP)) (wrap64 ((rd l0 dG) + 1)) l0 (l0.length : Int) (wrap64 (dG + 1))) else (none)) else (none)) = some (r1, r2) := by first | (rw [Td] at H; exact H) | (simp only [Td] at H ⊢; exact H)
        have hji30w : (IntKind.i64.wrap ((dM.length : Int) - 1)) = nN := (dh _).trans Td
        by_cases c31 : 0 ≤ (nN)
        ·rw [if_pos c31] at H
         have c31b0 : decide (0 ≤ (nN)) = true := aiJ c31
         clear c31
         by_cases c32 : (nN) < (dM.length : Int)
         ·rw [if_pos c32] at H
          have c32b0 : decide ((nN) < (dM.length : Int)) = true := aiJ c32
          clear c32
          obtain ⟨y114, hy114⟩ : ∃ y_ : List (dP), y_ = (dM.set ((nN) : Int).toNat (⟨(bf dM (nN)).f0, wrap64 (((bf dM (nN)).f1) + 1)⟩ : dP)) := ⟨_, rfl⟩
          replace H : (span_From.l0 nJ l0 y114 (wrap64 ((rd l0 dG) + 1)) l0 (l0.length : Int) (wrap64 (dG + 1))) = some (r1, r2) := by first | (rw [hy114]; with_reducible exact H) | (have jm := (Option.bind_some _ _).symm.trans H; rw [hy114]; with_reducible exact jm) | (have jm := (Option.bind_some _ _).symm.trans H; with_reducible exact jm) | with_reducible exact H | (rw [hy114]; exact H) | exact H
          have ZX := ah hy114
          clear hy114
          have H' := ah H
          clear H
          obtain ⟨ZY, Vu, Vw⟩ := Kd.bY HO_4.out
          subst Vw
          have mY : 0 ≤ ((nN) : Int) := aiI (by assumption)
          have mZ : (nN) < (dM.length : Int) := aiI (by assumption)
          obtain ⟨Bz, xE, rU, Vx⟩ := pU (Kd.bD HO_4.out).2.2 (nN) mY mZ
          cases xE
          replace mY := eq_true mY
          replace mZ := eq_true mZ
          have p33 : 0 ≤ ((nN) : Int) := aiI (by assumption)
          have q33 : ((nN) : Int) < ((dM.length : Int) : Int) := aiI (by assumption)
          obtain ⟨Lm, Z4, Vy, Z5, adn, agI, Z7⟩ := Kd.qw HO_4.out (by omega)
          (first | cases Vy | (injection Vy with ea_ en_ ec_; (first | subst ea_ | (injection ea_ with ea_; subst ea_)); subst ec_; clear en_))
          have ado := ah Z5
          have agJ := ah Z7
          clear Z5 adn Z7
          (first | simp only [add_plain] at rU | skip)
          (first | simp only [add_plain] at Vx | skip)
          obtain ⟨agK, Z8, Z9, Tf, Ti⟩ := Kd.jJ HO_4.out KU ((nN) : Int) p33 q33
          obtain rfl := ru Z9
          have adp : wc.cell? ⟨Lm, ((nN) : Int).toNat * 2, none⟩ = some (.int .i64 ((bf dM (nN)).f0)) := Tf 0 _ rfl
          have adq : wc.cell? ⟨Lm, ((nN) : Int).toNat * 2 + 1, none⟩ = some (.int .i64 ((bf dM (nN)).f1)) := Tf 1 _ rfl
          have adr : wc.frozen? ⟨Lm, ((nN) : Int).toNat * 2, none⟩ = false := Ti 0
          have ads : wc.frozen? ⟨Lm, ((nN) : Int).toNat * 2 + 1, none⟩ = false := Ti 1
          clear Z8 Tf Ti Z9
          replace p33 := eq_true p33
          replace q33 := eq_true q33
          have aac := ah (show Kd.R jE 113 wc w.heap.size (fun _ => True) (.slice (some ⟨Lm, 0, none⟩) dM.length Vu) dM from (Kd.fB HO_4.out))
          obtain ⟨agL, Xb, aad, Tj, Xc⟩ := Kd.jJ aac.out KU ((nN) : Int) (aiI (by assumption)) (by have h_ : ((nN) : Int) < ((dM.length : Int) : Int) := aiI (by assumption); first | exact h_ | (have e_ := (Kd.bD HO_4.out).1; omega) | simpa using h_)
          obtain rfl := ru aad
          have XU := Kd.qy aac.out ((nN) : Int) (aiI (by assumption)) (by have h_ : ((nN) : Int) < ((dM.length : Int) : Int) := aiI (by assumption); first | exact h_ | (have e_ := (Kd.bD HO_4.out).1; omega) | simpa using h_) (seg := [.int .i64 (wrap64 (((bf dM (nN)).f1) + 1))]) (j := 1) Xb Tj (show 2 ≤ 2 from by decide) (x' := (⟨(bf dM (nN)).f0, wrap64 (((bf dM (nN)).f1) + 1)⟩ : dP)) (um _ _ _ (⟨(bf dM (nN)).f0, wrap64 (((bf dM (nN)).f1) + 1)⟩ : dP) ) (fun _ hk => hk)
          have XV := Tj 1 _ rfl
          (try simp only [show (jE).sz = 2 from rfl, Nat.mul_one, Nat.add_zero] at XV)
          have XW := Xc 1
          (try simp only [show (jE).sz = 2 from rfl, Nat.mul_one, Nat.add_zero] at XW)
          clear Xb Tj Xc aad
          go_wp2_with (first | ((with_reducible refine kU (t := 3) (p := 50) rfl ?_); refine ku (t := 3) (p := 50) (v := ?vo_w36) (w1 := (wc.setCell ⟨Lm, ((nN) : Int).toNat * 2 + 1, none⟩ (.int .i64 (wrap64 (((bf dM (nN)).f1) + 1))))) ?hg ?ho ?hn ?hr ?_; (case ho => rfl); (case hg => rfl); (case hn => rfl); (case hr => first | (go_simp; done) | (go_simp; rfl)); intro w36 hw; have hg : wc.grownBy w36 (some Lm) := (by rw [hw]; exact XU.2); have hp_ : Kd.R jE 113 w36 w.heap.size (fun _ => True) (.slice (some ⟨Lm, 0, none⟩) dM.length Vu) y114 := (by rw [hw, ZX.out]; exact XU.1); clear XU; replace HO_4 := ah (hp_); replace HB := ah ((by rw [hw]; exact aA (HB.out) ado.out : Below w.heap.size w w36)); clear hg hw hp_))
          go_roundg nJ
          case measure => have := jf.out; have := Jv.out; omega
          case rel => exact ⟨(y114), (wrap64 ((rd l0 dG) + 1)), (wrap64 (dG + 1)), (by first | rfl | (simp; done) | (simp [*]; done)), (by first | rfl | (simp; done) | (simp [*]; done)), H', ⟨by have := jf.out; have := Jv.out; omega⟩, ⟨by (repeat with_reducible refine Kd.kJ ?_); exact HO_4.out⟩, ⟨by repeat (first | (with_reducible first | exact HB.out | apply ak | apply au | apply aC) | exact HB.out)⟩⟩
         rw [if_neg c32] at H
         exact absurd H (by simp)
        rw [if_neg c31] at H
        exact absurd H (by simp)
     rw [if_neg c4] at H
     exact absurd H (by simp)
    rw [if_neg c3] at H
    exact absurd H (by simp)
   rw [if_neg c2] at H
   have c2b0 : decide (dG < (l0.length : Int)) = false := aiK c2
   clear c2
   by_cases c37 : (l0.length : Int) > 4096
   ·rw [if_pos c37] at H
    have c37b0 : decide (4096 < (l0.length : Int)) = true := aiJ c37
    have c37b1 : decide (4096 < l0.length) = true := aiJ (by omega)
    clear c37
    simp only [Option.some.injEq, Prod.mk.injEq] at H
    obtain ⟨rfl, rfl⟩ := H
    go_wp2
    go_ret2
    exact ⟨_, by first | rfl | (simp [aT, aU] <;> rfl) | (simp [*, aT, aU] <;> rfl), by first | exact Kd.dY _ _ _ _ _ | exact Kd.gI _ _ _ _ _ | exact Kd.gJ _ _ _ _ _ | exact Kd.gB _ _ _ _ _ | exact Kd.gG _ _ _ _ _, by repeat (first | (with_reducible first | exact HB.out | apply ak | apply au | apply aC) | exact HB.out)⟩
   rw [if_neg c37] at H
   have c37b0 : decide (4096 < (l0.length : Int)) = false := aiK c37
   have c37b1 : decide (4096 < l0.length) = false := aiK (by omega)
   clear c37
   by_cases Qx : (dM.length : Int) > 1024
   ·rw [if_pos Qx] at H
    have c38b0 : decide (1024 < (dM.length : Int)) = true := aiJ Qx
    have c38b1 : decide (1024 < dM.length) = true := aiJ (by omega)
    clear Qx
    simp only [Option.some.injEq, Prod.mk.injEq] at H
    obtain ⟨rfl, rfl⟩ := H
    obtain ⟨agM, agN, adt⟩ := Kd.bY HO_4.out
    subst adt
    go_wp2
    go_ret2
    exact ⟨_, by first | rfl | (simp [aT, aU] <;> rfl) | (simp [*, aT, aU] <;> rfl), by first | exact Kd.dY _ _ _ _ _ | exact Kd.gI _ _ _ _ _ | exact Kd.gJ _ _ _ _ _ | exact Kd.gB _ _ _ _ _ | exact Kd.gG _ _ _ _ _, by repeat (first | (with_reducible first | exact HB.out | apply ak | apply au | apply aC) | exact HB.out)⟩
   rw [if_neg Qx] at H
   have c38b0 : decide (1024 < (dM.length : Int)) = false := aiK Qx
   have c38b1 : decide (1024 < dM.length) = false := aiK (by omega)
   clear Qx
   simp only [Option.some.injEq, Prod.mk.injEq] at H
   obtain ⟨rfl, rfl⟩ := H
   obtain ⟨agO, agP, adu⟩ := Kd.bY HO_4.out
   subst adu
   go_wp2
   go_ret2
   exact ⟨_, by first | rfl | (simp [aT, aU] <;> rfl) | (simp [*, aT, aU] <;> rfl), by (repeat with_reducible refine Kd.kJ ?_); exact HO_4.out, by repeat (first | (with_reducible first | exact HB.out | apply ak | apply au | apply aC) | exact HB.out)⟩
end Go.Proofs.Ytooiccpmngmapaa.P