/- ScaleFloats: the part that this text bears of the proof that the statement answers true for every input. No condition. -/
import Derived.Test.YtooiccpmngmapaaProg
import Derived.Below
import Derived.Deep.Draws
import Derived.Deep.AppendLies
import Derived.Maps.AppendAt
import Derived.OwnWalk
import Derived.Laws.BytesArg
import Derived.Laws.MakeOwn
import Derived.Laws.OwnMore
import Derived.Deep.OwnRows
import Derived.Tactics
import Derived.Lib.ConvBytes
import Derived.Laws.Slices
import Derived.WalkKit
import Derived.KernelRfl
import Derived.RowKit3
import Derived.Deep.LoopGhost
import Derived.Deep.QuietTactic
import Derived.BigQuiet
import Derived.WideLaws
import Derived.Deep.DeepCutAuto
import Derived.Deep.CutBlock
import Derived.Deep.RegionHeld3
import Derived.Laws.Rows
import Derived.Lib.AppendStr
import Derived.ArgAppend
import Derived.Laws.IdiomCopy
import Derived.OrdersHeld
import Derived.Laws.BitsLemmas
import Derived.RowKit
import Derived.Deep.Slices
import Derived.ChangeArms
import Derived.Shelf.Abstract
import Derived.WalkSpells
import Derived.Laws.StructEq
import Derived.Test.YtooiccpmngmapaaQScaleFloatsWWords
import Derived.Test.YtooiccpmngmapaaQScaleFloatsWLast
import Derived.Test.YtooiccpmngmapaaQScaleFloatsWTab
import Derived.Test.YtooiccpmngmapaaQScaleFloatsWFour
import Derived.Test.YtooiccpmngmapaaQScaleFloatsWQPut
import Derived.Test.YtooiccpmngmapaaQScaleFloatsWApart
import Derived.Test.YtooiccpmngmapaaQScaleFloatsWArr
import Derived.Test.YtooiccpmngmapaaQScaleFloatsWZeros
import Derived.Test.YtooiccpmngmapaaQScaleFloatsWFoot
import Derived.Test.YtooiccpmngmapaaQScaleFloatsWKept
import Derived.Test.YtooiccpmngmapaaQScaleFloatsWShare
import Derived.Test.YtooiccpmngmapaaQScaleFloatsWN
import Derived.Test.YtooiccpmngmapaaQScaleFloatsWFootNe
import Derived.Test.YtooiccpmngmapaaQScaleFloatsWAt
import Derived.Test.YtooiccpmngmapaaQScaleFloatsWEqStruct
import Derived.Test.YtooiccpmngmapaaQScaleFloatsWRepsOne
import Derived.Test.YtooiccpmngmapaaQScaleFloatsWInv
import Derived.Test.YtooiccpmngmapaaQScaleFloatsWInvWords
import Derived.Test.YtooiccpmngmapaaQScaleFloatsWGuard
import Derived.Test.YtooiccpmngmapaaQScaleFloatsWNEv
import Derived.Test.YtooiccpmngmapaaQScaleFloatsWMore
import Derived.Test.YtooiccpmngmapaaRows
set_option linter.unusedVariables false
set_option linter.unusedSimpArgs false
namespace Go.Proofs.Ytooiccpmngmapaa.P
open Go.RowKit Go.Proofs.YtooiccpmngmapaaW.PrintWords Go.Proofs.YtooiccpmngmapaaW.PrintLast Go.Proofs.YtooiccpmngmapaaW.PrintMore
attribute [local go_sem] iV iW jH jI gW gX iY iZ
def YI : Option Int → Value
 | none => .nilIface
 | some c => .iface 0 (.int .i64 c)
theorem aU : YI none = .nilIface := rfl
theorem aV (c : Int) : YI (some c) = .iface 0 (.int .i64 c) := rfl
theorem QH : (Try.prog.info? 2).map (fun i => (i.zero, i.size, i.bytes)) = some (some (.int .i64 0), 1, 8) := by kernel_rfl
theorem info3 : (Try.prog.info? 3).map (fun i => (i.zero, i.size, i.bytes)) = some (some (.int .i64 0), 1, 8) := by kernel_rfl
theorem info25 : (Try.prog.info? 25).map (fun i => (i.zero, i.size, i.bytes)) = some (some (.int .u64 0), 1, 8) := by kernel_rfl
theorem II : (Try.prog.info? 113).map (fun i => (i.zero, i.size, i.bytes)) = some (some (.agg #[(.int .i64 0), (.int .i64 0)]), 2, 16) := by kernel_rfl
theorem IJ : (Try.prog.info? 127).map (fun i => (i.zero, i.size, i.bytes)) = some (some (.agg #[(.int .i64 0), (.int .i64 0)]), 2, 16) := by kernel_rfl
theorem zZ : (Try.prog.info? 173).map (fun i => (i.zero, i.size, i.bytes)) = some (some (.agg #[(.int .i64 0), (.int .i64 0)]), 2, 16) := by kernel_rfl
theorem Aa : (Try.prog.info? 192).map (fun i => (i.zero, i.size, i.bytes)) = some (some (.agg #[(.int .i64 0), (.int .u64 0)]), 2, 16) := by kernel_rfl
structure dQ where
 f0 : Int
 f1 : Int
def JQ : dQ := ⟨(0 : Int), (0 : Int)⟩
def jq : Kd dQ := Kd.YD (Kd.pair (Kd.int .i64) (Kd.int .i64)) (fun x : dQ => (x.f0, x.f1))
theorem GY {w : World} {x : dQ} {cs : List Value} (h : jq.K w x cs) : cs = [.int .i64 x.f0, .int .i64 x.f1] := by
 obtain ⟨_, _, rfl, rfl, rfl⟩ := h
 exact rfl
theorem rG {w : World} {base : Nat} {ok : Nat → Prop} {x : dQ} {cs : List Value} (h : jq.M w base ok x cs) : cs = [.int .i64 x.f0, .int .i64 x.f1] := by
 obtain ⟨_, _, rfl, rfl, rfl⟩ := h
 exact rfl
theorem Uh (w : World) (x : dQ)  : jq.K w x [.int .i64 x.f0, .int .i64 x.f1] := ⟨[.int .i64 x.f0], [.int .i64 x.f1], rfl, rfl, rfl⟩
theorem ug (w : World) (base : Nat) (ok : Nat → Prop) (x : dQ)  : jq.M w base ok x [.int .i64 x.f0, .int .i64 x.f1] := ⟨[.int .i64 x.f0], [.int .i64 x.f1], rfl, rfl, rfl⟩
def aY (xs : List dQ) (i : Int) : dQ := xs.getD i.toNat JQ
theorem pX {w : World} {A : Option Addr} {n : Nat} {xs : List dQ} (h : Kd.C jq w A n xs) (i : Int) (h0 : 0 ≤ i) (h1 : i < n) : ∃ ad , A = some ad ∧ w.cell? (ad.add (i.toNat * 2)) = some (.int .i64 (aY xs i).f0) ∧ w.cell? ⟨(ad.add (i.toNat * 2)).block, (ad.add (i.toNat * 2)).off + 1, none⟩ = some (.int .i64 (aY xs i).f1) := by
 obtain ⟨ad, c, e, _, hK, hc0⟩ := Kd.Oj h JQ i h0 h1
 have hc : ∀ j u, c[j]? = some u → w.cell? (ad.add (i.toNat * 2 + j)) = some u := hc0
 obtain rfl := GY hK
 exact ⟨ad, e, hc 0 _ rfl, by rw [← yA _ _ 1 (by omega)]; exact hc 1 _ rfl⟩
structure S29 where
 f0 : Int
 f1 : Int
 f2 : Int
 f3 : Int
 f4 : Int
 f5 : (List dQ)
 f6 : (List dQ)
 f7 : (List Int)
 f8 : (List Int)
structure gq where
 f0 : Int
 f1 : Int
def z173 : gq := ⟨(0 : Int), (0 : Int)⟩
def jB : Kd gq := Kd.YD (Kd.pair (Kd.int .i64) (Kd.int .i64)) (fun x : gq => (x.f0, x.f1))
theorem GZ {w : World} {x : gq} {cs : List Value} (h : jB.K w x cs) : cs = [.int .i64 x.f0, .int .i64 x.f1] := by
 obtain ⟨_, _, rfl, rfl, rfl⟩ := h
 exact rfl
theorem lH {w : World} {base : Nat} {ok : Nat → Prop} {x : gq} {cs : List Value} (h : jB.M w base ok x cs) : cs = [.int .i64 x.f0, .int .i64 x.f1] := by
 obtain ⟨_, _, rfl, rfl, rfl⟩ := h
 exact rfl
theorem lT (w : World) (base : Nat) (ok : Nat → Prop) (x : gq)  : jB.M w base ok x [.int .i64 x.f0, .int .i64 x.f1] := ⟨[.int .i64 x.f0], [.int .i64 x.f1], rfl, rfl, rfl⟩
def aX (xs : List gq) (i : Int) : gq := xs.getD i.toNat z173
theorem qH {w : World} {A : Option Addr} {n : Nat} {xs : List gq} (h : Kd.C jB w A n xs) (i : Int) (h0 : 0 ≤ i) (h1 : i < n) : ∃ ad , A = some ad ∧ w.cell? (ad.add (i.toNat * 2)) = some (.int .i64 (aX xs i).f0) ∧ w.cell? ⟨(ad.add (i.toNat * 2)).block, (ad.add (i.toNat * 2)).off + 1, none⟩ = some (.int .i64 (aX xs i).f1) := by
 obtain ⟨ad, c, e, _, hK, hc0⟩ := Kd.Oj h z173 i h0 h1
 have hc : ∀ j u, c[j]? = some u → w.cell? (ad.add (i.toNat * 2 + j)) = some u := hc0
 obtain rfl := GZ hK
 exact ⟨ad, e, hc 0 _ rfl, by rw [← yA _ _ 1 (by omega)]; exact hc 1 _ rfl⟩
structure eP where
 f0 : Int
 f1 : Int
def z127 : eP := ⟨(0 : Int), (0 : Int)⟩
def mV : Kd eP := Kd.YD (Kd.pair (Kd.int .i64) (Kd.int .i64)) (fun x : eP => (x.f0, x.f1))
theorem Pq {w : World} {x : eP} {cs : List Value} (h : mV.K w x cs) : cs = [.int .i64 x.f0, .int .i64 x.f1] := by
 obtain ⟨_, _, rfl, rfl, rfl⟩ := h
 exact rfl
theorem rH {w : World} {base : Nat} {ok : Nat → Prop} {x : eP} {cs : List Value} (h : mV.M w base ok x cs) : cs = [.int .i64 x.f0, .int .i64 x.f1] := by
 obtain ⟨_, _, rfl, rfl, rfl⟩ := h
 exact rfl
theorem vH (w : World) (base : Nat) (ok : Nat → Prop) (x : eP)  : mV.M w base ok x [.int .i64 x.f0, .int .i64 x.f1] := ⟨[.int .i64 x.f0], [.int .i64 x.f1], rfl, rfl, rfl⟩
def aW (xs : List eP) (i : Int) : eP := xs.getD i.toNat z127
theorem qI {w : World} {A : Option Addr} {n : Nat} {xs : List eP} (h : Kd.C mV w A n xs) (i : Int) (h0 : 0 ≤ i) (h1 : i < n) : ∃ ad , A = some ad ∧ w.cell? (ad.add (i.toNat * 2)) = some (.int .i64 (aW xs i).f0) ∧ w.cell? ⟨(ad.add (i.toNat * 2)).block, (ad.add (i.toNat * 2)).off + 1, none⟩ = some (.int .i64 (aW xs i).f1) := by
 obtain ⟨ad, c, e, _, hK, hc0⟩ := Kd.Oj h z127 i h0 h1
 have hc : ∀ j u, c[j]? = some u → w.cell? (ad.add (i.toNat * 2 + j)) = some u := hc0
 obtain rfl := Pq hK
 exact ⟨ad, e, hc 0 _ rfl, by rw [← yA _ _ 1 (by omega)]; exact hc 1 _ rfl⟩
structure gI where
 f0 : Int
 f1 : Int
def Dy : gI := ⟨(0 : Int), (0 : Int)⟩
def kL : Kd gI := Kd.YD (Kd.pair (Kd.int .i64) (Kd.int .u64)) (fun x : gI => (x.f0, x.f1))
theorem G5 {w : World} {x : gI} {cs : List Value} (h : kL.K w x cs) : cs = [.int .i64 x.f0, .int .u64 x.f1] := by
 obtain ⟨_, _, rfl, rfl, rfl⟩ := h
 exact rfl
theorem lI {w : World} {base : Nat} {ok : Nat → Prop} {x : gI} {cs : List Value} (h : kL.M w base ok x cs) : cs = [.int .i64 x.f0, .int .u64 x.f1] := by
 obtain ⟨_, _, rfl, rfl, rfl⟩ := h
 exact rfl
theorem lU (w : World) (base : Nat) (ok : Nat → Prop) (x : gI)  : kL.M w base ok x [.int .i64 x.f0, .int .u64 x.f1] := ⟨[.int .i64 x.f0], [.int .u64 x.f1], rfl, rfl, rfl⟩
def bf (xs : List gI) (i : Int) : gI := xs.getD i.toNat Dy
theorem vX {w : World} {A : Option Addr} {n : Nat} {xs : List gI} (h : Kd.C kL w A n xs) (i : Int) (h0 : 0 ≤ i) (h1 : i < n) : ∃ ad , A = some ad ∧ w.cell? (ad.add (i.toNat * 2)) = some (.int .i64 (bf xs i).f0) ∧ w.cell? ⟨(ad.add (i.toNat * 2)).block, (ad.add (i.toNat * 2)).off + 1, none⟩ = some (.int .u64 (bf xs i).f1) := by
 obtain ⟨ad, c, e, _, hK, hc0⟩ := Kd.Oj h Dy i h0 h1
 have hc : ∀ j u, c[j]? = some u → w.cell? (ad.add (i.toNat * 2 + j)) = some u := hc0
 obtain rfl := G5 hK
 exact ⟨ad, e, hc 0 _ rfl, by rw [← yA _ _ 1 (by omega)]; exact hc 1 _ rfl⟩
end Go.Proofs.Ytooiccpmngmapaa.P
namespace Go.Proofs.Ytooiccpmngmapaa.P
open Go.RowKit Go.Proofs.YtooiccpmngmapaaW.PrintWords Go.Proofs.YtooiccpmngmapaaW.PrintLast Go.Proofs.YtooiccpmngmapaaW.PrintMore
attribute [local go_sem] iV iW jH jI gW gX iY iZ
structure Vq where
 f0 : Int
 f1 : Int
 f2 : Int
 f3 : Int
 f4 : Int
 f5 : (List dQ)
 f6 : (List dQ)
 f7 : (List Int)
 f8 : (List Int)
def k55 : Kd Vq := Kd.YD (Kd.pair (Kd.int .i64) (Kd.pair (Kd.int .u64) (Kd.pair (Kd.int .u64) (Kd.pair (Kd.int .u64) (Kd.pair (Kd.int .u64) (Kd.pair (Kd.slice 113 jq) (Kd.pair (Kd.slice 113 jq) (Kd.pair (Kd.slice 25 (Kd.int .u64)) (Kd.slice 25 (Kd.int .u64)))))))))) (fun x : Vq => (x.f0, x.f1, x.f2, x.f3, x.f4, x.f5, x.f6, x.f7, x.f8))
theorem QI {w : World} {x : Vq} {cs : List Value} (h : k55.K w x cs) : ∃ A5 c5 A6 c6 A7 c7 A8 c8, cs = [.int .i64 x.f0, .int .u64 x.f1, .int .u64 x.f2, .int .u64 x.f3, .int .u64 x.f4, .slice A5 x.f5.length c5, .slice A6 x.f6.length c6, .slice A7 x.f7.length c7, .slice A8 x.f8.length c8] ∧ x.f5.length ≤ c5 ∧ jq.C w A5 x.f5.length x.f5 ∧ x.f6.length ≤ c6 ∧ jq.C w A6 x.f6.length x.f6 ∧ x.f7.length ≤ c7 ∧ (Kd.int .u64).C w A7 x.f7.length x.f7 ∧ x.f8.length ≤ c8 ∧ (Kd.int .u64).C w A8 x.f8.length x.f8 := by
 obtain ⟨_, _, rfl, rfl, ⟨_, _, rfl, rfl, ⟨_, _, rfl, rfl, ⟨_, _, rfl, rfl, ⟨_, _, rfl, rfl, ⟨_, _, rfl, ⟨A5, c5, rfl, l5, g5⟩, ⟨_, _, rfl, ⟨A6, c6, rfl, l6, g6⟩, ⟨_, _, rfl, ⟨A7, c7, rfl, l7, g7⟩, ⟨A8, c8, rfl, l8, g8⟩⟩⟩⟩⟩⟩⟩⟩⟩ := h
 exact ⟨A5, c5, A6, c6, A7, c7, A8, c8, rfl, l5, g5, l6, g6, l7, g7, l8, g8⟩
theorem Wy (w : World) (x : Vq) {A5 : Option Addr} {c5 : Nat} (l5 : x.f5.length ≤ c5) (g5 : jq.C w A5 x.f5.length x.f5) {A6 : Option Addr} {c6 : Nat} (l6 : x.f6.length ≤ c6) (g6 : jq.C w A6 x.f6.length x.f6) {A7 : Option Addr} {c7 : Nat} (l7 : x.f7.length ≤ c7) (g7 : (Kd.int .u64).C w A7 x.f7.length x.f7) {A8 : Option Addr} {c8 : Nat} (l8 : x.f8.length ≤ c8) (g8 : (Kd.int .u64).C w A8 x.f8.length x.f8) : k55.K w x [.int .i64 x.f0, .int .u64 x.f1, .int .u64 x.f2, .int .u64 x.f3, .int .u64 x.f4, .slice A5 x.f5.length c5, .slice A6 x.f6.length c6, .slice A7 x.f7.length c7, .slice A8 x.f8.length c8] := ⟨[.int .i64 x.f0], [.int .u64 x.f1, .int .u64 x.f2, .int .u64 x.f3, .int .u64 x.f4, .slice A5 x.f5.length c5, .slice A6 x.f6.length c6, .slice A7 x.f7.length c7, .slice A8 x.f8.length c8], rfl, rfl, ⟨[.int .u64 x.f1], [.int .u64 x.f2, .int .u64 x.f3, .int .u64 x.f4, .slice A5 x.f5.length c5, .slice A6 x.f6.length c6, .slice A7 x.f7.length c7, .slice A8 x.f8.length c8], rfl, rfl, ⟨[.int .u64 x.f2], [.int .u64 x.f3, .int .u64 x.f4, .slice A5 x.f5.length c5, .slice A6 x.f6.length c6, .slice A7 x.f7.length c7, .slice A8 x.f8.length c8], rfl, rfl, ⟨[.int .u64 x.f3], [.int .u64 x.f4, .slice A5 x.f5.length c5, .slice A6 x.f6.length c6, .slice A7 x.f7.length c7, .slice A8 x.f8.length c8], rfl, rfl, ⟨[.int .u64 x.f4], [.slice A5 x.f5.length c5, .slice A6 x.f6.length c6, .slice A7 x.f7.length c7, .slice A8 x.f8.length c8], rfl, rfl, ⟨[.slice A5 x.f5.length c5], [.slice A6 x.f6.length c6, .slice A7 x.f7.length c7, .slice A8 x.f8.length c8], rfl, ⟨A5, c5, rfl, l5, g5⟩, ⟨[.slice A6 x.f6.length c6], [.slice A7 x.f7.length c7, .slice A8 x.f8.length c8], rfl, ⟨A6, c6, rfl, l6, g6⟩, ⟨[.slice A7 x.f7.length c7], [.slice A8 x.f8.length c8], rfl, ⟨A7, c7, rfl, l7, g7⟩, ⟨A8, c8, rfl, l8, g8⟩⟩⟩⟩⟩⟩⟩⟩⟩
end Go.Proofs.Ytooiccpmngmapaa.P
namespace Go.Proofs.Ytooiccpmngmapaa.P
open Go.RowKit Go.Proofs.YtooiccpmngmapaaW.PrintWords Go.Proofs.YtooiccpmngmapaaW.PrintLast Go.Proofs.YtooiccpmngmapaaW.PrintMore
attribute [local go_sem] iV iW jH jI gW gX iY iZ
def MK (k : IntKind) (n : Int) : Prop := (Lit.int k n).wf = true
theorem Ui {n : Int} (h : MK .i64 n) : -9223372036854775808 ≤ n ∧ n ≤ 9223372036854775807 := by
 have h2 : (Lit.int .i64 n).wf = true := h
 have e : IntKind.i64.min = -9223372036854775808 := by decide
 simp [Lit.wf, e] at h2
 exact h2
theorem Uj {n : Int} (h : MK .u64 n) : 0 ≤ n ∧ n ≤ 18446744073709551615 := by
 have h2 : (Lit.int .u64 n).wf = true := h
 have e : IntKind.u64.min = 0 := by decide
 simp [Lit.wf, e] at h2
 exact h2
def Opens {α : Type} (P : Program) (t : TypeId) (d : Kd α) (wf : α → Prop) : Prop := ∀ {H : Type} (enc : TypeId × Value → H) (w : World) (base : Nat) (sp : Nat → Bool) (held : Bool) (fuel : Nat) (cs : List Value) (x : DataW H × List MemPlace),
 DataW.trod enc P w base sp held fuel t cs = some x → ∃ y, d.K w y cs ∧ wf y
theorem oh {P : Program} {t : TypeId} {k : IntKind} (ht : P.underlying t = some (.int k)) : Opens P t (Kd.int k) (MK k) := by
 intro H enc w base sp held fuel cs x h
 obtain ⟨n, rfl, _, hw⟩ := DataW.trod_int ht h
 exact ⟨n, rfl, hw⟩
theorem uM {α : Type} {P : Program} {t e : TypeId} {d : Kd α} {wf : α → Prop} (ht : P.underlying t = some (.slice e)) (hs : P.cellsOf e = d.sz) (ho : Opens P e d wf) : Opens P t (Kd.slice e d) (fun xs => ∀ x ∈ xs, wf x) := by
 intro H enc w base sp held fuel cs x h
 rcases Deep.open_slice ht h with ⟨rfl, _⟩ | ⟨a, len, cap, m, n, D, Pl, rfl, hb, hl, hm, hmm, _, hx⟩
 ·exact ⟨[], ⟨none, 0, rfl, Nat.le_refl _, Kd.Qu _ _⟩, fun x hx => by cases hx⟩
 ·have hlm : len ≤ m := by rw [hmm]; split <;> omega
  unfold maxLen at hm
  rw [hs] at hx
  have each : ∀ i, i < len → ∃ y : α, (∃ cs', cs'.length = d.sz ∧ d.K w y cs' ∧ ∀ j u, cs'[j]? = some u → w.cell? (a.add (i * d.sz + j)) = some u) ∧ wf y := by
   intro i hi
   obtain ⟨cs', h1, h2⟩ := hx i (by omega)
   obtain ⟨y, hk, hw⟩ := ho _ _ _ _ _ _ _ _ h2
   obtain ⟨_, hlen, hcell⟩ := World.cells?_some h1
   refine ⟨y, ⟨cs', hlen, hk, fun j u hu => ?_⟩, hw⟩
   have hj : j < cs'.length := (List.getElem?_eq_some_iff.1 hu).1
   have := hcell j (by omega)
   rw [Deep.add_add] at this
   rw [this]; exact hu
  by_cases h0 : len = 0
  ·subst h0
   exact ⟨[], ⟨some a, cap, rfl, Nat.zero_le _, ⟨rfl, by simp, fun h => absurd h (Nat.lt_irrefl 0)⟩⟩, fun x hx => by cases hx⟩
  ·obtain ⟨y0, _⟩ := each 0 (by omega)
   have : Inhabited α := ⟨y0⟩
   obtain ⟨f, hf⟩ := Deep.choose_lt each
   refine ⟨(List.range len).map f, ⟨some a, cap, by simp, by simpa using hl, ⟨by simp, by simp; omega, fun _ => ⟨a, rfl, fun j p hj => ?_⟩⟩⟩, fun x hx => ?_⟩
   ·rw [List.getElem?_map] at hj
    obtain ⟨i, hi, rfl⟩ := Option.map_eq_some_iff.1 hj
    obtain ⟨hlt, rfl⟩ := List.getElem?_eq_some_iff.1 hi
    simp only [List.length_range] at hlt
    simp only [List.getElem_range]
    obtain ⟨cs', h1, h2, h3⟩ := (hf j hlt).1
    exact ⟨cs', h1, h2, h3⟩
   ·obtain ⟨i, hi, rfl⟩ := List.mem_map.1 hx
    exact (hf i (List.mem_range.1 hi)).2
def Oq (x : dQ) : Prop := (MK .i64) x.f0 ∧ (MK .i64) x.f1
set_option maxRecDepth 100000 in
theorem JR : Opens Try.prog 113 jq Oq := by
 intro H enc w base sp held fuel cs x h
 obtain ⟨xs, n, rfl, _, hl, hxl, hf⟩ := DataW.trod_struct Try.underlying113 h
 have hc : cs.length = 2 := hl.trans (by kernel_rfl)
 match cs, hc with
 | [c0, c1], _ =>
  have g0 : DataW.trod enc Try.prog w base sp held n 3 ((([c0, c1] : List Value).drop 0).take (Try.prog.cellsOf 3)) = xs[0]? := hf 0 _ rfl
  rw [show Try.prog.cellsOf 3 = 1 from by kernel_rfl] at g0
  have e0 : xs[0]? = some (xs[0]'(by rw [hxl]; decide)) := List.getElem?_eq_getElem _
  have g1 : DataW.trod enc Try.prog w base sp held n 3 ((([c0, c1] : List Value).drop 1).take (Try.prog.cellsOf 3)) = xs[1]? := hf 1 _ rfl
  rw [show Try.prog.cellsOf 3 = 1 from by kernel_rfl] at g1
  have e1 : xs[1]? = some (xs[1]'(by rw [hxl]; decide)) := List.getElem?_eq_getElem _
  obtain ⟨y0, hk0, hw0⟩ := (oh Try.underlying3) enc w base sp held n [c0] _ (g0.trans e0)
  injection (show [c0] = [Value.int .i64 y0] from hk0) with he0 _
  subst he0
  obtain ⟨y1, hk1, hw1⟩ := (oh Try.underlying3) enc w base sp held n [c1] _ (g1.trans e1)
  injection (show [c1] = [Value.int .i64 y1] from hk1) with he1 _
  subst he1
  exact ⟨⟨y0, y1⟩, Uh w ⟨y0, y1⟩ , ⟨hw0, hw1⟩⟩
def WA (x : Vq) : Prop := (MK .i64) x.f0 ∧ (MK .u64) x.f1 ∧ (MK .u64) x.f2 ∧ (MK .u64) x.f3 ∧ (MK .u64) x.f4 ∧ (fun xs_ => ∀ x_ ∈ xs_, Oq x_) x.f5 ∧ (fun xs_ => ∀ x_ ∈ xs_, Oq x_) x.f6 ∧ (fun xs_ => ∀ x_ ∈ xs_, (MK .u64) x_) x.f7 ∧ (fun xs_ => ∀ x_ ∈ xs_, (MK .u64) x_) x.f8
set_option maxRecDepth 100000 in
theorem Uk : Opens Try.prog 55 k55 WA := by
 intro H enc w base sp held fuel cs x h
 obtain ⟨xs, n, rfl, _, hl, hxl, hf⟩ := DataW.trod_struct Try.underlying55 h
 have hc : cs.length = 9 := hl.trans (by kernel_rfl)
 match cs, hc with
 | [c0, c1, c2, c3, c4, c5, c6, c7, c8], _ =>
  have g0 : DataW.trod enc Try.prog w base sp held n 3 ((([c0, c1, c2, c3, c4, c5, c6, c7, c8] : List Value).drop 0).take (Try.prog.cellsOf 3)) = xs[0]? := hf 0 _ rfl
  rw [show Try.prog.cellsOf 3 = 1 from by kernel_rfl] at g0
  have e0 : xs[0]? = some (xs[0]'(by rw [hxl]; decide)) := List.getElem?_eq_getElem _
  have g1 : DataW.trod enc Try.prog w base sp held n 25 ((([c0, c1, c2, c3, c4, c5, c6, c7, c8] : List Value).drop 1).take (Try.prog.cellsOf 25)) = xs[1]? := hf 1 _ rfl
  rw [show Try.prog.cellsOf 25 = 1 from by kernel_rfl] at g1
  have e1 : xs[1]? = some (xs[1]'(by rw [hxl]; decide)) := List.getElem?_eq_getElem _
  have g2 : DataW.trod enc Try.prog w base sp held n 25 ((([c0, c1, c2, c3, c4, c5, c6, c7, c8] : List Value).drop 2).take (Try.prog.cellsOf 25)) = xs[2]? := hf 2 _ rfl
  rw [show Try.prog.cellsOf 25 = 1 from by kernel_rfl] at g2
  have e2 : xs[2]? = some (xs[2]'(by rw [hxl]; decide)) := List.getElem?_eq_getElem _
  have g3 : DataW.trod enc Try.prog w base sp held n 25 ((([c0, c1, c2, c3, c4, c5, c6, c7, c8] : List Value).drop 3).take (Try.prog.cellsOf 25)) = xs[3]? := hf 3 _ rfl
  rw [show Try.prog.cellsOf 25 = 1 from by kernel_rfl] at g3
  have e3 : xs[3]? = some (xs[3]'(by rw [hxl]; decide)) := List.getElem?_eq_getElem _
  have g4 : DataW.trod enc Try.prog w base sp held n 25 ((([c0, c1, c2, c3, c4, c5, c6, c7, c8] : List Value).drop 4).take (Try.prog.cellsOf 25)) = xs[4]? := hf 4 _ rfl
  rw [show Try.prog.cellsOf 25 = 1 from by kernel_rfl] at g4
  have e4 : xs[4]? = some (xs[4]'(by rw [hxl]; decide)) := List.getElem?_eq_getElem _
  have g5 : DataW.trod enc Try.prog w base sp held n 26 ((([c0, c1, c2, c3, c4, c5, c6, c7, c8] : List Value).drop 5).take (Try.prog.cellsOf 26)) = xs[5]? := hf 5 _ rfl
  rw [show Try.prog.cellsOf 26 = 1 from by kernel_rfl] at g5
  have e5 : xs[5]? = some (xs[5]'(by rw [hxl]; decide)) := List.getElem?_eq_getElem _
  have g6 : DataW.trod enc Try.prog w base sp held n 26 ((([c0, c1, c2, c3, c4, c5, c6, c7, c8] : List Value).drop 6).take (Try.prog.cellsOf 26)) = xs[6]? := hf 6 _ rfl
  rw [show Try.prog.cellsOf 26 = 1 from by kernel_rfl] at g6
  have e6 : xs[6]? = some (xs[6]'(by rw [hxl]; decide)) := List.getElem?_eq_getElem _
  have g7 : DataW.trod enc Try.prog w base sp held n 53 ((([c0, c1, c2, c3, c4, c5, c6, c7, c8] : List Value).drop 7).take (Try.prog.cellsOf 53)) = xs[7]? := hf 7 _ rfl
  rw [show Try.prog.cellsOf 53 = 1 from by kernel_rfl] at g7
  have e7 : xs[7]? = some (xs[7]'(by rw [hxl]; decide)) := List.getElem?_eq_getElem _
  have g8 : DataW.trod enc Try.prog w base sp held n 53 ((([c0, c1, c2, c3, c4, c5, c6, c7, c8] : List Value).drop 8).take (Try.prog.cellsOf 53)) = xs[8]? := hf 8 _ rfl
  rw [show Try.prog.cellsOf 53 = 1 from by kernel_rfl] at g8
  have e8 : xs[8]? = some (xs[8]'(by rw [hxl]; decide)) := List.getElem?_eq_getElem _
  obtain ⟨y0, hk0, hw0⟩ := (oh Try.underlying3) enc w base sp held n [c0] _ (g0.trans e0)
  injection (show [c0] = [Value.int .i64 y0] from hk0) with he0 _
  subst he0
  obtain ⟨y1, hk1, hw1⟩ := (oh Try.underlying25) enc w base sp held n [c1] _ (g1.trans e1)
  injection (show [c1] = [Value.int .u64 y1] from hk1) with he1 _
  subst he1
  obtain ⟨y2, hk2, hw2⟩ := (oh Try.underlying25) enc w base sp held n [c2] _ (g2.trans e2)
  injection (show [c2] = [Value.int .u64 y2] from hk2) with he2 _
  subst he2
  obtain ⟨y3, hk3, hw3⟩ := (oh Try.underlying25) enc w base sp held n [c3] _ (g3.trans e3)
  injection (show [c3] = [Value.int .u64 y3] from hk3) with he3 _
  subst he3
  obtain ⟨y4, hk4, hw4⟩ := (oh Try.underlying25) enc w base sp held n [c4] _ (g4.trans e4)
  injection (show [c4] = [Value.int .u64 y4] from hk4) with he4 _
  subst he4
  obtain ⟨y5, hk5, hw5⟩ := (uM (d := jq) Try.underlying26 (by kernel_rfl) JR) enc w base sp held n [c5] _ (g5.trans e5)
  obtain ⟨A5, d5, he5, hl5, hC5⟩ := hk5
  injection he5 with he5 _
  subst he5
  obtain ⟨y6, hk6, hw6⟩ := (uM (d := jq) Try.underlying26 (by kernel_rfl) JR) enc w base sp held n [c6] _ (g6.trans e6)
  obtain ⟨A6, d6, he6, hl6, hC6⟩ := hk6
  injection he6 with he6 _
  subst he6
  obtain ⟨y7, hk7, hw7⟩ := (uM (d := (Kd.int .u64)) Try.underlying53 (by kernel_rfl) (oh Try.underlying25)) enc w base sp held n [c7] _ (g7.trans e7)
  obtain ⟨A7, d7, he7, hl7, hC7⟩ := hk7
  injection he7 with he7 _
  subst he7
  obtain ⟨y8, hk8, hw8⟩ := (uM (d := (Kd.int .u64)) Try.underlying53 (by kernel_rfl) (oh Try.underlying25)) enc w base sp held n [c8] _ (g8.trans e8)
  obtain ⟨A8, d8, he8, hl8, hC8⟩ := hk8
  injection he8 with he8 _
  subst he8
  exact ⟨⟨y0, y1, y2, y3, y4, y5, y6, y7, y8⟩, Wy w ⟨y0, y1, y2, y3, y4, y5, y6, y7, y8⟩ hl5 hC5 hl6 hC6 hl7 hC7 hl8 hC8, ⟨hw0, hw1, hw2, hw3, hw4, hw5, hw6, hw7, hw8⟩⟩
end Go.Proofs.Ytooiccpmngmapaa.P
namespace Go.Proofs.Ytooiccpmngmapaa.P
open Go.RowKit Go.Proofs.YtooiccpmngmapaaW.PrintWords Go.Proofs.YtooiccpmngmapaaW.PrintLast Go.Proofs.YtooiccpmngmapaaW.PrintMore
theorem eX {x : Int} (h0 : -9223372036854775808 ≤ x) (h1 : x ≤ 9223372036854775807) : wrap64 x = x := by unfold wrap64; omega
theorem wrap_succ {i : Nat} (h : i < 9223372036854775807) : wrap64 ((i : Int) + 1) = ((i + 1 : Nat) : Int) := by unfold wrap64; omega
theorem MV (x : Int) : -9223372036854775808 ≤ wrap64 x ∧ wrap64 x ≤ 9223372036854775807 := by unfold wrap64; omega
theorem sK {l : List Int} {i : Nat} (h : i < l.length) : rd l (i : Int) = l[i] := by unfold rd; simp [List.getD, h]
theorem drop_at {α : Type} {l : List α} {i : Nat} (h : i < l.length) : l.drop i = l[i] :: l.drop (i + 1) := List.drop_eq_getElem_cons h
theorem take_at {α : Type} {l : List α} {i : Nat} (h : i < l.length) : l.take (i + 1) = l.take i ++ [l[i]] := List.take_succ_eq_append_getElem h
theorem drop_end {α : Type} {l : List α} {i : Nat} (h : l.length ≤ i) : l.drop i = [] := List.drop_eq_nil_of_le h
def i64 (x : Int) : Prop := -9223372036854775808 ≤ x ∧ x ≤ 9223372036854775807
instance (x : Int) : Decidable (i64 x) := by unfold i64; exact inferInstance
def u64 (x : Int) : Prop := 0 ≤ x ∧ x ≤ 18446744073709551615
instance (x : Int) : Decidable (u64 x) := by unfold u64; exact inferInstance
theorem IK {x : Int} (h : MK .i64 x) : i64 x := Ui h
theorem Ef {x : Int} (h : MK .u64 x) : u64 x := Uj h
theorem wrap_i64 (x : Int) : i64 (wrap64 x) := MV x
theorem xB {x : Int} (h : i64 x) : wrap64 x = x := eX h.1 h.2
open Go.Shelf
def vI {α : Type} (p : α → Bool) (l : List α) : Int := match l.findIdx? p with
 | some i => (i : Int)
 | none => -1
theorem Ac {α : Type} (p : α → Bool) (l : List α) (i : Nat) (h : i < l.length) (hp : p l[i] = true) (hb : ∀ j (hj : j < i), p (l[j]'(Nat.lt_trans hj h)) = false) : vI p l = i := by
 have : l.findIdx? p = some i := by
  rw [List.findIdx?_eq_some_iff_getElem]
  exact ⟨h, hp, fun j hj => by simp [hb j hj]⟩
 unfold vI; rw [this]
theorem yF {α : Type} (p : α → Bool) (l : List α) (hb : ∀ j (hj : j < l.length), p l[j] = false) : vI p l = -1 := by
 have : l.findIdx? p = none := by
  rw [List.findIdx?_eq_none_iff]
  intro x hx
  obtain ⟨j, hj, rfl⟩ := List.getElem_of_mem hx
  exact hb j hj
 unfold vI; rw [this]
theorem lC {α : Type} {c : Prop} [Decidable c] {a r : α} (h : (if c then some a else none) = some r) : c ∧ a = r := by
 by_cases hc : c
 ·rw [if_pos hc] at h; exact ⟨hc, Option.some.inj h⟩
 ·rw [if_neg hc] at h; cases h
theorem JU {α : Type} (p : α → Bool) (l : List α) : (vI p l = -1 ∧ l.find? p = none) ∨ (∃ i : Nat, ∃ h : i < l.length, vI p l = (i : Int) ∧ l.find? p = some l[i]) := by
  unfold vI
  cases h : l.findIdx? p with
  | none => exact .inl ⟨rfl, by rw [List.find?_eq_none]; rw [List.findIdx?_eq_none_iff] at h; intro x hx; simp [h x hx]⟩
  | some i =>
    rw [List.findIdx?_eq_some_iff_getElem] at h
    obtain ⟨hi, hp, hb⟩ := h
    exact .inr ⟨i, hi, rfl, by rw [List.find?_eq_some_iff_getElem]; exact ⟨hp, i, hi, rfl, fun j hj => by simpa using hb j hj⟩⟩
theorem JV {α : Type} {d : Kd α} (hM : ∀ w w1 base ok x cs, d.M w base ok x cs → d.M w1 base ok x cs) {e : Nat} {w : World} {base : Nat} {ok : Nat → Prop} {g n cap : Nat} {xs : List α}
  (h : d.R e w base ok (.slice (some ⟨g, 0, none⟩) n cap) xs) (o : Nat) (seg : List Value) (ho : n * d.sz ≤ o) (hs : o + seg.length ≤ cap * d.sz) : d.R e (w.setCells g o seg) base ok (.slice (some ⟨g, 0, none⟩) n cap) xs := by
 obtain ⟨h0, inner, hown, hr⟩ := h
 refine ⟨h0, inner, ⟨hown.1, ?_⟩, hr.qZ (fun p c hp => hM _ _ _ _ _ _ hp)⟩
 rcases hown.2 with ⟨hv, _⟩ | ⟨g', cap', cur, hv, hb, hh, hnc, hcm, hcs, ht⟩
 ·cases hv
 injection hv with ha hn hc
 injection ha with ha
 injection ha with hg'
 subst hg'; subst hc
 obtain ⟨cur', h3, h4, h5⟩ := vV seg o w cur hh (by omega)
 refine .inr ⟨g, cap, cur', by rw [hn], hb, h3, hnc, hcm, by omega, ?_⟩
 rw [← hn] at ht ⊢
 have hl : cur.toList.length = cap * d.sz := by rw [Array.length_toList]; exact hcs
 rw [h5, List.append_assoc, List.take_append_of_le_length (by rw [List.length_take]; omega), List.take_take, Nat.min_eq_left ho]
 exact ht
theorem Dc {w : World} {g : Nat} {cur : Array Value} {e : TypeId} (hh : w.heap[g]? = some (.cells cur e (0, 0))) (o n : Nat) (h : o + n ≤ cur.size) :
  (∀ j, j < n → (w.cell? ⟨g, o + j, none⟩).isSome = true) ∧ (∀ j, j < n → w.frozen? ⟨g, o + j, none⟩ = false) :=
 ⟨fun j hj => by rw [au hh]; simp; omega, fun j _ => aC hh _⟩
theorem wX {P : Program} (w : World) (t e ty : TypeId) (z : Value) (ht : P.underlying t = some (.slice e)) (hv : ∀ w, (zeroValue e).run P w = .ok z w) (g o n c : Nat) (hn : 0 < n)
  (hz : ∀ v ∈ (Builtin.zeroCells z.cells n).toList, v.oneCell' = true)
  (hc : ∀ j, j < (Builtin.zeroCells z.cells n).toList.length → (w.cell? ⟨g, o + j, none⟩).isSome = true) (hf : ∀ j, j < (Builtin.zeroCells z.cells n).toList.length → w.frozen? ⟨g, o + j, none⟩ = false) :
  (Builtin.clear_ #[t] ty #[.slice (some ⟨g, o, none⟩) n c]).run P w = .ok (.tuple #[]) (w.setCells g o (Builtin.zeroCells z.cells n).toList) := by
 have hst := run_storeCells_cells (P := P) g o (Builtin.zeroCells z.cells n).toList 0 w (by simpa using hc) (by simpa using hf) hz
 simp only [Nat.add_zero] at hst
 obtain ⟨m, rfl⟩ : ∃ m, n = m + 1 := ⟨n - 1, by omega⟩
 simp [Builtin.clear_, run_underlying ht, hv, hst]
structure DelInv {α : Type} (p : α → Bool) (xs : List α) (i j : Nat) (ys : List α) : Prop where
 len : ys.length = xs.length
 lt : i < j
 le : j ≤ xs.length
 low : ys.take i = (xs.take j).filter (fun x => !p x)
 high : ys.drop j = xs.drop j
theorem DelInv.start {α : Type} {p : α → Bool} {xs : List α} {i : Nat} (h : i < xs.length) (hp : p xs[i] = true) (hb : ∀ j (hj : j < i), p (xs[j]'(Nat.lt_trans hj h)) = false) : DelInv p xs i (i + 1) xs := by
 refine ⟨rfl, Nat.lt_succ_self _, h, ?_, rfl⟩
 rw [List.take_succ_eq_append_getElem h, List.filter_append]
 have h1 : (xs.take i).filter (fun x => !p x) = xs.take i := by
  rw [List.filter_eq_self]
  intro x hx
  obtain ⟨j, hj, rfl⟩ := List.getElem_of_mem hx
  rw [List.length_take] at hj
  rw [List.getElem_take, hb j (by omega)]; rfl
 rw [h1]; simp [hp]
theorem DelInv.at_ {α : Type} {p : α → Bool} {xs ys : List α} {i j : Nat} (h : DelInv p xs i j ys) (hj : j < xs.length) : ∃ h2 : j < ys.length, ys[j] = xs[j] := by
 have h2 : j < ys.length := by rw [h.len]; exact hj
 refine ⟨h2, ?_⟩
 have := congrArg (fun l => l[0]?) h.high
 simp only [List.getElem?_drop, Nat.add_zero, List.getElem?_eq_getElem h2, List.getElem?_eq_getElem hj] at this
 exact Option.some.inj this
theorem DelInv.skip {α : Type} {p : α → Bool} {xs ys : List α} {i j : Nat} (h : DelInv p xs i j ys) (hj : j < xs.length) (hp : p xs[j] = true) : DelInv p xs i (j + 1) ys := by
 refine ⟨h.len, by have := h.lt; omega, hj, ?_, ?_⟩
 ·rw [h.low, List.take_succ_eq_append_getElem hj, List.filter_append]; simp [hp]
 ·have := congrArg (List.drop 1) h.high
  rwa [List.drop_drop, List.drop_drop] at this
theorem DelInv.keep {α : Type} {p : α → Bool} {xs ys : List α} {i j : Nat} (h : DelInv p xs i j ys) (hj : j < xs.length) (hp : p xs[j] = false) : DelInv p xs (i + 1) (j + 1) (ys.set i xs[j]) := by
 have hlt := h.lt
 have hi : i < ys.length := by rw [h.len]; omega
 refine ⟨by rw [List.length_set]; exact h.len, by omega, hj, ?_, ?_⟩
 ·rw [List.take_succ_eq_append_getElem (by rw [List.length_set]; exact hi), List.getElem_set_self, List.take_set_of_le (by omega), h.low, List.take_succ_eq_append_getElem hj, List.filter_append]; simp [hp]
 ·rw [List.drop_set_of_lt (by omega)]
  have := congrArg (List.drop 1) h.high
  rwa [List.drop_drop, List.drop_drop] at this
theorem DelInv.done {α : Type} {p : α → Bool} {xs ys : List α} {i : Nat} (h : DelInv p xs i xs.length ys) : ys.take i = xs.filter (fun x => !p x) := by
 rw [h.low, List.take_of_length_le (Nat.le_refl _)]
theorem Eh {α : Type} (p : α → Bool) (l : List α) : (vI p l = -1 ∧ l.filter (fun x => !p x) = l) ∨ (∃ i : Nat, ∃ h : i < l.length, vI p l = (i : Int) ∧ p l[i] = true ∧ ∀ j (hj : j < i), p (l[j]'(Nat.lt_trans hj h)) = false) := by
  unfold vI
  cases h : l.findIdx? p with
  | none =>
    refine .inl ⟨rfl, ?_⟩
    rw [List.findIdx?_eq_none_iff] at h
    rw [List.filter_eq_self]
    intro x hx; simp [h x hx]
  | some i =>
    rw [List.findIdx?_eq_some_iff_getElem] at h
    obtain ⟨hi, hp, hb⟩ := h
    exact .inr ⟨i, hi, rfl, hp, fun j hj => by simpa using hb j hj⟩
def slices_Clone_span.f (l0 : List dQ) : Option (List dQ) := if l0.length < 8796093022208 then some l0 else none
set_option maxHeartbeats 2000000 in
set_option maxRecDepth 100000 in
theorem slices_Clone_span.calls (A0 : Option Addr) (c0 : Nat) (l0 r : List dQ) (w : World) (hr0 : Kd.C jq w A0 l0.length l0) (hc0 : l0.length ≤ c0) (h : slices_Clone_span.f l0 = some r) :
    Calls Try.prog 138 #[.slice A0 l0.length c0] w fun e w' => ∃ mW : Value, e = .returned (mW) ∧ Kd.R jq 113 w' w.heap.size (fun _ => True) mW r ∧ Below w.heap.size w w' := by
  obtain ⟨hm, h2⟩ := lC h
  subst h2
  clear h
  have hu := Try.underlying26
  have HM := ah hm
  clear hm
  cases A0 with
  | none =>
    have hl : l0 = [] := by
      rcases Nat.eq_zero_or_pos l0.length with h | h
      · exact List.length_eq_zero_iff.1 h
      · obtain ⟨ad, e, _⟩ := hr0.2.2 h
        cases e
    subst hl
    have hn : ∀ W n c, (binOp .eql 26 (.slice none n c) (.slice none 0 0)).run Try.prog W = .ok (.bool true) W := fun W n c => by
      exact Lib.run_eql_slice_nil W _ _ none n c 0 0 Try.underlying26
    go_enter Try.func138, Try.ntmps138
    go_wp2
    go_ret
    exact ⟨_, rfl, Kd.eY _ _ _ _ _, Below.refl _ _⟩
  | some ad =>
    have hn : ∀ W n c, (binOp .eql 26 (.slice (some ad) n c) (.slice none 0 0)).run Try.prog W = .ok (.bool false) W := fun W n c => by
      exact Lib.run_eql_slice_nil W _ _ (some ad) n c 0 0 Try.underlying26
    have HR := ah hr0
    clear hr0
    go_enter Try.func138, Try.ntmps138
    go_wp2_with ((with_reducible refine eG (b := .append) (xs := #[.tmp 5, .tmp 6]) rfl ?_); at_builtin; refine Kd.uV jq (w0 := w) (Rr := jq.K w) w.heap.size rfl (.tmp 5) (.tmp 6) 26 113 _ 16 rfl Try.underlying26 II rfl (by decide) (by omega) (.slice (some ⟨w.heap.size, 0, none⟩) 0 0) [] l0 (some ad) l0.length c0 (fun _ => True) (fun _ => False) rfl rfl ?aO ?aR ?aK (fun _ hk => hk.elim) (fun _ _ => trivial) ?aB ?aS ?aL ?_; (case aO => exact ⟨fun _ _ => trivial, [], ⟨rfl, .inr ⟨w.heap.size, 0, #[], rfl, Nat.le_refl _, by simpa using iL w _, Nat.le_refl _, by unfold maxLen; omega, rfl, rfl⟩⟩, jl.none _ _⟩); (case aR => exact HR.out.qZ (ak (Below.refl _ _) _) (fun _ _ h => h)); (case aK => intro x cs hx; rw [GY hx]; exact ug _ _ _ x); (case aB => exact ak (Below.refl _ _) _); (case aS => simp); (case aL => have := HM.out; simp; omega); intro v1 w1 ho hb hg hat; rw [List.nil_append] at ho; have HO := ah ho; have HB := ah hb; clear ho hb hg hat)
    go_ret
    exact ⟨_, rfl, HO.out, HB.out⟩
class Lft (w : World) (W : World) : Prop where
 be : Below w.heap.size w W
instance Lft.self (w : World) : Lft w w := ⟨Below.refl _ _⟩
instance Lft.alloc (w W : World) (o : Obj) [b : Lft w W] : Lft w (W.alloc o) := ⟨ak b.be o⟩
instance Lft.drew (w W : World) [b : Lft w W] : Lft w W.drew := ⟨aH b.be⟩
instance Lft.drewN (w W : World) (m : Nat) [b : Lft w W] : Lft w (W.drewN m) := ⟨ay b.be m⟩
class Stp (w : outParam World) (W : World) : Prop where
 be : Below w.heap.size w W
instance Stp.alloc (W : World) (o : Obj) : Stp W (W.alloc o) := ⟨ak (Below.refl _ _) o⟩
instance Stp.drew (W : World) : Stp W W.drew := ⟨aH (Below.refl _ _)⟩
instance Stp.drewN (W : World) (m : Nat) : Stp W (W.drewN m) := ⟨ay (Below.refl _ _) m⟩
theorem Kd.fJ {α : Type} {d : Kd α} {e : TypeId} {w W : World} {base : Nat} {ok : Nat → Prop} {v : Value} {xs : List α} [b : Lft w W] (h : d.R e w base ok v xs) : d.R e W base ok v xs := Kd.eU h b.be
theorem Kd.kQ {α : Type} {d : Kd α} {e : TypeId} {w W : World} {base : Nat} {ok : Nat → Prop} {v : Value} {xs : List α} [b : Stp w W] (h : d.R e w base ok v xs) : d.R e W base ok v xs := Kd.eU h b.be
theorem Kd.lu {α : Type} {d : Kd α} {e : TypeId} {w W w1 : World} {base : Nat} {ok : Nat → Prop} {v : Value} {xs : List α} [b : Lft w W] (h : d.R e w base ok v xs) (hb : Below W.heap.size W w1) : d.R e w1 base ok v xs := Kd.eU (Kd.eU h b.be) hb
theorem Kd.jV {α : Type} {d : Kd α} {w W : World} {A : Option Addr} {n : Nat} {xs : List α} [b : Lft w W] (h : d.C w A n xs) : d.C W A n xs := Kd.bT h b.be
theorem jJ {w W : World} {g : Nat} {o : Obj} [b : Lft w W] (h : w.heap[g]? = some o) : W.heap[g]? = some o := bD h b.be
theorem bQ {w W : World} {g : Nat} {o : Obj} [b : Stp w W] (h : w.heap[g]? = some o) : W.heap[g]? = some o := bD h b.be
theorem eH {w W w1 : World} {g : Nat} {o : Obj} [b : Lft w W] (h : w.heap[g]? = some o) (hb : Below W.heap.size W w1) : w1.heap[g]? = some o := bD (bD h b.be) hb
theorem bg {u w W : World} [b : Lft w W] (h : Below u.heap.size u w) : Below u.heap.size u W := aG h h.size b.be
theorem bJ {u w W : World} [b : Stp w W] (h : Below u.heap.size u w) : Below u.heap.size u W := aG h h.size b.be
theorem gU {P : Program} {ops : Array Oper} {Q : Exit → Act → World → Prop} {rest : List Oper} {oi : Oper} {a : Act} {w : World} (N : Option Tmp) {f : FuncId} {fn : Func} {as_ : Array Operand} {ts : Array TypeId} (hf : P.funcs[f]? = some fn) (args : Array Value)
    (h : Calls P f args w fun e w' => ∃ v, e = .returned v ∧ wpList P ops Q rest (a.put N v) w') (hop : oi.op = .call { callee := .value (.func f), args := as_, argTypes := ts } := by rfl)
    (hargs : as_.map a.eval = args := by (try simp only [List.map_toArray, List.map_cons, List.map_nil]); first | done | rfl | (simp only [List.length_drop, List.length_take]; rfl)) (hd : oi.dst = N := by rfl) (hg : oi.guard = none := by rfl) (hname : (fn.name == "runtime.NumGoroutine") = false := by kernel_rfl) (hb : fn.body.isSome = true := by rfl) : wpList P ops Q (oi :: rest) a w :=
  lG N hd hg hf hname hb args hop hargs h
attribute [local go_sem] iV iW jH jI gW gX iY iZ
def span_in.f (a0 : Int) : Option (Bool) := if a0 ≥ (-1048576) then (some (decide (a0 ≤ 1048576))) else (some false)
set_option maxHeartbeats 8000000 in
set_option maxRecDepth 100000 in
theorem span_in.calls (a0 : Int) (r : Bool) (w : World) (h : span_in.f a0 = some r) :
  Calls Try.prog 182 #[.int .i64 a0] w fun e w' => e = .returned (.bool r) ∧ cZ w w' := by
 have H : (if a0 ≥ (-1048576) then (some (decide (a0 ≤ 1048576))) else (some false)) = some r := h
 clear h
 by_cases c2 : a0 ≥ (-1048576)
 ·rw [if_pos c2] at H
  have c2b0 : decide ((-1048576) ≤ a0) = true := ahG c2
  clear c2
  obtain rfl := Option.some.inj H
  go_enter Try.func182, Try.ntmps182
  go_wp2
  go_ret
  exact ⟨by first | rfl | (simp; done) | (simp [*]; done), by repeat (first | exact cZ.refl _ | apply cZ.step)⟩
 rw [if_neg c2] at H
 have c2b0 : decide ((-1048576) ≤ a0) = false := ahH c2
 clear c2
 obtain rfl := Option.some.inj H
 go_enter Try.func182, Try.ntmps182
 go_wp2
 go_ret
 exact ⟨by first | rfl | (simp; done) | (simp [*]; done), by repeat (first | exact cZ.refl _ | apply cZ.step)⟩
mutual
def span_right.l0 : Nat → Int → Int → List (dQ) → Int → Int → Option (Bool)
 | 0, _, _, _, _, _ => none
 | k + 1, x3, x4, x7, x8, x9 => if x9 < x8 then (if 0 ≤ x9 then (if x9 < (x7.length : Int) then (if ((aY x7 x9).f0) > 2097152 then (span_right.j1 k x3 x4 x7 x8 x9 true ((aY x7 x9).f0) ((aY x7 x9).f1)) else (if ((aY x7 x9).f1) < 0 then (span_right.j1 k x3 x4 x7 x8 x9 true ((aY x7 x9).f0) ((aY x7 x9).f1)) else (if ((aY x7 x9).f1) > 4096 then (span_right.j1 k x3 x4 x7 x8 x9 true ((aY x7 x9).f0) ((aY x7 x9).f1)) else (if ((aY x7 x9).f0) < 0 then (if x9 > 0 then (span_right.j1 k x3 x4 x7 x8 x9 true ((aY x7 x9).f0) ((aY x7 x9).f1)) else ((span_in.f ((aY x7 x9).f0)).bind fun dZ => (span_right.j1 k x3 x4 x7 x8 x9 (!dZ) ((aY x7 x9).f0) ((aY x7 x9).f1)))) else (span_right.j1 k x3 x4 x7 x8 x9 false ((aY x7 x9).f0) ((aY x7 x9).f1)))))) else (none)) else (none)) else (some true)
def span_right.j1 : Nat → Int → Int → List (dQ) → Int → Int → Bool → Int → Int → Option (Bool)
 | 0, _, _, _, _, _, _, _, _ => none
 | k + 1, x3, x4, x7, x8, x9, x41, lN, lg => if x41 = true then (some false) else ((span_in.f (wrap64 (x3 + lN))).bind fun jL => (if jL = true then ((span_in.f (wrap64 ((wrap64 (x3 + lN)) + (mx (wrap64 (lg - 1)) 0)))).bind fun t105 => (if t105 = true then (if (wrap64 (x4 + lg)) > 4096 then (some false) else (span_right.l0 k (wrap64 ((wrap64 (x3 + lN)) + lg)) (wrap64 (x4 + lg)) x7 x8 (wrap64 (x9 + 1)))) else (some false))) else (some false)))
end
def span_right.f (k : Nat) (l0 : List (dQ)) : Option (Bool) := span_right.l0 k 0 0 l0 (l0.length : Int) 0
set_option maxHeartbeats 8000000 in
set_option maxRecDepth 100000 in
theorem span_right.calls (k : Nat) (A0 : Option Addr) (c0 : Nat) (l0 : List (dQ)) (r : Bool) (w : World) (hr0 : Kd.C jq w A0 l0.length l0) (hc0 : l0.length ≤ c0) (h : span_right.f k l0 = some r) :
  Calls Try.prog 178 #[.slice A0 l0.length c0] w fun e w' => e = .returned (.bool r) ∧ Below w.heap.size w w' := by
 have JW := Try.underlying113
 have HR0 := ah hr0
 have uH := ah hc0
 clear hr0 hc0
 have HB := ah (Below.refl w.heap.size w)
 have H : (span_right.l0 k 0 0 l0 (l0.length : Int) 0) = some r := h
 clear h
 have H' := ah H
 clear H
 go_enter Try.func178, Try.ntmps178
 go_wp2
 go_loopg [3, 4, 9] k (fun kq v3 v4 v9 w' => ∃ (fG : Int) (dU : Int) (fO : Int), v3 = .int .i64 fG ∧ v4 = .int .i64 dU ∧ v9 = .int .i64 fO ∧ aj (span_right.l0 kq fG dU l0 (l0.length : Int) fO = some r) ∧ aj (kq ≤ k) ∧ aj (Below w.heap.size w w'))
 case atStart => exact ⟨(0), (0), (0), (by first | rfl | (simp; done) | (simp [*]; done)), (by first | rfl | (simp; done) | (simp [*]; done)), (by first | rfl | (simp; done) | (simp [*]; done)), H', ⟨Nat.le_refl _⟩, ⟨by repeat (first | (with_reducible first | exact HB.out | apply ak | apply ay | apply aH) | exact HB.out)⟩⟩
 case round =>
  clear H'
  try clear c1
  obtain ⟨fG, dU, fO, rfl, rfl, rfl, HA, jy, HB⟩ := hrel
  cases gk with
  | zero => exact absurd HA.out (by simp [span_right.l0])
  | succ k1 =>
   have H := HA.out
   clear HA
   simp only [span_right.l0] at H
   by_cases c2 : fO < (l0.length : Int)
   ·rw [if_pos c2] at H
    have c2b0 : decide (fO < (l0.length : Int)) = true := ahG c2
    clear c2
    by_cases c3 : 0 ≤ fO
    ·rw [if_pos c3] at H
     have c3b0 : decide (0 ≤ fO) = true := ahG c3
     clear c3
     by_cases c4 : fO < (l0.length : Int)
     ·rw [if_pos c4] at H
      have c4b0 : decide (fO < (l0.length : Int)) = true := ahG c4
      clear c4
      have MW := ah H
      clear H
      have fC : 0 ≤ (fO : Int) := ahF (by assumption)
      have fD : fO < (l0.length : Int) := ahF (by assumption)
      obtain ⟨kE, jM, bW, dS⟩ := pX HR0.out fO fC fD
      cases jM
      replace bW := (HB.out.cell (World.block_lt_of_cell? w _ bW)).trans bW
      replace dS := (HB.out.cell (World.block_lt_of_cell? w _ dS)).trans dS
      replace fC := eq_true fC
      replace fD := eq_true fD
      go_upto_region 5 with (first | ((with_reducible refine fK (N := 6) rfl ?_); (try (refine uf (by rfl) ?_; dsimp only)); refine fA ?hg (N := 6) ?hd (cs := #[.int .i64 0, .int .i64 0]) (t := 113) ?hr ?_; (case hd => rfl); (case hg => rfl); (case hr => first | (go_simp; done) | (go_simp; rfl)); intro aI hg w6 hbox hb; have aJ := ah (hbox); have oN := ah ((by rw [hg]; exact (aQ (bg HB.out)) : w.heap.size ≤ aI)); have bU := ah ((by rw [hg]; exact (aQ (bg HB.out)) : w.heap.size ≤ aI)); replace HB := ah (aZ (bg HB.out) hb); clear hb hbox hg; have xC := au aJ.out; have xE := aC aJ.out))
      (try simp only [Act.put, List.setIfInBounds_toArray, List.set_cons_zero, List.set_cons_succ])
      go_cut [41] (fun v41 wc => ∃ (kq : Nat) (Ot : Bool), v41 = .bool Ot ∧ aj (span_right.j1 kq fG dU l0 (l0.length : Int) fO Ot ((aY l0 fO).f0) ((aY l0 fO).f1) = some r) ∧ aj (kq ≤ k1) ∧ aj (wc.heap[aI]? = some (.cells #[.int .i64 ((aY l0 fO).f0), .int .i64 ((aY l0 fO).f1)] 113 (0, 0))) ∧ aj (Below w.heap.size w wc))
      case first =>
       have H := MW.out
       clear MW
       by_cases c8 : ((aY l0 fO).f0) > 2097152
       ·rw [if_pos c8] at H
        have c8b0 : decide (2097152 < ((aY l0 fO).f0)) = true := ahG c8
        clear c8
        (first | rw [c8b0] | (simp only [bI, bM]; rw [c8b0]) | skip)
        have H' := ah H
        clear H
        have rJ := au aJ.out
        have rM := aC aJ.out
        go_wp2
        go_meet
        case rel => exact ⟨_, (true), (by first | rfl | (simp; done) | (simp [*]; done)), H', ⟨by have := jy.out; first | omega | exact Nat.le_refl _⟩, ⟨by (repeat with_reducible refine bQ ?_); refine bC (cs := #[.int .i64 ((aY l0 fO).f0), .int .i64 0]) ?_ 1 _ rfl; (repeat with_reducible refine bQ ?_); refine bC (cs := #[.int .i64 0, .int .i64 0]) ?_ 0 _ rfl; (repeat with_reducible refine bQ ?_); exact aJ.out⟩, ⟨by repeat (first | (with_reducible first | exact HB.out | apply ak | apply ay | apply aH | refine aA ?_ bU.out) | exact HB.out)⟩⟩
       rw [if_neg c8] at H
       have c8b0 : decide (2097152 < ((aY l0 fO).f0)) = false := ahH c8
       clear c8
       (first | rw [c8b0] | (simp only [bI, bM]; rw [c8b0]) | skip)
       by_cases c10 : ((aY l0 fO).f1) < 0
       ·rw [if_pos c10] at H
        have c10b0 : decide (((aY l0 fO).f1) < 0) = true := ahG c10
        clear c10
        have H' := ah H
        clear H
        have tq := au aJ.out
        have tu := aC aJ.out
        go_wp2
        go_meet
        case rel => exact ⟨_, (true), (by first | rfl | (simp; done) | (simp [*]; done)), H', ⟨by have := jy.out; first | omega | exact Nat.le_refl _⟩, ⟨by (repeat with_reducible refine bQ ?_); refine bC (cs := #[.int .i64 ((aY l0 fO).f0), .int .i64 0]) ?_ 1 _ rfl; (repeat with_reducible refine bQ ?_); refine bC (cs := #[.int .i64 0, .int .i64 0]) ?_ 0 _ rfl; (repeat with_reducible refine bQ ?_); exact aJ.out⟩, ⟨by repeat (first | (with_reducible first | exact HB.out | apply ak | apply ay | apply aH | refine aA ?_ bU.out) | exact HB.out)⟩⟩
       rw [if_neg c10] at H
       have c10b0 : decide (((aY l0 fO).f1) < 0) = false := ahH c10
       clear c10
       by_cases c12 : ((aY l0 fO).f1) > 4096
       ·rw [if_pos c12] at H
        have c12b0 : decide (4096 < ((aY l0 fO).f1)) = true := ahG c12
        clear c12
        have H' := ah H
        clear H
        have yG := au aJ.out
        have yH := aC aJ.out
        go_wp2
        go_meet
        case rel => exact ⟨_, (true), (by first | rfl | (simp; done) | (simp [*]; done)), H', ⟨by have := jy.out; first | omega | exact Nat.le_refl _⟩, ⟨by (repeat with_reducible refine bQ ?_); refine bC (cs := #[.int .i64 ((aY l0 fO).f0), .int .i64 0]) ?_ 1 _ rfl; (repeat with_reducible refine bQ ?_); refine bC (cs := #[.int .i64 0, .int .i64 0]) ?_ 0 _ rfl; (repeat with_reducible refine bQ ?_); exact aJ.out⟩, ⟨by repeat (first | (with_reducible first | exact HB.out | apply ak | apply ay | apply aH | refine aA ?_ bU.out) | exact HB.out)⟩⟩
       rw [if_neg c12] at H
       have c12b0 : decide (4096 < ((aY l0 fO).f1)) = false := ahH c12
       clear c12
       by_cases c14 : ((aY l0 fO).f0) < 0
       ·rw [if_pos c14] at H
        have c14b0 : decide (((aY l0 fO).f0) < 0) = true := ahG c14
        clear c14
        by_cases c15 : fO > 0
        ·rw [if_pos c15] at H
         have c15b0 : decide (0 < fO) = true := ahG c15
         clear c15
         have H' := ah H
         clear H
         have Ad := au aJ.out
         have Ae := aC aJ.out
         go_wp2
         go_meet
         case rel => exact ⟨_, (true), (by first | rfl | (simp; done) | (simp [*]; done)), H', ⟨by have := jy.out; first | omega | exact Nat.le_refl _⟩, ⟨by (repeat with_reducible refine bQ ?_); refine bC (cs := #[.int .i64 ((aY l0 fO).f0), .int .i64 0]) ?_ 1 _ rfl; (repeat with_reducible refine bQ ?_); refine bC (cs := #[.int .i64 0, .int .i64 0]) ?_ 0 _ rfl; (repeat with_reducible refine bQ ?_); exact aJ.out⟩, ⟨by repeat (first | (with_reducible first | exact HB.out | apply ak | apply ay | apply aH | refine aA ?_ bU.out) | exact HB.out)⟩⟩
        rw [if_neg c15] at H
        have c15b0 : decide (0 < fO) = false := ahH c15
        clear c15
        replace H := Option.bind_eq_some_iff.mp H
        obtain ⟨dZ, QJ, H⟩ := H
        replace H : (span_right.j1 k1 fG dU l0 (l0.length : Int) fO (!dZ) ((aY l0 fO).f0) ((aY l0 fO).f1)) = some r := H
        have YJ := ah QJ
        clear QJ
        have H' := ah H
        clear H
        have Ul := au aJ.out
        have Um := aC aJ.out
        go_wp2_with (first | (go_at_call 182; (with_reducible refine (span_in.calls ((aY l0 fO).f0) dZ _ YJ.out).mono ?_); rintro e w' ⟨rfl, ⟨nd, rfl⟩⟩; clear YJ))
        go_meet
        case rel => exact ⟨_, (!dZ), (by first | rfl | (simp; done) | (simp [*]; done)), H', ⟨by have := jy.out; first | omega | exact Nat.le_refl _⟩, ⟨by (repeat with_reducible refine bQ ?_); refine bC (cs := #[.int .i64 ((aY l0 fO).f0), .int .i64 0]) ?_ 1 _ rfl; (repeat with_reducible refine bQ ?_); refine bC (cs := #[.int .i64 0, .int .i64 0]) ?_ 0 _ rfl; (repeat with_reducible refine bQ ?_); exact aJ.out⟩, ⟨by repeat (first | (with_reducible first | exact HB.out | apply ak | apply ay | apply aH | refine aA ?_ bU.out) | exact HB.out)⟩⟩
       rw [if_neg c14] at H
       have c14b0 : decide (((aY l0 fO).f0) < 0) = false := ahH c14
       clear c14
       have H' := ah H
       clear H
       have Af := au aJ.out
       have Ag := aC aJ.out
       go_wp2
       go_meet
       case rel => exact ⟨_, (false), (by first | rfl | (simp; done) | (simp [*]; done)), H', ⟨by have := jy.out; first | omega | exact Nat.le_refl _⟩, ⟨by (repeat with_reducible refine bQ ?_); refine bC (cs := #[.int .i64 ((aY l0 fO).f0), .int .i64 0]) ?_ 1 _ rfl; (repeat with_reducible refine bQ ?_); refine bC (cs := #[.int .i64 0, .int .i64 0]) ?_ 0 _ rfl; (repeat with_reducible refine bQ ?_); exact aJ.out⟩, ⟨by repeat (first | (with_reducible first | exact HB.out | apply ak | apply ay | apply aH | refine aA ?_ bU.out) | exact HB.out)⟩⟩
      case rest =>
       clear MW
       try clear c1
       try clear p1
       try clear q1
       try clear hx1
       try clear c2
       try clear c2b0
       try clear p2
       try clear c3
       try clear c3b0
       try clear c4
       try clear c4b0
       try clear c8
       try clear c8b0
       try clear c10
       try clear c10b0
       try clear p10
       try clear q10
       try clear QK
       try clear c12
       try clear c12b0
       try clear c14
       try clear c14b0
       try clear c15
       try clear c15b0
       try clear c17
       try clear tq
       try clear yG
       try clear Ad
       try clear Ul
       try clear Af
       try clear xC
       try clear rJ
       try clear tu
       try clear yH
       try clear Ae
       try clear Um
       try clear Ag
       try clear xE
       try clear rM
       try clear bW
       try clear dS
       try clear fC
       try clear fD
       obtain ⟨kq, Ot, rfl, HA, IL, aJ, HB⟩ := hcut
       cases kq with
       | zero => exact absurd HA.out (by simp [span_right.j1])
       | succ mZ =>
        have H := HA.out
        clear HA
        simp only [span_right.j1] at H
        by_cases c20 : Ot = true
        ·subst c20
         have H1 : (some false) = some r := by rw [if_pos rfl] at H; exact H
         clear H
         have H := H1
         clear H1
         obtain rfl := Option.some.inj H
         go_wp2
         go_ret
         exact ⟨by first | rfl | (simp [aU, aV] <;> rfl) | (simp [*, aU, aV] <;> rfl), by repeat (first | (with_reducible first | exact HB.out | apply ak | apply ay | apply aH | refine aA ?_ bU.out) | exact HB.out)⟩
        replace c20 := Bool.eq_false_iff.mpr c20
        subst c20
        have H1 : ((span_in.f (wrap64 (fG + ((aY l0 fO).f0)))).bind fun jL => (if jL = true then ((span_in.f (wrap64 ((wrap64 (fG + ((aY l0 fO).f0))) + (mx (wrap64 (((aY l0 fO).f1) - 1)) 0)))).bind fun t105 => (if t105 = true then (if (wrap64 (dU + ((aY l0 fO).f1))) > 4096 then (some false) else (span_right.l0 mZ (wrap64 ((wrap64 (fG + ((aY l0 fO).f0))) + ((aY l0 fO).f1))) (wrap64 (dU + ((aY l0 fO).f1))) l0 (l0.length : Int) (wrap64 (fO + 1)))) else (some false))) else (some false))) = some r := by rw [if_neg (show ¬ (false = true) by decide)] at H; exact H
        clear H
        have H := H1
        clear H1
        replace H := Option.bind_eq_some_iff.mp H
        obtain ⟨jL, YK, H⟩ := H
        replace H : (if jL = true then ((span_in.f (wrap64 ((wrap64 (fG + ((aY l0 fO).f0))) + (mx (wrap64 (((aY l0 fO).f1) - 1)) 0)))).bind fun t105 => (if t105 = true then (if (wrap64 (dU + ((aY l0 fO).f1))) > 4096 then (some false) else (span_right.l0 mZ (wrap64 ((wrap64 (fG + ((aY l0 fO).f0))) + ((aY l0 fO).f1))) (wrap64 (dU + ((aY l0 fO).f1))) l0 (l0.length : Int) (wrap64 (fO + 1)))) else (some false))) else (some false)) = some r := H
        have Un := ah YK
        clear YK
        by_cases QL : jL = true
        ·subst QL
         have H1 : ((span_in.f (wrap64 ((wrap64 (fG + ((aY l0 fO).f0))) + (mx (wrap64 (((aY l0 fO).f1) - 1)) 0)))).bind fun t105 => (if t105 = true then (if (wrap64 (dU + ((aY l0 fO).f1))) > 4096 then (some false) else (span_right.l0 mZ (wrap64 ((wrap64 (fG + ((aY l0 fO).f0))) + ((aY l0 fO).f1))) (wrap64 (dU + ((aY l0 fO).f1))) l0 (l0.length : Int) (wrap64 (fO + 1)))) else (some false))) = some r := by rw [if_pos rfl] at H; exact H
         clear H
         have H := H1
         clear H1
         obtain ⟨QM, G6⟩ : ∃ j_ : Int, (mx (wrap64 (((aY l0 fO).f1) - 1)) 0) = j_ := ⟨_, rfl⟩
         replace H : ((span_in.f (wrap64 ((wrap64 (fG + ((aY l0 fO).f0))) + (QM)))).bind fun t105 => (if t105 = true then (if (wrap64 (dU + ((aY l0 fO).f1))) > 4096 then (some false) else (span_right.l0 mZ (wrap64 ((wrap64 (fG + ((aY l0 fO).f0))) + ((aY l0 fO).f1))) (wrap64 (dU + ((aY l0 fO).f1))) l0 (l0.length : Int) (wrap64 (fO + 1)))) else (some false))) = some r := by first | (rw [G6] at H; exact H) | (simp only [G6] at H ⊢; exact H)
         (try rw [G6] at Un)
         have acr : (if (wrap64 (((aY l0 fO).f1) - 1)) < 0 then 0 else (wrap64 (((aY l0 fO).f1) - 1))) = QM := G6
         replace H := Option.bind_eq_some_iff.mp H
         obtain ⟨t105, QN, H⟩ := H
         replace H : (if t105 = true then (if (wrap64 (dU + ((aY l0 fO).f1))) > 4096 then (some false) else (span_right.l0 mZ (wrap64 ((wrap64 (fG + ((aY l0 fO).f0))) + ((aY l0 fO).f1))) (wrap64 (dU + ((aY l0 fO).f1))) l0 (l0.length : Int) (wrap64 (fO + 1)))) else (some false)) = some r := H
         have Uo := ah QN
         clear QN
         by_cases c25 : t105 = true
         ·subst c25
          have H1 : (if (wrap64 (dU + ((aY l0 fO).f1))) > 4096 then (some false) else (span_right.l0 mZ (wrap64 ((wrap64 (fG + ((aY l0 fO).f0))) + ((aY l0 fO).f1))) (wrap64 (dU + ((aY l0 fO).f1))) l0 (l0.length : Int) (wrap64 (fO + 1)))) = some r := by rw [if_pos rfl] at H; exact H
          clear H
          have H := H1
          clear H1
          by_cases QO : (wrap64 (dU + ((aY l0 fO).f1))) > 4096
          ·rw [if_pos QO] at H
           have c26b0 : decide (4096 < (wrap64 (dU + ((aY l0 fO).f1)))) = true := ahG QO
           clear QO
           obtain rfl := Option.some.inj H
           have aaF := au aJ.out
           have aaG := aC aJ.out
           go_wp2_with (first | ((with_reducible refine bP (f := 182) rfl ?_); refine gU (some 51) Try.func182 #[.int .i64 (wrap64 (fG + ((aY l0 fO).f0)))] ?_; (with_reducible refine (span_in.calls (wrap64 (fG + ((aY l0 fO).f0))) true _ Un.out).mono ?_); rintro e w' ⟨rfl, ⟨nd, rfl⟩⟩; refine ⟨_, rfl, ?_⟩; clear Un) | (go_at_call 182; (with_reducible refine (span_in.calls (wrap64 ((wrap64 (fG + ((aY l0 fO).f0))) + (QM))) true _ Uo.out).mono ?_); rintro e w' ⟨rfl, ⟨nd, rfl⟩⟩; clear Uo))
           go_ret
           exact ⟨by first | rfl | (simp [aU, aV] <;> rfl) | (simp only [← G6]; first | rfl | (simp [aU, aV] <;> rfl)) | (simp [*, aU, aV] <;> rfl), by repeat (first | (with_reducible first | exact HB.out | apply ak | apply ay | apply aH | refine aA ?_ bU.out) | exact HB.out)⟩
          rw [if_neg QO] at H
          have c26b0 : decide (4096 < (wrap64 (dU + ((aY l0 fO).f1)))) = false := ahH QO
          clear QO
          have H' := ah H
          clear H
          have yI := au aJ.out
          have yJ := aC aJ.out
          go_wp2_with (first | ((with_reducible refine bP (f := 182) rfl ?_); refine gU (some 51) Try.func182 #[.int .i64 (wrap64 (fG + ((aY l0 fO).f0)))] ?_; (with_reducible refine (span_in.calls (wrap64 (fG + ((aY l0 fO).f0))) true _ Un.out).mono ?_); rintro e w' ⟨rfl, ⟨nd, rfl⟩⟩; refine ⟨_, rfl, ?_⟩; clear Un) | (go_at_call 182; (with_reducible refine (span_in.calls (wrap64 ((wrap64 (fG + ((aY l0 fO).f0))) + (QM))) true _ Uo.out).mono ?_); rintro e w' ⟨rfl, ⟨nd, rfl⟩⟩; clear Uo))
          go_roundg mZ
          case measure => have := jy.out; have := IL.out; omega
          case rel => exact ⟨(wrap64 ((wrap64 (fG + ((aY l0 fO).f0))) + ((aY l0 fO).f1))), (wrap64 (dU + ((aY l0 fO).f1))), (wrap64 (fO + 1)), (by first | rfl | (simp; done) | (simp [*]; done)), (by first | rfl | (simp; done) | (simp [*]; done)), (by first | rfl | (simp; done) | (simp [*]; done)), H', ⟨by have := jy.out; have := IL.out; omega⟩, ⟨by repeat (first | (with_reducible first | exact HB.out | apply ak | apply ay | apply aH | refine aA ?_ bU.out) | exact HB.out)⟩⟩
         replace c25 := Bool.eq_false_iff.mpr c25
         subst c25
         have H1 : (some false) = some r := by rw [if_neg (show ¬ (false = true) by decide)] at H; exact H
         clear H
         have H := H1
         clear H1
         obtain rfl := Option.some.inj H
         have DW := au aJ.out
         have DX := aC aJ.out
         go_wp2_with (first | ((with_reducible refine bP (f := 182) rfl ?_); refine gU (some 51) Try.func182 #[.int .i64 (wrap64 (fG + ((aY l0 fO).f0)))] ?_; (with_reducible refine (span_in.calls (wrap64 (fG + ((aY l0 fO).f0))) true _ Un.out).mono ?_); rintro e w' ⟨rfl, ⟨nd, rfl⟩⟩; refine ⟨_, rfl, ?_⟩; clear Un) | (go_at_call 182; (with_reducible refine (span_in.calls (wrap64 ((wrap64 (fG + ((aY l0 fO).f0))) + (QM))) false _ Uo.out).mono ?_); rintro e w' ⟨rfl, ⟨nd, rfl⟩⟩; clear Uo))
         go_ret
         exact ⟨by first | rfl | (simp [aU, aV] <;> rfl) | (simp only [← G6]; first | rfl | (simp [aU, aV] <;> rfl)) | (simp [*, aU, aV] <;> rfl), by repeat (first | (with_reducible first | exact HB.out | apply ak | apply ay | apply aH | refine aA ?_ bU.out) | exact HB.out)⟩
        replace QL := Bool.eq_false_iff.mpr QL
        subst QL
        have H1 : (some false) = some r := by rw [if_neg (show ¬ (false = true) by decide)] at H; exact H
        clear H
        have H := H1
        clear H1
        obtain rfl := Option.some.inj H
        have aaH := au aJ.out
        have aaI := aC aJ.out
        go_wp2_with (first | ((with_reducible refine bP (f := 182) rfl ?_); refine gU (some 51) Try.func182 #[.int .i64 (wrap64 (fG + ((aY l0 fO).f0)))] ?_; (with_reducible refine (span_in.calls (wrap64 (fG + ((aY l0 fO).f0))) false _ Un.out).mono ?_); rintro e w' ⟨rfl, ⟨nd, rfl⟩⟩; refine ⟨_, rfl, ?_⟩; clear Un))
        go_ret
        exact ⟨by first | rfl | (simp [aU, aV] <;> rfl) | (simp [*, aU, aV] <;> rfl), by repeat (first | (with_reducible first | exact HB.out | apply ak | apply ay | apply aH | refine aA ?_ bU.out) | exact HB.out)⟩
     rw [if_neg c4] at H
     exact absurd H (by simp)
    rw [if_neg c3] at H
    exact absurd H (by simp)
   rw [if_neg c2] at H
   have c2b0 : decide (fO < (l0.length : Int)) = false := ahH c2
   clear c2
   obtain rfl := Option.some.inj H
   go_wp2
   go_ret
   exact ⟨by first | rfl | (simp [aU, aV] <;> rfl) | (simp [*, aU, aV] <;> rfl), by repeat (first | (with_reducible first | exact HB.out | apply ak | apply ay | apply aH) | exact HB.out)⟩
def span_Check.f (k : Nat) (l0 : List (dQ)) : Option (Int) := if (l0.length : Int) > 1024 then (some 12) else ((span_right.f k l0).bind fun dV => (if dV = true then (some 0) else (some 20)))
set_option maxHeartbeats 8000000 in
set_option maxRecDepth 100000 in
theorem span_Check.calls (k : Nat) (A0 : Option Addr) (c0 : Nat) (l0 : List (dQ)) (r : Int) (w : World) (hr0 : Kd.C jq w A0 l0.length l0) (hc0 : l0.length ≤ c0) (h : span_Check.f k l0 = some r) :
  Calls Try.prog 164 #[.slice A0 l0.length c0] w fun e w' => e = .returned (.int .i64 r) ∧ Below w.heap.size w w' := by
 have HR0 := ah hr0
 have uH := ah hc0
 clear hr0 hc0
 have HB := ah (Below.refl w.heap.size w)
 have H : (if (l0.length : Int) > 1024 then (some 12) else ((span_right.f k l0).bind fun dV => (if dV = true then (some 0) else (some 20)))) = some r := h
 clear h
 by_cases c2 : (l0.length : Int) > 1024
 ·rw [if_pos c2] at H
  have c2b0 : decide (1024 < (l0.length : Int)) = true := ahG c2
  have c2b1 : decide (1024 < l0.length) = true := ahG (by omega)
  clear c2
  obtain rfl := Option.some.inj H
  go_enter Try.func164, Try.ntmps164
  go_wp2
  go_ret
  exact ⟨by first | rfl | (simp [aU, aV] <;> rfl) | (simp [*, aU, aV] <;> rfl), by repeat (first | (with_reducible first | exact HB.out | apply ak | apply ay | apply aH) | exact HB.out)⟩
 rw [if_neg c2] at H
 have c2b0 : decide (1024 < (l0.length : Int)) = false := ahH c2
 have c2b1 : decide (1024 < l0.length) = false := ahH (by omega)
 clear c2
 replace H := Option.bind_eq_some_iff.mp H
 obtain ⟨dV, G7, H⟩ := H
 replace H : (if dV = true then (some 0) else (some 20)) = some r := H
 have A3 := ah G7
 clear G7
 by_cases c4 : dV = true
 ·subst c4
  have H1 : (some 0) = some r := by rw [if_pos rfl] at H; exact H
  clear H
  have H := H1
  clear H1
  obtain rfl := Option.some.inj H
  go_enter Try.func164, Try.ntmps164
  go_wp2_with (first | ((with_reducible refine bP (f := 178) rfl ?_); refine gU (some 9) Try.func178 #[.slice A0 l0.length c0] ?_; (with_reducible refine (span_right.calls k _ _ l0 true _ ?dK ?dL A3.out).mono ?_); (case dK => exact Kd.jV HR0.out); (case dL => exact uH.out); rintro e w5 ⟨rfl, hb⟩; refine ⟨_, rfl, ?_⟩; replace HB := ah (aZ (bg HB.out) hb); (try clear hb); (try clear hb2); (try clear hk); (try clear hi); clear A3))
  go_ret
  exact ⟨by first | rfl | (simp [aU, aV] <;> rfl) | (simp [*, aU, aV] <;> rfl), by repeat (first | (with_reducible first | exact HB.out | apply ak | apply ay | apply aH) | exact HB.out)⟩
 replace c4 := Bool.eq_false_iff.mpr c4
 subst c4
 have H1 : (some 20) = some r := by rw [if_neg (show ¬ (false = true) by decide)] at H; exact H
 clear H
 have H := H1
 clear H1
 obtain rfl := Option.some.inj H
 go_enter Try.func164, Try.ntmps164
 go_wp2_with (first | ((with_reducible refine bP (f := 178) rfl ?_); refine gU (some 9) Try.func178 #[.slice A0 l0.length c0] ?_; (with_reducible refine (span_right.calls k _ _ l0 false _ ?dK ?dL A3.out).mono ?_); (case dK => exact Kd.jV HR0.out); (case dL => exact uH.out); rintro e w6 ⟨rfl, hb⟩; refine ⟨_, rfl, ?_⟩; replace HB := ah (aZ (bg HB.out) hb); (try clear hb); (try clear hb2); (try clear hk); (try clear hi); clear A3))
 go_ret
 exact ⟨by first | rfl | (simp [aU, aV] <;> rfl) | (simp [*, aU, aV] <;> rfl), by repeat (first | (with_reducible first | exact HB.out | apply ak | apply ay | apply aH) | exact HB.out)⟩
def span_Count.l0 : Nat → Int → List (dQ) → Int → Int → Option (Int)
 | 0, _, _, _, _ => none
 | k + 1, x3, x9, x10, x11 => if x11 < x10 then (if 0 ≤ x11 then (if x11 < (x9.length : Int) then (span_Count.l0 k (wrap64 (x3 + ((aY x9 x11).f1))) x9 x10 (wrap64 (x11 + 1))) else (none)) else (none)) else (some x3)
def span_Count.f (k : Nat) (l0 : List (dQ)) : Option (Int) := (span_Check.f k l0).bind fun dV => (if dV = 0 then (span_Count.l0 k 0 l0 (l0.length : Int) 0) else (some 0))
set_option maxHeartbeats 8000000 in
set_option maxRecDepth 100000 in
theorem span_Count.calls (k : Nat) (A0 : Option Addr) (c0 : Nat) (l0 : List (dQ)) (r : Int) (w : World) (hr0 : Kd.C jq w A0 l0.length l0) (hc0 : l0.length ≤ c0) (h : span_Count.f k l0 = some r) :
  Calls Try.prog 165 #[.slice A0 l0.length c0] w fun e w' => e = .returned (.int .i64 r) ∧ Below w.heap.size w w' := by
 have JW := Try.underlying113
 have HR0 := ah hr0
 have uH := ah hc0
 clear hr0 hc0
 have HB := ah (Below.refl w.heap.size w)
 have H : ((span_Check.f k l0).bind fun dV => (if dV = 0 then (span_Count.l0 k 0 l0 (l0.length : Int) 0) else (some 0))) = some r := h
 clear h
 replace H := Option.bind_eq_some_iff.mp H
 obtain ⟨dV, tC, H⟩ := H
 replace H : (if dV = 0 then (span_Count.l0 k 0 l0 (l0.length : Int) 0) else (some 0)) = some r := H
 have A2 := ah tC
 clear tC
 by_cases c3 : dV = 0
 ·rw [if_pos c3] at H
  have c3b0 : (dV == 0) = true := beq_iff_eq.mpr c3
  have c3b1 : (dV != 0) = false := bne_eq_false_iff_eq.mpr c3
  clear c3
  have H' := ah H
  clear H
  go_enter Try.func165, Try.ntmps165
  go_wp2_with (first | ((with_reducible refine bP (f := 164) rfl ?_); refine gU (some 7) Try.func164 #[.slice A0 l0.length c0] ?_; (with_reducible refine (span_Check.calls k _ _ l0 dV _ ?dK ?dL A2.out).mono ?_); (case dK => exact Kd.jV HR0.out); (case dL => exact uH.out); rintro e w4 ⟨rfl, hb⟩; refine ⟨_, rfl, ?_⟩; replace HB := ah (aZ (bg HB.out) hb); (try clear hb); (try clear hb2); (try clear hk); (try clear hi); clear A2))
  go_loopg [3, 11] k (fun kq v3 v11 w' => ∃ (fG : Int) (jr : Int), v3 = .int .i64 fG ∧ v11 = .int .i64 jr ∧ aj (span_Count.l0 kq fG l0 (l0.length : Int) jr = some r) ∧ aj (kq ≤ k) ∧ aj (Below w.heap.size w w'))
  case atStart => exact ⟨(0), (0), (by first | rfl | (simp; done) | (simp [*]; done)), (by first | rfl | (simp; done) | (simp [*]; done)), H', ⟨Nat.le_refl _⟩, ⟨by repeat (first | (with_reducible first | exact HB.out | apply ak | apply ay | apply aH) | exact HB.out)⟩⟩
  case round =>
   clear H'
   try clear c1
   try clear p2
   try clear c3
   try clear c3b0
   try clear c3b1
   obtain ⟨fG, jr, rfl, rfl, HA, jy, HB⟩ := hrel
   cases gk with
   | zero => exact absurd HA.out (by simp [span_Count.l0])
   | succ k1 =>
    have H := HA.out
    clear HA
    simp only [span_Count.l0] at H
    by_cases c5 : jr < (l0.length : Int)
    ·rw [if_pos c5] at H
     have c5b0 : decide (jr < (l0.length : Int)) = true := ahG c5
     clear c5
     by_cases c6 : 0 ≤ jr
     ·rw [if_pos c6] at H
      have c6b0 : decide (0 ≤ jr) = true := ahG c6
      clear c6
      by_cases c7 : jr < (l0.length : Int)
      ·rw [if_pos c7] at H
       have c7b0 : decide (jr < (l0.length : Int)) = true := ahG c7
       clear c7
       have H' := ah H
       clear H
       have nG : 0 ≤ (jr : Int) := ahF (by assumption)
       have nH : jr < (l0.length : Int) := ahF (by assumption)
       obtain ⟨wY, xG, lD, oq⟩ := pX HR0.out jr nG nH
       cases xG
       replace lD := (HB.out.cell (World.block_lt_of_cell? w _ lD)).trans lD
       replace oq := (HB.out.cell (World.block_lt_of_cell? w _ oq)).trans oq
       replace nG := eq_true nG
       replace nH := eq_true nH
       go_wp2_with (first | ((with_reducible refine fK (N := 5) rfl ?_); refine fA ?hg (N := 5) ?hd (cs := #[.int .i64 0, .int .i64 0]) (t := 113) ?hr ?_; (case hd => rfl); (case hg => rfl); (case hr => first | (go_simp; done) | (go_simp; rfl)); intro Vr hg w8 hbox hb; have Vs := ah (hbox); have aej := ah ((by rw [hg]; exact (aQ (bg HB.out)) : w.heap.size ≤ Vr)); have YL := ah ((by rw [hg]; exact (aQ (bg HB.out)) : w.heap.size ≤ Vr)); replace HB := ah (aZ (bg HB.out) hb); clear hb hbox hg; have rJ := au Vs.out; have rM := aC Vs.out))
       go_roundg k1
       case measure => have := jy.out; omega
       case rel => exact ⟨(wrap64 (fG + ((aY l0 jr).f1))), (wrap64 (jr + 1)), (by first | rfl | (simp; done) | (simp [*]; done)), (by first | rfl | (simp; done) | (simp [*]; done)), H', ⟨by have := jy.out; omega⟩, ⟨by repeat (first | (with_reducible first | exact HB.out | apply ak | apply ay | apply aH | refine aA ?_ YL.out) | exact HB.out)⟩⟩
      rw [if_neg c7] at H
      exact absurd H (by simp)
     rw [if_neg c6] at H
     exact absurd H (by simp)
    rw [if_neg c5] at H
    have c5b0 : decide (jr < (l0.length : Int)) = false := ahH c5
    clear c5
    obtain rfl := Option.some.inj H
    go_wp2
    go_ret
    exact ⟨by first | rfl | (simp [aU, aV] <;> rfl) | (simp [*, aU, aV] <;> rfl), by repeat (first | (with_reducible first | exact HB.out | apply ak | apply ay | apply aH) | exact HB.out)⟩
 rw [if_neg c3] at H
 have c3b0 : (dV == 0) = false := beq_eq_false_iff_ne.mpr c3
 have c3b1 : (dV != 0) = true := bne_iff_ne.mpr c3
 obtain rfl := Option.some.inj H
 go_enter Try.func165, Try.ntmps165
 go_wp2_with (first | ((with_reducible refine bP (f := 164) rfl ?_); refine gU (some 7) Try.func164 #[.slice A0 l0.length c0] ?_; (with_reducible refine (span_Check.calls k _ _ l0 dV _ ?dK ?dL A2.out).mono ?_); (case dK => exact Kd.jV HR0.out); (case dL => exact uH.out); rintro e w10 ⟨rfl, hb⟩; refine ⟨_, rfl, ?_⟩; replace HB := ah (aZ (bg HB.out) hb); (try clear hb); (try clear hb2); (try clear hk); (try clear hi); clear A2))
 go_ret
 exact ⟨by first | rfl | (simp [aU, aV] <;> rfl) | (simp [*, aU, aV] <;> rfl), by repeat (first | (with_reducible first | exact HB.out | apply ak | apply ay | apply aH) | exact HB.out)⟩
mutual
def span_From.l0 : Nat → List Int → List (dQ) → Int → List Int → Int → Int → Option ((List (dQ)) × Int)
 | 0, _, _, _, _, _, _ => none
 | k + 1, x0, x4, x5, x8, x9, x10 => if x10 < x9 then (if 0 ≤ x10 then (if x10 < (x8.length : Int) then ((span_in.f (rd x8 x10)).bind fun fH => (if fH = true then (if x10 > 0 then (span_From.j1 k x0 x4 x5 x10 (rd x8 x10) x8 x9 x10 (decide ((rd x8 x10) < x5))) else (span_From.j1 k x0 x4 x5 x10 (rd x8 x10) x8 x9 x10 false)) else (span_From.j1 k x0 x4 x5 x10 (rd x8 x10) x8 x9 x10 true))) else (none)) else (none)) else (if (x0.length : Int) > 4096 then (some (([] : List (dQ)), 12)) else (if (x4.length : Int) > 1024 then (some (([] : List (dQ)), 12)) else (some (x4, 0))))
def span_From.j1 : Nat → List Int → List (dQ) → Int → Int → Int → List Int → Int → Int → Bool → Option ((List (dQ)) × Int)
 | 0, _, _, _, _, _, _, _, _, _ => none
 | k + 1, x0, x4, x5, x6, x7, x8, x9, x10, QS => if QS = true then (some (([] : List (dQ)), 11)) else (if x6 = 0 then (if x4.length < 8796093022208 then ((some (x4 ++ [(⟨wrap64 (x7 - x5), 0⟩ : dQ)] : List (dQ))).bind fun gy => (if 0 ≤ (wrap64 ((gy.length : Int) - 1)) then (if (wrap64 ((gy.length : Int) - 1)) < (gy.length : Int) then (span_From.l0 k x0 (gy.set ((wrap64 ((gy.length : Int) - 1)) : Int).toNat (⟨(aY gy (wrap64 ((gy.length : Int) - 1))).f0, wrap64 (((aY gy (wrap64 ((gy.length : Int) - 1))).f1) + 1)⟩ : dQ)) (wrap64 (x7 + 1)) x8 x9 (wrap64 (x10 + 1))) else (none)) else (none))) else (none)) else (if x7 > x5 then (if x4.length < 8796093022208 then ((some (x4 ++ [(⟨wrap64 (x7 - x5), 0⟩ : dQ)] : List (dQ))).bind fun jm => (if 0 ≤ (wrap64 ((jm.length : Int) - 1)) then (if (wrap64 ((jm.length : Int) - 1)) < (jm.length : Int) then (span_From.l0 k x0 (jm.set ((wrap64 ((jm.length : Int) - 1)) : Int).toNat (⟨(aY jm (wrap64 ((jm.length : Int) - 1))).f0, wrap64 (((aY jm (wrap64 ((jm.length : Int) - 1))).f1) + 1)⟩ : dQ)) (wrap64 (x7 + 1)) x8 x9 (wrap64 (x10 + 1))) else (none)) else (none))) else (none)) else (if 0 ≤ (wrap64 ((x4.length : Int) - 1)) then (if (wrap64 ((x4.length : Int) - 1)) < (x4.length : Int) then (span_From.l0 k x0 (x4.set ((wrap64 ((x4.length : Int) - 1)) : Int).toNat (⟨(aY x4 (wrap64 ((x4.length : Int) - 1))).f0, wrap64 (((aY x4 (wrap64 ((x4.length : Int) - 1))).f1) + 1)⟩ : dQ)) (wrap64 (x7 + 1)) x8 x9 (wrap64 (x10 + 1))) else (none)) else (none))))
end
def span_From.f (k : Nat) (l0 : List Int) : Option ((List (dQ)) × Int) := span_From.l0 k l0 ([] : List (dQ)) 0 l0 (l0.length : Int) 0
set_option maxHeartbeats 8000000 in
set_option maxRecDepth 100000 in
theorem span_From.calls (k : Nat) (A0 : Option Addr) (c0 : Nat) (l0 : List Int) (r1 : List (dQ)) (r2 : Int) (w : World) (hr0 : Kd.C (Kd.int .i64) w A0 l0.length l0) (hc0 : l0.length ≤ c0) (h : span_From.f k l0 = some (r1, r2)) :
  Calls Try.prog 172 #[.slice A0 l0.length c0] w fun e w' => ∃ mW : Value, e = .returned (.tuple #[mW, .int .i64 r2]) ∧ Kd.R jq 113 w' w.heap.size (fun _ => True) mW r1 ∧ Below w.heap.size w w' := by
 have JW := Try.underlying113
 have HR0 := ah hr0
 have uH := ah hc0
 clear hr0 hc0
 have HB := ah (Below.refl w.heap.size w)
 have H : (span_From.l0 k l0 ([] : List (dQ)) 0 l0 (l0.length : Int) 0) = some (r1, r2) := h
 clear h
 have H' := ah H
 clear H
 go_enter Try.func172, Try.ntmps172
 go_wp2
 go_loopg [4, 5, 10] k (fun kq v4 v5 v10 w' => ∃ (dU : List (dQ)) (bG : Int) (dI : Int), v5 = .int .i64 bG ∧ v10 = .int .i64 dI ∧ aj (span_From.l0 kq l0 dU bG l0 (l0.length : Int) dI = some (r1, r2)) ∧ aj (kq ≤ k) ∧ aj (Kd.R jq 113 w' w.heap.size (fun _ => True) v4 dU) ∧ aj (Below w.heap.size w w'))
 case atStart => exact ⟨(([] : List (dQ))), (0), (0), (by first | rfl | (simp; done) | (simp [*]; done)), (by first | rfl | (simp; done) | (simp [*]; done)), H', ⟨Nat.le_refl _⟩, ⟨by first | exact Kd.eY _ _ _ _ _ | exact Kd.ig _ _ _ _ _ | exact Kd.iq _ _ _ _ _ | exact Kd.gY _ _ _ _ _ | exact Kd.gZ _ _ _ _ _⟩, ⟨by repeat (first | (with_reducible first | exact HB.out | apply ak | apply ay | apply aH) | exact HB.out)⟩⟩
 case round =>
  clear H'
  try clear c1
  obtain ⟨dU, bG, dI, rfl, rfl, HA, jy, HO_4, HB⟩ := hrel
  cases gk with
  | zero => exact absurd HA.out (by simp [span_From.l0])
  | succ k1 =>
   have H := HA.out
   clear HA
   simp only [span_From.l0] at H
   by_cases c2 : dI < (l0.length : Int)
   ·rw [if_pos c2] at H
    have c2b0 : decide (dI < (l0.length : Int)) = true := ahG c2
    clear c2
    by_cases c3 : 0 ≤ dI
    ·rw [if_pos c3] at H
     have c3b0 : decide (0 ≤ dI) = true := ahG c3
     clear c3
     by_cases c4 : dI < (l0.length : Int)
     ·rw [if_pos c4] at H
      have c4b0 : decide (dI < (l0.length : Int)) = true := ahG c4
      clear c4
      have MW := ah H
      clear H
      have fC : 0 ≤ (dI : Int) := ahF (by assumption)
      have fD : dI < (l0.length : Int) := ahF (by assumption)
      obtain ⟨kE, jM, bW⟩ := Kd.gB HR0.out dI fC fD
      cases jM
      replace bW := (HB.out.cell (World.block_lt_of_cell? w _ bW)).trans bW
      replace fC := eq_true fC
      replace fD := eq_true fD
      go_upto_region 6 with (fail)
      go_cut [26] (fun v26 wc => ∃ (kq : Nat) (Ah : Bool), v26 = .bool Ah ∧ aj (span_From.j1 kq l0 dU bG dI (rd l0 dI) l0 (l0.length : Int) dI Ah = some (r1, r2)) ∧ aj (kq ≤ k1) ∧ aj (Kd.R jq 113 wc w.heap.size (fun _ => True) u4 dU) ∧ aj (Below w.heap.size w wc))
      case first =>
       have H := MW.out
       clear MW
       replace H := Option.bind_eq_some_iff.mp H
       obtain ⟨fH, Vt, H⟩ := H
       replace H : (if fH = true then (if dI > 0 then (span_From.j1 k1 l0 dU bG dI (rd l0 dI) l0 (l0.length : Int) dI (decide ((rd l0 dI) < bG))) else (span_From.j1 k1 l0 dU bG dI (rd l0 dI) l0 (l0.length : Int) dI false)) else (span_From.j1 k1 l0 dU bG dI (rd l0 dI) l0 (l0.length : Int) dI true)) = some (r1, r2) := H
       have A6 := ah Vt
       clear Vt
       by_cases c7 : fH = true
       ·subst c7
        have H1 : (if dI > 0 then (span_From.j1 k1 l0 dU bG dI (rd l0 dI) l0 (l0.length : Int) dI (decide ((rd l0 dI) < bG))) else (span_From.j1 k1 l0 dU bG dI (rd l0 dI) l0 (l0.length : Int) dI false)) = some (r1, r2) := by rw [if_pos rfl] at H; exact H
        clear H
        have H := H1
        clear H1
        by_cases c8 : dI > 0
        ·rw [if_pos c8] at H
         have c8b0 : decide (0 < dI) = true := ahG c8
         clear c8
         (first | rw [c8b0] | (simp only [bI, bM]; rw [c8b0]) | skip)
         have H' := ah H
         clear H
         go_wp2_with (first | ((with_reducible refine bP (f := 182) rfl ?_); refine gU (some 16) Try.func182 #[.int .i64 (rd l0 dI)] ?_; (with_reducible refine (span_in.calls (rd l0 dI) true _ A6.out).mono ?_); rintro e w' ⟨rfl, ⟨nd, rfl⟩⟩; refine ⟨_, rfl, ?_⟩; clear A6))
         go_meet
         case rel => exact ⟨_, (decide ((rd l0 dI) < bG)), (by first | rfl | (simp; done) | (simp [*]; done)), H', ⟨by have := jy.out; first | omega | exact Nat.le_refl _⟩, ⟨by (repeat with_reducible refine Kd.kQ ?_); exact HO_4.out⟩, ⟨by repeat (first | (with_reducible first | exact HB.out | apply ak | apply ay | apply aH) | exact HB.out)⟩⟩
        rw [if_neg c8] at H
        have c8b0 : decide (0 < dI) = false := ahH c8
        clear c8
        (first | rw [c8b0] | (simp only [bI, bM]; rw [c8b0]) | skip)
        have H' := ah H
        clear H
        go_wp2_with (first | ((with_reducible refine bP (f := 182) rfl ?_); refine gU (some 16) Try.func182 #[.int .i64 (rd l0 dI)] ?_; (with_reducible refine (span_in.calls (rd l0 dI) true _ A6.out).mono ?_); rintro e w' ⟨rfl, ⟨nd, rfl⟩⟩; refine ⟨_, rfl, ?_⟩; clear A6))
        go_meet
        case rel => exact ⟨_, (false), (by first | rfl | (simp; done) | (simp [*]; done)), H', ⟨by have := jy.out; first | omega | exact Nat.le_refl _⟩, ⟨by (repeat with_reducible refine Kd.kQ ?_); exact HO_4.out⟩, ⟨by repeat (first | (with_reducible first | exact HB.out | apply ak | apply ay | apply aH) | exact HB.out)⟩⟩
       replace c7 := Bool.eq_false_iff.mpr c7
       subst c7
       have H1 : (span_From.j1 k1 l0 dU bG dI (rd l0 dI) l0 (l0.length : Int) dI true) = some (r1, r2) := by rw [if_neg (show ¬ (false = true) by decide)] at H; exact H
       clear H
       have H := H1
       clear H1
       have H' := ah H
       clear H
       go_wp2_with (first | ((with_reducible refine bP (f := 182) rfl ?_); refine gU (some 16) Try.func182 #[.int .i64 (rd l0 dI)] ?_; (with_reducible refine (span_in.calls (rd l0 dI) false _ A6.out).mono ?_); rintro e w' ⟨rfl, ⟨nd, rfl⟩⟩; refine ⟨_, rfl, ?_⟩; clear A6))
       go_meet
       case rel => exact ⟨_, (true), (by first | rfl | (simp; done) | (simp [*]; done)), H', ⟨by have := jy.out; first | omega | exact Nat.le_refl _⟩, ⟨by (repeat with_reducible refine Kd.kQ ?_); exact HO_4.out⟩, ⟨by repeat (first | (with_reducible first | exact HB.out | apply ak | apply ay | apply aH) | exact HB.out)⟩⟩
      case rest =>
       clear MW
       try clear c1
       try clear p1
       try clear q1
       try clear hx1
       try clear c2
       try clear c2b0
       try clear p2
       try clear c3
       try clear c3b0
       try clear c4
       try clear c4b0
       try clear c7
       try clear c8
       try clear c8b0
       try clear bW
       try clear fC
       try clear fD
       obtain ⟨kq, Ah, rfl, HA, IL, HO_4, HB⟩ := hcut
       cases kq with
       | zero => exact absurd HA.out (by simp [span_From.j1])
       | succ mZ =>
        have H := HA.out
        clear HA
        simp only [span_From.j1] at H
        by_cases c9 : Ah = true
        ·subst c9
         have H1 : (some (([] : List (dQ)), 11)) = some (r1, r2) := by rw [if_pos rfl] at H; exact H
         clear H
         have H := H1
         clear H1
         simp only [Option.some.injEq, Prod.mk.injEq] at H
         obtain ⟨rfl, rfl⟩ := H
         go_wp2
         go_ret2
         exact ⟨_, by first | rfl | (simp [aU, aV] <;> rfl) | (simp [*, aU, aV] <;> rfl), by first | exact Kd.eY _ _ _ _ _ | exact Kd.ig _ _ _ _ _ | exact Kd.iq _ _ _ _ _ | exact Kd.gY _ _ _ _ _ | exact Kd.gZ _ _ _ _ _, by repeat (first | (with_reducible first | exact HB.out | apply ak | apply ay | apply aH) | exact HB.out)⟩
        replace c9 := Bool.eq_false_iff.mpr c9
        subst c9
        have H1 : (if dI = 0 then (if dU.length < 8796093022208 then ((some (dU ++ [(⟨wrap64 ((rd l0 dI) - bG), 0⟩ : dQ)] : List (dQ))).bind fun gy => (if 0 ≤ (wrap64 ((gy.length : Int) - 1)) then (if (wrap64 ((gy.length : Int) - 1)) < (gy.length : Int) then (span_From.l0 mZ l0 (gy.set ((wrap64 ((gy.length : Int) - 1)) : Int).toNat (⟨(aY gy (wrap64 ((gy.length : Int) - 1))).f0, wrap64 (((aY gy (wrap64 ((gy.length : Int) - 1))).f1) + 1)⟩ : dQ)) (wrap64 ((rd l0 dI) + 1)) l0 (l0.length : Int) (wrap64 (dI + 1))) else (none)) else (none))) else (none)) else (if (rd l0 dI) > bG then (if dU.length < 8796093022208 then ((some (dU ++ [(⟨wrap64 ((rd l0 dI) - bG), 0⟩ : dQ)] : List (dQ))).bind fun jm => (if 0 ≤ (wrap64 ((jm.length : Int) - 1)) then (if (wrap64 ((jm.length : Int) - 1)) < (jm.length : Int) then (span_From.l0 mZ l0 (jm.set ((wrap64 ((jm.length : Int) - 1)) : Int).toNat (⟨(aY jm (wrap64 ((jm.length : Int) - 1))).f0, wrap64 (((aY jm (wrap64 ((jm.length : Int) - 1))).f1) + 1)⟩ : dQ)) (wrap64 ((rd l0 dI) + 1)) l0 (l0.length : Int) (wrap64 (dI + 1))) else (none)) else (none))) else (none)) else (if 0 ≤ (wrap64 ((dU.length : Int) - 1)) then (if (wrap64 ((dU.length : Int) - 1)) < (dU.length : Int) then (span_From.l0 mZ l0 (dU.set ((wrap64 ((dU.length : Int) - 1)) : Int).toNat (⟨(aY dU (wrap64 ((dU.length : Int) - 1))).f0, wrap64 (((aY dU (wrap64 ((dU.length : Int) - 1))).f1) + 1)⟩ : dQ)) (wrap64 ((rd l0 dI) + 1)) l0 (l0.length : Int) (wrap64 (dI + 1))) else (none)) else (none)))) = some (r1, r2) := by rw [if_neg (show ¬ (false = true) by decide)] at H; exact H
        clear H
        have H := H1
        clear H1
        by_cases c10 : dI = 0
        ·rw [if_pos c10] at H
         have c10b0 : (dI == 0) = true := beq_iff_eq.mpr c10
         have c10b1 : (dI != 0) = false := bne_eq_false_iff_eq.mpr c10
         clear c10
         by_cases c11 : dU.length < 8796093022208
         ·rw [if_pos c11] at H
          have YM := ah c11
          clear c11
          obtain ⟨gy, jY⟩ : ∃ y_ : List (dQ), y_ = (dU ++ [(⟨wrap64 ((rd l0 dI) - bG), 0⟩ : dQ)]) := ⟨_, rfl⟩
          replace H : (if 0 ≤ (wrap64 ((gy.length : Int) - 1)) then (if (wrap64 ((gy.length : Int) - 1)) < (gy.length : Int) then (span_From.l0 mZ l0 (gy.set ((wrap64 ((gy.length : Int) - 1)) : Int).toNat (⟨(aY gy (wrap64 ((gy.length : Int) - 1))).f0, wrap64 (((aY gy (wrap64 ((gy.length : Int) - 1))).f1) + 1)⟩ : dQ)) (wrap64 ((rd l0 dI) + 1)) l0 (l0.length : Int) (wrap64 (dI + 1))) else (none)) else (none)) = some (r1, r2) := by first | (rw [jY]; with_reducible exact H) | (have jA := (Option.bind_some _ _).symm.trans H; rw [jY]; with_reducible exact jA) | (have jA := (Option.bind_some _ _).symm.trans H; with_reducible exact jA) | with_reducible exact H | (rw [jY]; exact H) | exact H
          have sN := ah jY
          clear jY
          obtain ⟨ng, QT⟩ : ∃ j_ : Int, (wrap64 ((gy.length : Int) - 1)) = j_ := ⟨_, rfl⟩
          replace H : (if 0 ≤ (ng) then (if (ng) < (gy.length : Int) then (span_From.l0 mZ l0 (gy.set ((ng) : Int).toNat (⟨(aY gy (ng)).f0, wrap64 (((aY gy (ng)).f1) + 1)⟩ : dQ)) (wrap64 ((rd l0 dI) + 1)) l0 (l0.length : Int) (wrap64 (dI + 1))) else (none)) else (none)) = some (r1, r2) := by first | (rw [QT] at H; exact H) | (simp only [QT] at H ⊢; exact H)
          have hji12w : (IntKind.i64.wrap ((gy.length : Int) - 1)) = ng := (bI _).trans QT
          by_cases c13 : 0 ≤ (ng)
          ·rw [if_pos c13] at H
           have c13b0 : decide (0 ≤ (ng)) = true := ahG c13
           clear c13
           by_cases c14 : (ng) < (gy.length : Int)
           ·rw [if_pos c14] at H
            have c14b0 : decide ((ng) < (gy.length : Int)) = true := ahG c14
            clear c14
            obtain ⟨Dz, nI⟩ : ∃ y_ : List (dQ), y_ = (gy.set ((ng) : Int).toNat (⟨(aY gy (ng)).f0, wrap64 (((aY gy (ng)).f1) + 1)⟩ : dQ)) := ⟨_, rfl⟩
            replace H : (span_From.l0 mZ l0 Dz (wrap64 ((rd l0 dI) + 1)) l0 (l0.length : Int) (wrap64 (dI + 1))) = some (r1, r2) := by first | (rw [nI]; with_reducible exact H) | (have jA := (Option.bind_some _ _).symm.trans H; rw [nI]; with_reducible exact jA) | (have jA := (Option.bind_some _ _).symm.trans H; with_reducible exact jA) | with_reducible exact H | (rw [nI]; exact H) | exact H
            have Ei := ah nI
            clear nI
            have H' := ah H
            clear H
            go_wp2_with (first | ((with_reducible refine eG (b := .append) (xs := #[.tmp 34, .tmp 39]) rfl ?_); (try (refine uf (by rfl) ?_; dsimp only)); at_builtin; refine Kd.je jq (w0 := w) w.heap.size rfl (.tmp 34) (.tmp 39) 26 113 (.agg #[(.int .i64 0), (.int .i64 0)]) 16 rfl Try.underlying26 II rfl (by decide) (by omega) u4 dU (⟨wrap64 ((rd l0 dI) - bG), 0⟩ : dQ) [.int .i64 (wrap64 ((rd l0 dI) - bG)), .int .i64 0] (fun _ => True) (fun _ => False) rfl rfl ?aP (fun _ hk => hk.elim) ?aF ?aO ?aB ?aS ?aL ?_; (case aP => exact ug _ _ _ (⟨wrap64 ((rd l0 dI) - bG), 0⟩ : dQ)); (case aB => exact (bg HB.out)); (case aF => exact (fun _ _ => trivial)); (case aO => exact (Kd.fJ HO_4.out)); (case aS => exact (aQ (bg HB.out))); (case aL => have := YM.out; omega); intro xH w16 ho hb hg hat; rw [← sN.out] at ho; have eF := ah (ho); replace HB := ah (hb); clear HO_4 ho hb hg hat; obtain ⟨YN, Ur, WB⟩ := Kd.dw eF.out; subst WB; have vY : 0 ≤ ((ng) : Int) := ahF (by assumption); have vZ : (ng) < (gy.length : Int) := ahF (by assumption); obtain ⟨JX, IQ, qJ, Us⟩ := pX (Kd.bF eF.out).2.2 (ng) vY vZ; cases IQ; replace vY := eq_true vY; replace vZ := eq_true vZ; have p15 : 0 ≤ ((ng) : Int) := ahF (by assumption); have q15 : ((ng) : Int) < ((gy.length : Int) : Int) := ahF (by assumption); obtain ⟨JY, YO, Pv, YP, acv, afF, YQ⟩ := Kd.qC eF.out (by omega); (first | cases Pv | (injection Pv with ea_ en_ ec_; (first | subst ea_ | (injection ea_ with ea_; subst ea_)); subst ec_; clear en_)); have acw := ah YP; have afG := ah YQ; clear YP acv YQ; (first | simp only [add_plain] at qJ | skip); (first | simp only [add_plain] at Us | skip); obtain ⟨afH, YR, YS, QU, QV⟩ := Kd.jC eF.out JQ ((ng) : Int) p15 q15; obtain rfl := rG YS; have acy : w16.cell? ⟨JY, ((ng) : Int).toNat * 2, none⟩ = some (.int .i64 ((aY gy (ng)).f0)) := QU 0 _ rfl; have acz : w16.cell? ⟨JY, ((ng) : Int).toNat * 2 + 1, none⟩ = some (.int .i64 ((aY gy (ng)).f1)) := QU 1 _ rfl; have acA : w16.frozen? ⟨JY, ((ng) : Int).toNat * 2, none⟩ = false := QV 0; have acB : w16.frozen? ⟨JY, ((ng) : Int).toNat * 2 + 1, none⟩ = false := QV 1; clear YR QU QV YS; replace p15 := eq_true p15; replace q15 := eq_true q15; have YT := ah (show Kd.R jq 113 w16 w.heap.size (fun _ => True) (.slice (some ⟨JY, 0, none⟩) gy.length Ur) gy from (Kd.fJ eF.out)); obtain ⟨afI, Vw, YU, QW, Vx⟩ := Kd.jC YT.out JQ ((ng) : Int) (ahF (by assumption)) (by have h_ : ((ng) : Int) < ((gy.length : Int) : Int) := ahF (by assumption); first | exact h_ | (have e_ := (Kd.bF eF.out).1; omega) | simpa using h_); obtain rfl := rG YU; have WE := Kd.qF YT.out ((ng) : Int) (ahF (by assumption)) (by have h_ : ((ng) : Int) < ((gy.length : Int) : Int) := ahF (by assumption); first | exact h_ | (have e_ := (Kd.bF eF.out).1; omega) | simpa using h_) (seg := [.int .i64 (wrap64 (((aY gy (ng)).f1) + 1))]) (j := 1) Vw QW (show 2 ≤ 2 from by decide) (x' := (⟨(aY gy (ng)).f0, wrap64 (((aY gy (ng)).f1) + 1)⟩ : dQ)) (ug _ _ _ (⟨(aY gy (ng)).f0, wrap64 (((aY gy (ng)).f1) + 1)⟩ : dQ) ) (fun _ hk => hk); have WG := QW 1 _ rfl; (try simp only [show (jq).sz = 2 from rfl, Nat.mul_one, Nat.add_zero] at WG); have WH := Vx 1; (try simp only [show (jq).sz = 2 from rfl, Nat.mul_one, Nat.add_zero] at WH); clear Vw QW Vx YU) | ((with_reducible refine kK (t := 3) (p := 50) rfl ?_); refine jS (t := 3) (p := 50) (v := ?vo_w19) (w1 := (w16.setCell ⟨JY, ((ng) : Int).toNat * 2 + 1, none⟩ (.int .i64 (wrap64 (((aY gy (ng)).f1) + 1))))) ?hg ?ho ?hn ?hr ?_; (case ho => rfl); (case hg => rfl); (case hn => rfl); (case hr => first | (go_simp; done) | (go_simp; rfl)); intro zo hw; have hg : w16.grownBy zo (some JY) := (by rw [hw]; exact WE.2); have hp_ : Kd.R jq 113 zo w.heap.size (fun _ => True) (.slice (some ⟨JY, 0, none⟩) gy.length Ur) Dz := (by rw [hw, Ei.out]; exact WE.1); clear WE; replace eF := ah (hp_); replace HB := ah ((by rw [hw]; exact aA (HB.out) acw.out : Below w.heap.size w zo)); clear hg hw hp_))
            go_roundg mZ
            case measure => have := jy.out; have := IL.out; omega
            case rel => exact ⟨(Dz), (wrap64 ((rd l0 dI) + 1)), (wrap64 (dI + 1)), (by first | rfl | (simp; done) | (simp [*]; done)), (by first | rfl | (simp; done) | (simp [*]; done)), H', ⟨by have := jy.out; have := IL.out; omega⟩, ⟨by (repeat with_reducible refine Kd.kQ ?_); exact eF.out⟩, ⟨by repeat (first | (with_reducible first | exact HB.out | apply ak | apply ay | apply aH) | exact HB.out)⟩⟩
           rw [if_neg c14] at H
           exact absurd H (by simp)
          rw [if_neg c13] at H
          exact absurd H (by simp)
         rw [if_neg c11] at H
         exact absurd H (by simp)
        rw [if_neg c10] at H
        have c10b0 : (dI == 0) = false := beq_eq_false_iff_ne.mpr c10
        have c10b1 : (dI != 0) = true := bne_iff_ne.mpr c10
        by_cases c20 : (rd l0 dI) > bG
        ·rw [if_pos c20] at H
         have c20b0 : decide (bG < (rd l0 dI)) = true := ahG c20
         clear c20
         by_cases c21 : dU.length < 8796093022208
         ·rw [if_pos c21] at H
          have YV := ah c21
          clear c21
          obtain ⟨jm, nJ⟩ : ∃ y_ : List (dQ), y_ = (dU ++ [(⟨wrap64 ((rd l0 dI) - bG), 0⟩ : dQ)]) := ⟨_, rfl⟩
          replace H : (if 0 ≤ (wrap64 ((jm.length : Int) - 1)) then (if (wrap64 ((jm.length : Int) - 1)) < (jm.length : Int) then (span_From.l0 mZ l0 (jm.set ((wrap64 ((jm.length : Int) - 1)) : Int).toNat (⟨(aY jm (wrap64 ((jm.length : Int) - 1))).f0, wrap64 (((aY jm (wrap64 ((jm.length : Int) - 1))).f1) + 1)⟩ : dQ)) (wrap64 ((rd l0 dI) + 1)) l0 (l0.length : Int) (wrap64 (dI + 1))) else (none)) else (none)) = some (r1, r2) := by first | (rw [nJ]; with_reducible exact H) | (have jA := (Option.bind_some _ _).symm.trans H; rw [nJ]; with_reducible exact jA) | (have jA := (Option.bind_some _ _).symm.trans H; with_reducible exact jA) | with_reducible exact H | (rw [nJ]; exact H) | exact H
          have vJ := ah nJ
          clear nJ
          obtain ⟨ni, QX⟩ : ∃ j_ : Int, (wrap64 ((jm.length : Int) - 1)) = j_ := ⟨_, rfl⟩
          replace H : (if 0 ≤ (ni) then (if (ni) < (jm.length : Int) then (span_From.l0 mZ l0 (jm.set ((ni) : Int).toNat (⟨(aY jm (ni)).f0, wrap64 (((aY jm (ni)).f1) + 1)⟩ : dQ)) (wrap64 ((rd l0 dI) + 1)) l0 (l0.length : Int) (wrap64 (dI + 1))) else (none)) else (none)) = some (r1, r2) := by first | (rw [QX] at H; exact H) | (simp only [QX] at H ⊢; exact H)
          have hji22w : (IntKind.i64.wrap ((jm.length : Int) - 1)) = ni := (bI _).trans QX
          by_cases c23 : 0 ≤ (ni)
          ·rw [if_pos c23] at H
           have c23b0 : decide (0 ≤ (ni)) = true := ahG c23
           clear c23
           by_cases c24 : (ni) < (jm.length : Int)
           ·rw [if_pos c24] at H
            have c24b0 : decide ((ni) < (jm.length : Int)) = true := ahG c24
            clear c24
            obtain ⟨y112, hy112⟩ : ∃ y_ : List (dQ), y_ = (jm.set ((ni) : Int).toNat (⟨(aY jm (ni)).f0, wrap64 (((aY jm (ni)).f1) + 1)⟩ : dQ)) := ⟨_, rfl⟩
            replace H : (span_From.l0 mZ l0 y112 (wrap64 ((rd l0 dI) + 1)) l0 (l0.length : Int) (wrap64 (dI + 1))) = some (r1, r2) := by first | (rw [hy112]; with_reducible exact H) | (have jA := (Option.bind_some _ _).symm.trans H; rw [hy112]; with_reducible exact jA) | (have jA := (Option.bind_some _ _).symm.trans H; with_reducible exact jA) | with_reducible exact H | (rw [hy112]; exact H) | exact H
            have JZ := ah hy112
            clear hy112
            have H' := ah H
            clear H
            go_wp2_with (first | ((with_reducible refine eG (b := .append) (xs := #[.tmp 34, .tmp 39]) rfl ?_); (try (refine uf (by rfl) ?_; dsimp only)); at_builtin; refine Kd.je jq (w0 := w) w.heap.size rfl (.tmp 34) (.tmp 39) 26 113 (.agg #[(.int .i64 0), (.int .i64 0)]) 16 rfl Try.underlying26 II rfl (by decide) (by omega) u4 dU (⟨wrap64 ((rd l0 dI) - bG), 0⟩ : dQ) [.int .i64 (wrap64 ((rd l0 dI) - bG)), .int .i64 0] (fun _ => True) (fun _ => False) rfl rfl ?aP (fun _ hk => hk.elim) ?aF ?aO ?aB ?aS ?aL ?_; (case aP => exact ug _ _ _ (⟨wrap64 ((rd l0 dI) - bG), 0⟩ : dQ)); (case aB => exact (bg HB.out)); (case aF => exact (fun _ _ => trivial)); (case aO => exact (Kd.fJ HO_4.out)); (case aS => exact (aQ (bg HB.out))); (case aL => have := YV.out; omega); intro v109 TL ho hb hg hat; rw [← vJ.out] at ho; have vK := ah (ho); replace HB := ah (hb); clear HO_4 ho hb hg hat; obtain ⟨YW, QY, MX⟩ := Kd.dw vK.out; subst MX; have zq : 0 ≤ ((ni) : Int) := ahF (by assumption); have zu : (ni) < (jm.length : Int) := ahF (by assumption); obtain ⟨Ou, MZ, ou, Ut⟩ := pX (Kd.bF vK.out).2.2 (ni) zq zu; cases MZ; replace zq := eq_true zq; replace zu := eq_true zu; have p25 : 0 ≤ ((ni) : Int) := ahF (by assumption); have q25 : ((ni) : Int) < ((jm.length : Int) : Int) := ahF (by assumption); obtain ⟨J3, afJ, YX, YZ, acD, afK, Y0⟩ := Kd.qC vK.out (by omega); (first | cases YX | (injection YX with ea_ en_ ec_; (first | subst ea_ | (injection ea_ with ea_; subst ea_)); subst ec_; clear en_)); have acE := ah YZ; have afL := ah Y0; clear YZ acD Y0; (first | simp only [add_plain] at ou | skip); (first | simp only [add_plain] at Ut | skip); obtain ⟨afM, Y1, Y2, QZ, Q7⟩ := Kd.jC vK.out JQ ((ni) : Int) p25 q25; obtain rfl := rG Y2; have acF : TL.cell? ⟨J3, ((ni) : Int).toNat * 2, none⟩ = some (.int .i64 ((aY jm (ni)).f0)) := QZ 0 _ rfl; have acG : TL.cell? ⟨J3, ((ni) : Int).toNat * 2 + 1, none⟩ = some (.int .i64 ((aY jm (ni)).f1)) := QZ 1 _ rfl; have acH : TL.frozen? ⟨J3, ((ni) : Int).toNat * 2, none⟩ = false := Q7 0; have acI : TL.frozen? ⟨J3, ((ni) : Int).toNat * 2 + 1, none⟩ = false := Q7 1; clear Y1 QZ Q7 Y2; replace p25 := eq_true p25; replace q25 := eq_true q25; have Y3 := ah (show Kd.R jq 113 TL w.heap.size (fun _ => True) (.slice (some ⟨J3, 0, none⟩) jm.length QY) jm from (Kd.fJ vK.out)); obtain ⟨afN, Vy, Y4, Q8, Vz⟩ := Kd.jC Y3.out JQ ((ni) : Int) (ahF (by assumption)) (by have h_ : ((ni) : Int) < ((jm.length : Int) : Int) := ahF (by assumption); first | exact h_ | (have e_ := (Kd.bF vK.out).1; omega) | simpa using h_); obtain rfl := rG Y4; have WI := Kd.qF Y3.out ((ni) : Int) (ahF (by assumption)) (by have h_ : ((ni) : Int) < ((jm.length : Int) : Int) := ahF (by assumption); first | exact h_ | (have e_ := (Kd.bF vK.out).1; omega) | simpa using h_) (seg := [.int .i64 (wrap64 (((aY jm (ni)).f1) + 1))]) (j := 1) Vy Q8 (show 2 ≤ 2 from by decide) (x' := (⟨(aY jm (ni)).f0, wrap64 (((aY jm (ni)).f1) + 1)⟩ : dQ)) (ug _ _ _ (⟨(aY jm (ni)).f0, wrap64 (((aY jm (ni)).f1) + 1)⟩ : dQ) ) (fun _ hk => hk); have WJ := Q8 1 _ rfl; (try simp only [show (jq).sz = 2 from rfl, Nat.mul_one, Nat.add_zero] at WJ); have WL := Vz 1; (try simp only [show (jq).sz = 2 from rfl, Nat.mul_one, Nat.add_zero] at WL); clear Vy Q8 Vz Y4) | ((with_reducible refine kK (t := 3) (p := 50) rfl ?_); refine jS (t := 3) (p := 50) (v := ?vo_w29) (w1 := (TL.setCell ⟨J3, ((ni) : Int).toNat * 2 + 1, none⟩ (.int .i64 (wrap64 (((aY jm (ni)).f1) + 1))))) ?hg ?ho ?hn ?hr ?_; (case ho => rfl); (case hg => rfl); (case hn => rfl); (case hr => first | (go_simp; done) | (go_simp; rfl)); intro TM hw; have hg : TL.grownBy TM (some J3) := (by rw [hw]; exact WI.2); have hp_ : Kd.R jq 113 TM w.heap.size (fun _ => True) (.slice (some ⟨J3, 0, none⟩) jm.length QY) y112 := (by rw [hw, JZ.out]; exact WI.1); clear WI; replace vK := ah (hp_); replace HB := ah ((by rw [hw]; exact aA (HB.out) acE.out : Below w.heap.size w TM)); clear hg hw hp_))
            go_roundg mZ
            case measure => have := jy.out; have := IL.out; omega
            case rel => exact ⟨(y112), (wrap64 ((rd l0 dI) + 1)), (wrap64 (dI + 1)), (by first | rfl | (simp; done) | (simp [*]; done)), (by first | rfl | (simp; done) | (simp [*]; done)), H', ⟨by have := jy.out; have := IL.out; omega⟩, ⟨by (repeat with_reducible refine Kd.kQ ?_); exact vK.out⟩, ⟨by repeat (first | (with_reducible first | exact HB.out | apply ak | apply ay | apply aH) | exact HB.out)⟩⟩
           rw [if_neg c24] at H
           exact absurd H (by simp)
          rw [if_neg c23] at H
          exact absurd H (by simp)
         rw [if_neg c21] at H
         exact absurd H (by simp)
        rw [if_neg c20] at H
        have c20b0 : decide (bG < (rd l0 dI)) = false := ahH c20
        clear c20
        obtain ⟨ny, Q9⟩ : ∃ j_ : Int, (wrap64 ((dU.length : Int) - 1)) = j_ := ⟨_, rfl⟩
        replace H : (if 0 ≤ (ny) then (if (ny) < (dU.length : Int) then (span_From.l0 mZ l0 (dU.set ((ny) : Int).toNat (⟨(aY dU (ny)).f0, wrap64 (((aY dU (ny)).f1) + 1)⟩ : dQ)) (wrap64 ((rd l0 dI) + 1)) l0 (l0.length : Int) (wrap64 (dI + 1))) else (none)) else (none)) = some (r1, r2) := by first | (rw [Q9] at H; exact H) | (simp only [Q9] at H ⊢; exact H)
        have hji30w : (IntKind.i64.wrap ((dU.length : Int) - 1)) = ny := (bI _).trans Q9
        by_cases c31 : 0 ≤ (ny)
        ·rw [if_pos c31] at H
         have c31b0 : decide (0 ≤ (ny)) = true := ahG c31
         clear c31
         by_cases c32 : (ny) < (dU.length : Int)
         ·rw [if_pos c32] at H
          have c32b0 : decide ((ny) < (dU.length : Int)) = true := ahG c32
          clear c32
          obtain ⟨y114, hy114⟩ : ∃ y_ : List (dQ), y_ = (dU.set ((ny) : Int).toNat (⟨(aY dU (ny)).f0, wrap64 (((aY dU (ny)).f1) + 1)⟩ : dQ)) := ⟨_, rfl⟩
          replace H : (span_From.l0 mZ l0 y114 (wrap64 ((rd l0 dI) + 1)) l0 (l0.length : Int) (wrap64 (dI + 1))) = some (r1, r2) := by first | (rw [hy114]; with_reducible exact H) | (have jA := (Option.bind_some _ _).symm.trans H; rw [hy114]; with_reducible exact jA) | (have jA := (Option.bind_some _ _).symm.trans H; with_reducible exact jA) | with_reducible exact H | (rw [hy114]; exact H) | exact H
          have Y5 := ah hy114
          clear hy114
          have H' := ah H
          clear H
          obtain ⟨Y6, Uu, Uw⟩ := Kd.dw HO_4.out
          subst Uw
          have rO : 0 ≤ ((ny) : Int) := ahF (by assumption)
          have rP : (ny) < (dU.length : Int) := ahF (by assumption)
          obtain ⟨G8, BO, wu, Ux⟩ := pX (Kd.bF HO_4.out).2.2 (ny) rO rP
          cases BO
          replace rO := eq_true rO
          replace rP := eq_true rP
          have p33 : 0 ≤ ((ny) : Int) := ahF (by assumption)
          have q33 : ((ny) : Int) < ((dU.length : Int) : Int) := ahF (by assumption)
          obtain ⟨J4, afO, Y7, Y8, acK, afP, Y9⟩ := Kd.qC HO_4.out (by omega)
          (first | cases Y7 | (injection Y7 with ea_ en_ ec_; (first | subst ea_ | (injection ea_ with ea_; subst ea_)); subst ec_; clear en_))
          have acL := ah Y8
          have afQ := ah Y9
          clear Y8 acK Y9
          (first | simp only [add_plain] at wu | skip)
          (first | simp only [add_plain] at Ux | skip)
          obtain ⟨afR, Za, Zb, Rf, Rh⟩ := Kd.jC HO_4.out JQ ((ny) : Int) p33 q33
          obtain rfl := rG Zb
          have acM : wc.cell? ⟨J4, ((ny) : Int).toNat * 2, none⟩ = some (.int .i64 ((aY dU (ny)).f0)) := Rf 0 _ rfl
          have acN : wc.cell? ⟨J4, ((ny) : Int).toNat * 2 + 1, none⟩ = some (.int .i64 ((aY dU (ny)).f1)) := Rf 1 _ rfl
          have acO : wc.frozen? ⟨J4, ((ny) : Int).toNat * 2, none⟩ = false := Rh 0
          have acP : wc.frozen? ⟨J4, ((ny) : Int).toNat * 2 + 1, none⟩ = false := Rh 1
          clear Za Rf Rh Zb
          replace p33 := eq_true p33
          replace q33 := eq_true q33
          have Zc := ah (show Kd.R jq 113 wc w.heap.size (fun _ => True) (.slice (some ⟨J4, 0, none⟩) dU.length Uu) dU from (Kd.fJ HO_4.out))
          obtain ⟨afS, VA, Zd, Ri, VB⟩ := Kd.jC Zc.out JQ ((ny) : Int) (ahF (by assumption)) (by have h_ : ((ny) : Int) < ((dU.length : Int) : Int) := ahF (by assumption); first | exact h_ | (have e_ := (Kd.bF HO_4.out).1; omega) | simpa using h_)
          obtain rfl := rG Zd
          have WM := Kd.qF Zc.out ((ny) : Int) (ahF (by assumption)) (by have h_ : ((ny) : Int) < ((dU.length : Int) : Int) := ahF (by assumption); first | exact h_ | (have e_ := (Kd.bF HO_4.out).1; omega) | simpa using h_) (seg := [.int .i64 (wrap64 (((aY dU (ny)).f1) + 1))]) (j := 1) VA Ri (show 2 ≤ 2 from by decide) (x' := (⟨(aY dU (ny)).f0, wrap64 (((aY dU (ny)).f1) + 1)⟩ : dQ)) (ug _ _ _ (⟨(aY dU (ny)).f0, wrap64 (((aY dU (ny)).f1) + 1)⟩ : dQ) ) (fun _ hk => hk)
          have WO := Ri 1 _ rfl
          (try simp only [show (jq).sz = 2 from rfl, Nat.mul_one, Nat.add_zero] at WO)
          have WQ := VB 1
          (try simp only [show (jq).sz = 2 from rfl, Nat.mul_one, Nat.add_zero] at WQ)
          clear VA Ri VB Zd
          go_wp2_with (first | ((with_reducible refine kK (t := 3) (p := 50) rfl ?_); refine jS (t := 3) (p := 50) (v := ?vo_w36) (w1 := (wc.setCell ⟨J4, ((ny) : Int).toNat * 2 + 1, none⟩ (.int .i64 (wrap64 (((aY dU (ny)).f1) + 1))))) ?hg ?ho ?hn ?hr ?_; (case ho => rfl); (case hg => rfl); (case hn => rfl); (case hr => first | (go_simp; done) | (go_simp; rfl)); intro Yt hw; have hg : wc.grownBy Yt (some J4) := (by rw [hw]; exact WM.2); have hp_ : Kd.R jq 113 Yt w.heap.size (fun _ => True) (.slice (some ⟨J4, 0, none⟩) dU.length Uu) y114 := (by rw [hw, Y5.out]; exact WM.1); clear WM; replace HO_4 := ah (hp_); replace HB := ah ((by rw [hw]; exact aA (HB.out) acL.out : Below w.heap.size w Yt)); clear hg hw hp_))
          go_roundg mZ
          case measure => have := jy.out; have := IL.out; omega
          case rel => exact ⟨(y114), (wrap64 ((rd l0 dI) + 1)), (wrap64 (dI + 1)), (by first | rfl | (simp; done) | (simp [*]; done)), (by first | rfl | (simp; done) | (simp [*]; done)), H', ⟨by have := jy.out; have := IL.out; omega⟩, ⟨by (repeat with_reducible refine Kd.kQ ?_); exact HO_4.out⟩, ⟨by repeat (first | (with_reducible first | exact HB.out | apply ak | apply ay | apply aH) | exact HB.out)⟩⟩
         rw [if_neg c32] at H
         exact absurd H (by simp)
        rw [if_neg c31] at H
        exact absurd H (by simp)
     rw [if_neg c4] at H
     exact absurd H (by simp)
    rw [if_neg c3] at H
    exact absurd H (by simp)
   rw [if_neg c2] at H
   have c2b0 : decide (dI < (l0.length : Int)) = false := ahH c2
   clear c2
   by_cases c37 : (l0.length : Int) > 4096
   ·rw [if_pos c37] at H
    have c37b0 : decide (4096 < (l0.length : Int)) = true := ahG c37
    have c37b1 : decide (4096 < l0.length) = true := ahG (by omega)
    clear c37
    simp only [Option.some.injEq, Prod.mk.injEq] at H
    obtain ⟨rfl, rfl⟩ := H
    go_wp2
    go_ret2
    exact ⟨_, by first | rfl | (simp [aU, aV] <;> rfl) | (simp [*, aU, aV] <;> rfl), by first | exact Kd.eY _ _ _ _ _ | exact Kd.ig _ _ _ _ _ | exact Kd.iq _ _ _ _ _ | exact Kd.gY _ _ _ _ _ | exact Kd.gZ _ _ _ _ _, by repeat (first | (with_reducible first | exact HB.out | apply ak | apply ay | apply aH) | exact HB.out)⟩
   rw [if_neg c37] at H
   have c37b0 : decide (4096 < (l0.length : Int)) = false := ahH c37
   have c37b1 : decide (4096 < l0.length) = false := ahH (by omega)
   clear c37
   by_cases Px : (dU.length : Int) > 1024
   ·rw [if_pos Px] at H
    have c38b0 : decide (1024 < (dU.length : Int)) = true := ahG Px
    have c38b1 : decide (1024 < dU.length) = true := ahG (by omega)
    clear Px
    simp only [Option.some.injEq, Prod.mk.injEq] at H
    obtain ⟨rfl, rfl⟩ := H
    obtain ⟨Ze, Zf, Uy⟩ := Kd.dw HO_4.out
    subst Uy
    go_wp2
    go_ret2
    exact ⟨_, by first | rfl | (simp [aU, aV] <;> rfl) | (simp [*, aU, aV] <;> rfl), by first | exact Kd.eY _ _ _ _ _ | exact Kd.ig _ _ _ _ _ | exact Kd.iq _ _ _ _ _ | exact Kd.gY _ _ _ _ _ | exact Kd.gZ _ _ _ _ _, by repeat (first | (with_reducible first | exact HB.out | apply ak | apply ay | apply aH) | exact HB.out)⟩
   rw [if_neg Px] at H
   have c38b0 : decide (1024 < (dU.length : Int)) = false := ahH Px
   have c38b1 : decide (1024 < dU.length) = false := ahH (by omega)
   clear Px
   simp only [Option.some.injEq, Prod.mk.injEq] at H
   obtain ⟨rfl, rfl⟩ := H
   obtain ⟨afT, afU, acQ⟩ := Kd.dw HO_4.out
   subst acQ
   go_wp2
   go_ret2
   exact ⟨_, by first | rfl | (simp [aU, aV] <;> rfl) | (simp [*, aU, aV] <;> rfl), by (repeat with_reducible refine Kd.kQ ?_); exact HO_4.out, by repeat (first | (with_reducible first | exact HB.out | apply ak | apply ay | apply aH) | exact HB.out)⟩
end Go.Proofs.Ytooiccpmngmapaa.P