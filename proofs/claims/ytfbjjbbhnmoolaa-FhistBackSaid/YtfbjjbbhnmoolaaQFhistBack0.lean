/- FhistBack: the part that this text bears of the proof that the statement answers true for every input. No condition. -/
import Derived.Test.YtfbjjbbhnmoolaaProg
import Derived.Below
import Derived.Deep.Draws
import Derived.Deep.AppendLies
import Derived.Maps.AppendAt
import Derived.OwnWalk
import Derived.Laws.BytesArg
import Derived.Laws.MakeOwn
import Derived.Laws.OwnMore
import Derived.Deep.OwnRows
import Derived.Tactics
import Derived.Lib.ConvBytes
import Derived.Laws.Slices
import Derived.WalkKit
import Derived.KernelRfl
import Derived.RowKit3
import Derived.Deep.LoopGhost
import Derived.Deep.QuietTactic
import Derived.BigQuiet
import Derived.WideLaws
import Derived.Deep.DeepCutAuto
import Derived.Deep.CutBlock
import Derived.Deep.RegionHeld3
import Derived.Laws.Rows
import Derived.Lib.AppendStr
import Derived.ArgAppend
import Derived.Laws.IdiomCopy
import Derived.OrdersHeld
import Derived.Laws.BitsLemmas
import Derived.RowKit
import Derived.Deep.Slices
import Derived.ChangeArms
import Derived.Shelf.Abstract
import Derived.WalkSpells
import Derived.Laws.StructEq
import Derived.Test.YtfbjjbbhnmoolaaQFhistBackWWords
import Derived.Test.YtfbjjbbhnmoolaaQFhistBackWLast
import Derived.Test.YtfbjjbbhnmoolaaQFhistBackWTab
import Derived.Test.YtfbjjbbhnmoolaaQFhistBackWFour
import Derived.Test.YtfbjjbbhnmoolaaQFhistBackWQPut
import Derived.Test.YtfbjjbbhnmoolaaQFhistBackWApart
import Derived.Test.YtfbjjbbhnmoolaaQFhistBackWArr
import Derived.Test.YtfbjjbbhnmoolaaQFhistBackWZeros
import Derived.Test.YtfbjjbbhnmoolaaQFhistBackWFoot
import Derived.Test.YtfbjjbbhnmoolaaQFhistBackWKept
import Derived.Test.YtfbjjbbhnmoolaaQFhistBackWShare
import Derived.Test.YtfbjjbbhnmoolaaQFhistBackWN
import Derived.Test.YtfbjjbbhnmoolaaQFhistBackWFootNe
import Derived.Test.YtfbjjbbhnmoolaaQFhistBackWAt
import Derived.Test.YtfbjjbbhnmoolaaQFhistBackWEqStruct
import Derived.Test.YtfbjjbbhnmoolaaQFhistBackWRepsOne
import Derived.Test.YtfbjjbbhnmoolaaQFhistBackWInv
import Derived.Test.YtfbjjbbhnmoolaaQFhistBackWInvWords
import Derived.Test.YtfbjjbbhnmoolaaQFhistBackWGuard
import Derived.Test.YtfbjjbbhnmoolaaQFhistBackWNEv
import Derived.Test.YtfbjjbbhnmoolaaQFhistBackWMore
import Derived.Test.YtfbjjbbhnmoolaaRows
set_option linter.unusedVariables false
set_option linter.unusedSimpArgs false
namespace Go.Proofs.Ytfbjjbbhnmoolaa.P
open Go.RowKit Go.Proofs.YtfbjjbbhnmoolaaW.PrintWords Go.Proofs.YtfbjjbbhnmoolaaW.PrintLast Go.Proofs.YtfbjjbbhnmoolaaW.PrintMore
attribute [local go_sem] max2_int min2_int max_two min_two max_three min_three max_four min_four
def errW : Option Int → Value
 | none => .nilIface
 | some c => .iface 0 (.int .i64 c)
theorem errW_none : errW none = .nilIface := rfl
theorem errW_some (c : Int) : errW (some c) = .iface 0 (.int .i64 c) := rfl
theorem info2 : (Try.prog.info? 2).map (fun i => (i.zero, i.size, i.bytes)) = some (some (.int .i64 0), 1, 8) := by kernel_rfl
theorem info3 : (Try.prog.info? 3).map (fun i => (i.zero, i.size, i.bytes)) = some (some (.int .i64 0), 1, 8) := by kernel_rfl
theorem info22 : (Try.prog.info? 22).map (fun i => (i.zero, i.size, i.bytes)) = some (some (.int .u64 0), 1, 8) := by kernel_rfl
theorem info86 : (Try.prog.info? 86).map (fun i => (i.zero, i.size, i.bytes)) = some (some (.agg #[(.int .i64 0), (.int .i64 0)]), 2, 16) := by kernel_rfl
theorem info109 : (Try.prog.info? 109).map (fun i => (i.zero, i.size, i.bytes)) = some (some (.agg #[(.int .i64 0), (.int .i64 0)]), 2, 16) := by kernel_rfl
theorem info117 : (Try.prog.info? 117).map (fun i => (i.zero, i.size, i.bytes)) = some (some (.agg #[(.int .i64 0), (.int .i64 0)]), 2, 16) := by kernel_rfl
theorem info137 : (Try.prog.info? 137).map (fun i => (i.zero, i.size, i.bytes)) = some (some (.agg #[(.int .i64 0), (.int .u64 0)]), 2, 16) := by kernel_rfl
structure S86 where
 f0 : Int
 f1 : Int
def z86 : S86 := ⟨(0 : Int), (0 : Int)⟩
def k86 : Kd S86 := Kd.iso (Kd.pair (Kd.int .i64) (Kd.int .i64)) (fun x : S86 => (x.f0, x.f1))
theorem k86_open {w : World} {x : S86} {cs : List Value} (h : k86.K w x cs) : cs = [.int .i64 x.f0, .int .i64 x.f1] := by
 obtain ⟨_, _, rfl, rfl, rfl⟩ := h
 exact rfl
theorem k86_openM {w : World} {base : Nat} {ok : Nat → Prop} {x : S86} {cs : List Value} (h : k86.M w base ok x cs) : cs = [.int .i64 x.f0, .int .i64 x.f1] := by
 obtain ⟨_, _, rfl, rfl, rfl⟩ := h
 exact rfl
theorem k86_mk (w : World) (x : S86)  : k86.K w x [.int .i64 x.f0, .int .i64 x.f1] := ⟨[.int .i64 x.f0], [.int .i64 x.f1], rfl, rfl, rfl⟩
theorem k86_mkM (w : World) (base : Nat) (ok : Nat → Prop) (x : S86)  : k86.M w base ok x [.int .i64 x.f0, .int .i64 x.f1] := ⟨[.int .i64 x.f0], [.int .i64 x.f1], rfl, rfl, rfl⟩
def rd_T86 (xs : List S86) (i : Int) : S86 := xs.getD i.toNat z86
theorem at_T86 {w : World} {A : Option Addr} {n : Nat} {xs : List S86} (h : Kd.C k86 w A n xs) (i : Int) (h0 : 0 ≤ i) (h1 : i < n) : ∃ ad , A = some ad ∧ w.cell? (ad.add (i.toNat * 2)) = some (.int .i64 (rd_T86 xs i).f0) ∧ w.cell? ⟨(ad.add (i.toNat * 2)).block, (ad.add (i.toNat * 2)).off + 1, none⟩ = some (.int .i64 (rd_T86 xs i).f1) := by
 obtain ⟨ad, c, e, _, hK, hc0⟩ := Kd.C_get h z86 i h0 h1
 have hc : ∀ j u, c[j]? = some u → w.cell? (ad.add (i.toNat * 2 + j)) = some u := hc0
 obtain rfl := k86_open hK
 exact ⟨ad, e, hc 0 _ rfl, by rw [← add_field _ _ 1 (by omega)]; exact hc 1 _ rfl⟩
structure S109 where
 f0 : Int
 f1 : Int
def z109 : S109 := ⟨(0 : Int), (0 : Int)⟩
def k109 : Kd S109 := Kd.iso (Kd.pair (Kd.int .i64) (Kd.int .i64)) (fun x : S109 => (x.f0, x.f1))
theorem k109_open {w : World} {x : S109} {cs : List Value} (h : k109.K w x cs) : cs = [.int .i64 x.f0, .int .i64 x.f1] := by
 obtain ⟨_, _, rfl, rfl, rfl⟩ := h
 exact rfl
theorem k109_mkM (w : World) (base : Nat) (ok : Nat → Prop) (x : S109)  : k109.M w base ok x [.int .i64 x.f0, .int .i64 x.f1] := ⟨[.int .i64 x.f0], [.int .i64 x.f1], rfl, rfl, rfl⟩
def rd_T109 (xs : List S109) (i : Int) : S109 := xs.getD i.toNat z109
theorem at_T109 {w : World} {A : Option Addr} {n : Nat} {xs : List S109} (h : Kd.C k109 w A n xs) (i : Int) (h0 : 0 ≤ i) (h1 : i < n) : ∃ ad , A = some ad ∧ w.cell? (ad.add (i.toNat * 2)) = some (.int .i64 (rd_T109 xs i).f0) ∧ w.cell? ⟨(ad.add (i.toNat * 2)).block, (ad.add (i.toNat * 2)).off + 1, none⟩ = some (.int .i64 (rd_T109 xs i).f1) := by
 obtain ⟨ad, c, e, _, hK, hc0⟩ := Kd.C_get h z109 i h0 h1
 have hc : ∀ j u, c[j]? = some u → w.cell? (ad.add (i.toNat * 2 + j)) = some u := hc0
 obtain rfl := k109_open hK
 exact ⟨ad, e, hc 0 _ rfl, by rw [← add_field _ _ 1 (by omega)]; exact hc 1 _ rfl⟩
structure S26 where
 f0 : Int
 f1 : Int
 f2 : Int
 f3 : Int
 f4 : Int
 f5 : (List S86)
 f6 : (List S86)
 f7 : (List Int)
 f8 : (List Int)
structure S137 where
 f0 : Int
 f1 : Int
def z137 : S137 := ⟨(0 : Int), (0 : Int)⟩
def k137 : Kd S137 := Kd.iso (Kd.pair (Kd.int .i64) (Kd.int .u64)) (fun x : S137 => (x.f0, x.f1))
theorem k137_open {w : World} {x : S137} {cs : List Value} (h : k137.K w x cs) : cs = [.int .i64 x.f0, .int .u64 x.f1] := by
 obtain ⟨_, _, rfl, rfl, rfl⟩ := h
 exact rfl
theorem k137_openM {w : World} {base : Nat} {ok : Nat → Prop} {x : S137} {cs : List Value} (h : k137.M w base ok x cs) : cs = [.int .i64 x.f0, .int .u64 x.f1] := by
 obtain ⟨_, _, rfl, rfl, rfl⟩ := h
 exact rfl
theorem k137_mkM (w : World) (base : Nat) (ok : Nat → Prop) (x : S137)  : k137.M w base ok x [.int .i64 x.f0, .int .u64 x.f1] := ⟨[.int .i64 x.f0], [.int .u64 x.f1], rfl, rfl, rfl⟩
def rd_T137 (xs : List S137) (i : Int) : S137 := xs.getD i.toNat z137
theorem at_T137 {w : World} {A : Option Addr} {n : Nat} {xs : List S137} (h : Kd.C k137 w A n xs) (i : Int) (h0 : 0 ≤ i) (h1 : i < n) : ∃ ad , A = some ad ∧ w.cell? (ad.add (i.toNat * 2)) = some (.int .i64 (rd_T137 xs i).f0) ∧ w.cell? ⟨(ad.add (i.toNat * 2)).block, (ad.add (i.toNat * 2)).off + 1, none⟩ = some (.int .u64 (rd_T137 xs i).f1) := by
 obtain ⟨ad, c, e, _, hK, hc0⟩ := Kd.C_get h z137 i h0 h1
 have hc : ∀ j u, c[j]? = some u → w.cell? (ad.add (i.toNat * 2 + j)) = some u := hc0
 obtain rfl := k137_open hK
 exact ⟨ad, e, hc 0 _ rfl, by rw [← add_field _ _ 1 (by omega)]; exact hc 1 _ rfl⟩
structure S31 where
 f0 : Int
 f1 : Int
 f2 : Int
 f3 : Int
 f4 : Int
 f5 : (List S86)
 f6 : (List S86)
 f7 : (List Int)
 f8 : (List Int)
def k31 : Kd S31 := Kd.iso (Kd.pair (Kd.int .i64) (Kd.pair (Kd.int .u64) (Kd.pair (Kd.int .u64) (Kd.pair (Kd.int .u64) (Kd.pair (Kd.int .u64) (Kd.pair (Kd.slice 86 k86) (Kd.pair (Kd.slice 86 k86) (Kd.pair (Kd.slice 22 (Kd.int .u64)) (Kd.slice 22 (Kd.int .u64)))))))))) (fun x : S31 => (x.f0, x.f1, x.f2, x.f3, x.f4, x.f5, x.f6, x.f7, x.f8))
theorem k31_open {w : World} {x : S31} {cs : List Value} (h : k31.K w x cs) : ∃ A5 c5 A6 c6 A7 c7 A8 c8, cs = [.int .i64 x.f0, .int .u64 x.f1, .int .u64 x.f2, .int .u64 x.f3, .int .u64 x.f4, .slice A5 x.f5.length c5, .slice A6 x.f6.length c6, .slice A7 x.f7.length c7, .slice A8 x.f8.length c8] ∧ x.f5.length ≤ c5 ∧ k86.C w A5 x.f5.length x.f5 ∧ x.f6.length ≤ c6 ∧ k86.C w A6 x.f6.length x.f6 ∧ x.f7.length ≤ c7 ∧ (Kd.int .u64).C w A7 x.f7.length x.f7 ∧ x.f8.length ≤ c8 ∧ (Kd.int .u64).C w A8 x.f8.length x.f8 := by
 obtain ⟨_, _, rfl, rfl, ⟨_, _, rfl, rfl, ⟨_, _, rfl, rfl, ⟨_, _, rfl, rfl, ⟨_, _, rfl, rfl, ⟨_, _, rfl, ⟨A5, c5, rfl, l5, g5⟩, ⟨_, _, rfl, ⟨A6, c6, rfl, l6, g6⟩, ⟨_, _, rfl, ⟨A7, c7, rfl, l7, g7⟩, ⟨A8, c8, rfl, l8, g8⟩⟩⟩⟩⟩⟩⟩⟩⟩ := h
 exact ⟨A5, c5, A6, c6, A7, c7, A8, c8, rfl, l5, g5, l6, g6, l7, g7, l8, g8⟩
theorem k31_mk (w : World) (x : S31) {A5 : Option Addr} {c5 : Nat} (l5 : x.f5.length ≤ c5) (g5 : k86.C w A5 x.f5.length x.f5) {A6 : Option Addr} {c6 : Nat} (l6 : x.f6.length ≤ c6) (g6 : k86.C w A6 x.f6.length x.f6) {A7 : Option Addr} {c7 : Nat} (l7 : x.f7.length ≤ c7) (g7 : (Kd.int .u64).C w A7 x.f7.length x.f7) {A8 : Option Addr} {c8 : Nat} (l8 : x.f8.length ≤ c8) (g8 : (Kd.int .u64).C w A8 x.f8.length x.f8) : k31.K w x [.int .i64 x.f0, .int .u64 x.f1, .int .u64 x.f2, .int .u64 x.f3, .int .u64 x.f4, .slice A5 x.f5.length c5, .slice A6 x.f6.length c6, .slice A7 x.f7.length c7, .slice A8 x.f8.length c8] := ⟨[.int .i64 x.f0], [.int .u64 x.f1, .int .u64 x.f2, .int .u64 x.f3, .int .u64 x.f4, .slice A5 x.f5.length c5, .slice A6 x.f6.length c6, .slice A7 x.f7.length c7, .slice A8 x.f8.length c8], rfl, rfl, ⟨[.int .u64 x.f1], [.int .u64 x.f2, .int .u64 x.f3, .int .u64 x.f4, .slice A5 x.f5.length c5, .slice A6 x.f6.length c6, .slice A7 x.f7.length c7, .slice A8 x.f8.length c8], rfl, rfl, ⟨[.int .u64 x.f2], [.int .u64 x.f3, .int .u64 x.f4, .slice A5 x.f5.length c5, .slice A6 x.f6.length c6, .slice A7 x.f7.length c7, .slice A8 x.f8.length c8], rfl, rfl, ⟨[.int .u64 x.f3], [.int .u64 x.f4, .slice A5 x.f5.length c5, .slice A6 x.f6.length c6, .slice A7 x.f7.length c7, .slice A8 x.f8.length c8], rfl, rfl, ⟨[.int .u64 x.f4], [.slice A5 x.f5.length c5, .slice A6 x.f6.length c6, .slice A7 x.f7.length c7, .slice A8 x.f8.length c8], rfl, rfl, ⟨[.slice A5 x.f5.length c5], [.slice A6 x.f6.length c6, .slice A7 x.f7.length c7, .slice A8 x.f8.length c8], rfl, ⟨A5, c5, rfl, l5, g5⟩, ⟨[.slice A6 x.f6.length c6], [.slice A7 x.f7.length c7, .slice A8 x.f8.length c8], rfl, ⟨A6, c6, rfl, l6, g6⟩, ⟨[.slice A7 x.f7.length c7], [.slice A8 x.f8.length c8], rfl, ⟨A7, c7, rfl, l7, g7⟩, ⟨A8, c8, rfl, l8, g8⟩⟩⟩⟩⟩⟩⟩⟩⟩
structure S117 where
 f0 : Int
 f1 : Int
def z117 : S117 := ⟨(0 : Int), (0 : Int)⟩
def k117 : Kd S117 := Kd.iso (Kd.pair (Kd.int .i64) (Kd.int .i64)) (fun x : S117 => (x.f0, x.f1))
theorem k117_open {w : World} {x : S117} {cs : List Value} (h : k117.K w x cs) : cs = [.int .i64 x.f0, .int .i64 x.f1] := by
 obtain ⟨_, _, rfl, rfl, rfl⟩ := h
 exact rfl
theorem k117_mkM (w : World) (base : Nat) (ok : Nat → Prop) (x : S117)  : k117.M w base ok x [.int .i64 x.f0, .int .i64 x.f1] := ⟨[.int .i64 x.f0], [.int .i64 x.f1], rfl, rfl, rfl⟩
def rd_T117 (xs : List S117) (i : Int) : S117 := xs.getD i.toNat z117
theorem at_T117 {w : World} {A : Option Addr} {n : Nat} {xs : List S117} (h : Kd.C k117 w A n xs) (i : Int) (h0 : 0 ≤ i) (h1 : i < n) : ∃ ad , A = some ad ∧ w.cell? (ad.add (i.toNat * 2)) = some (.int .i64 (rd_T117 xs i).f0) ∧ w.cell? ⟨(ad.add (i.toNat * 2)).block, (ad.add (i.toNat * 2)).off + 1, none⟩ = some (.int .i64 (rd_T117 xs i).f1) := by
 obtain ⟨ad, c, e, _, hK, hc0⟩ := Kd.C_get h z117 i h0 h1
 have hc : ∀ j u, c[j]? = some u → w.cell? (ad.add (i.toNat * 2 + j)) = some u := hc0
 obtain rfl := k117_open hK
 exact ⟨ad, e, hc 0 _ rfl, by rw [← add_field _ _ 1 (by omega)]; exact hc 1 _ rfl⟩
end Go.Proofs.Ytfbjjbbhnmoolaa.P
namespace Go.Proofs.Ytfbjjbbhnmoolaa.P
open Go.RowKit Go.Proofs.YtfbjjbbhnmoolaaW.PrintWords Go.Proofs.YtfbjjbbhnmoolaaW.PrintLast Go.Proofs.YtfbjjbbhnmoolaaW.PrintMore
attribute [local go_sem] max2_int min2_int max_two min_two max_three min_three max_four min_four
def inI (k : IntKind) (n : Int) : Prop := (Lit.int k n).wf = true
theorem inI_i64 {n : Int} (h : inI .i64 n) : -9223372036854775808 ≤ n ∧ n ≤ 9223372036854775807 := by
 have h2 : (Lit.int .i64 n).wf = true := h
 have e : IntKind.i64.min = -9223372036854775808 := by decide
 simp [Lit.wf, e] at h2
 exact h2
theorem inI_u64 {n : Int} (h : inI .u64 n) : 0 ≤ n ∧ n ≤ 18446744073709551615 := by
 have h2 : (Lit.int .u64 n).wf = true := h
 have e : IntKind.u64.min = 0 := by decide
 simp [Lit.wf, e] at h2
 exact h2
def Opens {α : Type} (P : Program) (t : TypeId) (d : Kd α) (wf : α → Prop) : Prop := ∀ {H : Type} (enc : TypeId × Value → H) (w : World) (base : Nat) (sp : Nat → Bool) (held : Bool) (fuel : Nat) (cs : List Value) (x : DataW H × List MemPlace),
 DataW.trod enc P w base sp held fuel t cs = some x → ∃ y, d.K w y cs ∧ wf y
theorem opens_int {P : Program} {t : TypeId} {k : IntKind} (ht : P.underlying t = some (.int k)) : Opens P t (Kd.int k) (inI k) := by
 intro H enc w base sp held fuel cs x h
 obtain ⟨n, rfl, _, hw⟩ := DataW.trod_int ht h
 exact ⟨n, rfl, hw⟩
theorem opens_slice {α : Type} {P : Program} {t e : TypeId} {d : Kd α} {wf : α → Prop} (ht : P.underlying t = some (.slice e)) (hs : P.cellsOf e = d.sz) (ho : Opens P e d wf) : Opens P t (Kd.slice e d) (fun xs => ∀ x ∈ xs, wf x) := by
 intro H enc w base sp held fuel cs x h
 rcases Deep.open_slice ht h with ⟨rfl, _⟩ | ⟨a, len, cap, m, n, D, Pl, rfl, hb, hl, hm, hmm, _, hx⟩
 ·exact ⟨[], ⟨none, 0, rfl, Nat.le_refl _, Kd.C_nil _ _⟩, fun x hx => by cases hx⟩
 ·have hlm : len ≤ m := by rw [hmm]; split <;> omega
  unfold maxLen at hm
  rw [hs] at hx
  have each : ∀ i, i < len → ∃ y : α, (∃ cs', cs'.length = d.sz ∧ d.K w y cs' ∧ ∀ j u, cs'[j]? = some u → w.cell? (a.add (i * d.sz + j)) = some u) ∧ wf y := by
   intro i hi
   obtain ⟨cs', h1, h2⟩ := hx i (by omega)
   obtain ⟨y, hk, hw⟩ := ho _ _ _ _ _ _ _ _ h2
   obtain ⟨_, hlen, hcell⟩ := World.cells?_some h1
   refine ⟨y, ⟨cs', hlen, hk, fun j u hu => ?_⟩, hw⟩
   have hj : j < cs'.length := (List.getElem?_eq_some_iff.1 hu).1
   have := hcell j (by omega)
   rw [Deep.add_add] at this
   rw [this]; exact hu
  by_cases h0 : len = 0
  ·subst h0
   exact ⟨[], ⟨some a, cap, rfl, Nat.zero_le _, ⟨rfl, by simp, fun h => absurd h (Nat.lt_irrefl 0)⟩⟩, fun x hx => by cases hx⟩
  ·obtain ⟨y0, _⟩ := each 0 (by omega)
   have : Inhabited α := ⟨y0⟩
   obtain ⟨f, hf⟩ := Deep.choose_lt each
   refine ⟨(List.range len).map f, ⟨some a, cap, by simp, by simpa using hl, ⟨by simp, by simp; omega, fun _ => ⟨a, rfl, fun j p hj => ?_⟩⟩⟩, fun x hx => ?_⟩
   ·rw [List.getElem?_map] at hj
    obtain ⟨i, hi, rfl⟩ := Option.map_eq_some_iff.1 hj
    obtain ⟨hlt, rfl⟩ := List.getElem?_eq_some_iff.1 hi
    simp only [List.length_range] at hlt
    simp only [List.getElem_range]
    obtain ⟨cs', h1, h2, h3⟩ := (hf j hlt).1
    exact ⟨cs', h1, h2, h3⟩
   ·obtain ⟨i, hi, rfl⟩ := List.mem_map.1 hx
    exact (hf i (List.mem_range.1 hi)).2
def wf86 (x : S86) : Prop := (inI .i64) x.f0 ∧ (inI .i64) x.f1
set_option maxRecDepth 100000 in
theorem opens86 : Opens Try.prog 86 k86 wf86 := by
 intro H enc w base sp held fuel cs x h
 obtain ⟨xs, n, rfl, _, hl, hxl, hf⟩ := DataW.trod_struct Try.underlying86 h
 have hc : cs.length = 2 := hl.trans (by kernel_rfl)
 match cs, hc with
 | [c0, c1], _ =>
  have g0 : DataW.trod enc Try.prog w base sp held n 3 ((([c0, c1] : List Value).drop 0).take (Try.prog.cellsOf 3)) = xs[0]? := hf 0 _ rfl
  rw [show Try.prog.cellsOf 3 = 1 from by kernel_rfl] at g0
  have e0 : xs[0]? = some (xs[0]'(by rw [hxl]; decide)) := List.getElem?_eq_getElem _
  have g1 : DataW.trod enc Try.prog w base sp held n 3 ((([c0, c1] : List Value).drop 1).take (Try.prog.cellsOf 3)) = xs[1]? := hf 1 _ rfl
  rw [show Try.prog.cellsOf 3 = 1 from by kernel_rfl] at g1
  have e1 : xs[1]? = some (xs[1]'(by rw [hxl]; decide)) := List.getElem?_eq_getElem _
  obtain ⟨y0, hk0, hw0⟩ := (opens_int Try.underlying3) enc w base sp held n [c0] _ (g0.trans e0)
  injection (show [c0] = [Value.int .i64 y0] from hk0) with he0 _
  subst he0
  obtain ⟨y1, hk1, hw1⟩ := (opens_int Try.underlying3) enc w base sp held n [c1] _ (g1.trans e1)
  injection (show [c1] = [Value.int .i64 y1] from hk1) with he1 _
  subst he1
  exact ⟨⟨y0, y1⟩, k86_mk w ⟨y0, y1⟩ , ⟨hw0, hw1⟩⟩
def wf31 (x : S31) : Prop := (inI .i64) x.f0 ∧ (inI .u64) x.f1 ∧ (inI .u64) x.f2 ∧ (inI .u64) x.f3 ∧ (inI .u64) x.f4 ∧ (fun xs_ => ∀ x_ ∈ xs_, wf86 x_) x.f5 ∧ (fun xs_ => ∀ x_ ∈ xs_, wf86 x_) x.f6 ∧ (fun xs_ => ∀ x_ ∈ xs_, (inI .u64) x_) x.f7 ∧ (fun xs_ => ∀ x_ ∈ xs_, (inI .u64) x_) x.f8
set_option maxRecDepth 100000 in
theorem opens31 : Opens Try.prog 31 k31 wf31 := by
 intro H enc w base sp held fuel cs x h
 obtain ⟨xs, n, rfl, _, hl, hxl, hf⟩ := DataW.trod_struct Try.underlying31 h
 have hc : cs.length = 9 := hl.trans (by kernel_rfl)
 match cs, hc with
 | [c0, c1, c2, c3, c4, c5, c6, c7, c8], _ =>
  have g0 : DataW.trod enc Try.prog w base sp held n 3 ((([c0, c1, c2, c3, c4, c5, c6, c7, c8] : List Value).drop 0).take (Try.prog.cellsOf 3)) = xs[0]? := hf 0 _ rfl
  rw [show Try.prog.cellsOf 3 = 1 from by kernel_rfl] at g0
  have e0 : xs[0]? = some (xs[0]'(by rw [hxl]; decide)) := List.getElem?_eq_getElem _
  have g1 : DataW.trod enc Try.prog w base sp held n 22 ((([c0, c1, c2, c3, c4, c5, c6, c7, c8] : List Value).drop 1).take (Try.prog.cellsOf 22)) = xs[1]? := hf 1 _ rfl
  rw [show Try.prog.cellsOf 22 = 1 from by kernel_rfl] at g1
  have e1 : xs[1]? = some (xs[1]'(by rw [hxl]; decide)) := List.getElem?_eq_getElem _
  have g2 : DataW.trod enc Try.prog w base sp held n 22 ((([c0, c1, c2, c3, c4, c5, c6, c7, c8] : List Value).drop 2).take (Try.prog.cellsOf 22)) = xs[2]? := hf 2 _ rfl
  rw [show Try.prog.cellsOf 22 = 1 from by kernel_rfl] at g2
  have e2 : xs[2]? = some (xs[2]'(by rw [hxl]; decide)) := List.getElem?_eq_getElem _
  have g3 : DataW.trod enc Try.prog w base sp held n 22 ((([c0, c1, c2, c3, c4, c5, c6, c7, c8] : List Value).drop 3).take (Try.prog.cellsOf 22)) = xs[3]? := hf 3 _ rfl
  rw [show Try.prog.cellsOf 22 = 1 from by kernel_rfl] at g3
  have e3 : xs[3]? = some (xs[3]'(by rw [hxl]; decide)) := List.getElem?_eq_getElem _
  have g4 : DataW.trod enc Try.prog w base sp held n 22 ((([c0, c1, c2, c3, c4, c5, c6, c7, c8] : List Value).drop 4).take (Try.prog.cellsOf 22)) = xs[4]? := hf 4 _ rfl
  rw [show Try.prog.cellsOf 22 = 1 from by kernel_rfl] at g4
  have e4 : xs[4]? = some (xs[4]'(by rw [hxl]; decide)) := List.getElem?_eq_getElem _
  have g5 : DataW.trod enc Try.prog w base sp held n 23 ((([c0, c1, c2, c3, c4, c5, c6, c7, c8] : List Value).drop 5).take (Try.prog.cellsOf 23)) = xs[5]? := hf 5 _ rfl
  rw [show Try.prog.cellsOf 23 = 1 from by kernel_rfl] at g5
  have e5 : xs[5]? = some (xs[5]'(by rw [hxl]; decide)) := List.getElem?_eq_getElem _
  have g6 : DataW.trod enc Try.prog w base sp held n 23 ((([c0, c1, c2, c3, c4, c5, c6, c7, c8] : List Value).drop 6).take (Try.prog.cellsOf 23)) = xs[6]? := hf 6 _ rfl
  rw [show Try.prog.cellsOf 23 = 1 from by kernel_rfl] at g6
  have e6 : xs[6]? = some (xs[6]'(by rw [hxl]; decide)) := List.getElem?_eq_getElem _
  have g7 : DataW.trod enc Try.prog w base sp held n 29 ((([c0, c1, c2, c3, c4, c5, c6, c7, c8] : List Value).drop 7).take (Try.prog.cellsOf 29)) = xs[7]? := hf 7 _ rfl
  rw [show Try.prog.cellsOf 29 = 1 from by kernel_rfl] at g7
  have e7 : xs[7]? = some (xs[7]'(by rw [hxl]; decide)) := List.getElem?_eq_getElem _
  have g8 : DataW.trod enc Try.prog w base sp held n 29 ((([c0, c1, c2, c3, c4, c5, c6, c7, c8] : List Value).drop 8).take (Try.prog.cellsOf 29)) = xs[8]? := hf 8 _ rfl
  rw [show Try.prog.cellsOf 29 = 1 from by kernel_rfl] at g8
  have e8 : xs[8]? = some (xs[8]'(by rw [hxl]; decide)) := List.getElem?_eq_getElem _
  obtain ⟨y0, hk0, hw0⟩ := (opens_int Try.underlying3) enc w base sp held n [c0] _ (g0.trans e0)
  injection (show [c0] = [Value.int .i64 y0] from hk0) with he0 _
  subst he0
  obtain ⟨y1, hk1, hw1⟩ := (opens_int Try.underlying22) enc w base sp held n [c1] _ (g1.trans e1)
  injection (show [c1] = [Value.int .u64 y1] from hk1) with he1 _
  subst he1
  obtain ⟨y2, hk2, hw2⟩ := (opens_int Try.underlying22) enc w base sp held n [c2] _ (g2.trans e2)
  injection (show [c2] = [Value.int .u64 y2] from hk2) with he2 _
  subst he2
  obtain ⟨y3, hk3, hw3⟩ := (opens_int Try.underlying22) enc w base sp held n [c3] _ (g3.trans e3)
  injection (show [c3] = [Value.int .u64 y3] from hk3) with he3 _
  subst he3
  obtain ⟨y4, hk4, hw4⟩ := (opens_int Try.underlying22) enc w base sp held n [c4] _ (g4.trans e4)
  injection (show [c4] = [Value.int .u64 y4] from hk4) with he4 _
  subst he4
  obtain ⟨y5, hk5, hw5⟩ := (opens_slice (d := k86) Try.underlying23 (by kernel_rfl) opens86) enc w base sp held n [c5] _ (g5.trans e5)
  obtain ⟨A5, d5, he5, hl5, hC5⟩ := hk5
  injection he5 with he5 _
  subst he5
  obtain ⟨y6, hk6, hw6⟩ := (opens_slice (d := k86) Try.underlying23 (by kernel_rfl) opens86) enc w base sp held n [c6] _ (g6.trans e6)
  obtain ⟨A6, d6, he6, hl6, hC6⟩ := hk6
  injection he6 with he6 _
  subst he6
  obtain ⟨y7, hk7, hw7⟩ := (opens_slice (d := (Kd.int .u64)) Try.underlying29 (by kernel_rfl) (opens_int Try.underlying22)) enc w base sp held n [c7] _ (g7.trans e7)
  obtain ⟨A7, d7, he7, hl7, hC7⟩ := hk7
  injection he7 with he7 _
  subst he7
  obtain ⟨y8, hk8, hw8⟩ := (opens_slice (d := (Kd.int .u64)) Try.underlying29 (by kernel_rfl) (opens_int Try.underlying22)) enc w base sp held n [c8] _ (g8.trans e8)
  obtain ⟨A8, d8, he8, hl8, hC8⟩ := hk8
  injection he8 with he8 _
  subst he8
  exact ⟨⟨y0, y1, y2, y3, y4, y5, y6, y7, y8⟩, k31_mk w ⟨y0, y1, y2, y3, y4, y5, y6, y7, y8⟩ hl5 hC5 hl6 hC6 hl7 hC7 hl8 hC8, ⟨hw0, hw1, hw2, hw3, hw4, hw5, hw6, hw7, hw8⟩⟩
end Go.Proofs.Ytfbjjbbhnmoolaa.P
namespace Go.Proofs.Ytfbjjbbhnmoolaa.P
open Go.RowKit Go.Proofs.YtfbjjbbhnmoolaaW.PrintWords Go.Proofs.YtfbjjbbhnmoolaaW.PrintLast Go.Proofs.YtfbjjbbhnmoolaaW.PrintMore
theorem wrap_id {x : Int} (h0 : -9223372036854775808 ≤ x) (h1 : x ≤ 9223372036854775807) : wrap64 x = x := by unfold wrap64; omega
theorem wrap_succ {i : Nat} (h : i < 9223372036854775807) : wrap64 ((i : Int) + 1) = ((i + 1 : Nat) : Int) := by unfold wrap64; omega
theorem wrap_range (x : Int) : -9223372036854775808 ≤ wrap64 x ∧ wrap64 x ≤ 9223372036854775807 := by unfold wrap64; omega
theorem rd_at {l : List Int} {i : Nat} (h : i < l.length) : rd l (i : Int) = l[i] := by unfold rd; simp [List.getD, h]
theorem drop_at {α : Type} {l : List α} {i : Nat} (h : i < l.length) : l.drop i = l[i] :: l.drop (i + 1) := List.drop_eq_getElem_cons h
theorem take_at {α : Type} {l : List α} {i : Nat} (h : i < l.length) : l.take (i + 1) = l.take i ++ [l[i]] := List.take_succ_eq_append_getElem h
theorem drop_end {α : Type} {l : List α} {i : Nat} (h : l.length ≤ i) : l.drop i = [] := List.drop_eq_nil_of_le h
def i64 (x : Int) : Prop := -9223372036854775808 ≤ x ∧ x ≤ 9223372036854775807
instance (x : Int) : Decidable (i64 x) := by unfold i64; exact inferInstance
def u64 (x : Int) : Prop := 0 ≤ x ∧ x ≤ 18446744073709551615
instance (x : Int) : Decidable (u64 x) := by unfold u64; exact inferInstance
theorem i64_of {x : Int} (h : inI .i64 x) : i64 x := inI_i64 h
theorem u64_of {x : Int} (h : inI .u64 x) : u64 x := inI_u64 h
theorem wrap_i64 (x : Int) : i64 (wrap64 x) := wrap_range x
theorem wrap_of_i64 {x : Int} (h : i64 x) : wrap64 x = x := wrap_id h.1 h.2
end Go.Proofs.Ytfbjjbbhnmoolaa.P
namespace Go.Proofs.Ytfbjjbbhnmoolaa.P
open Go.RowKit Go.Shelf Go.Proofs.YtfbjjbbhnmoolaaW.PrintWords Go.Proofs.YtfbjjbbhnmoolaaW.PrintLast Go.Proofs.YtfbjjbbhnmoolaaW.PrintMore
def idxP {α : Type} (p : α → Bool) (l : List α) : Int := match l.findIdx? p with
  | some i => (i : Int)
  | none => -1
theorem idxP_hit {α : Type} (p : α → Bool) (l : List α) (i : Nat) (h : i < l.length) (hp : p l[i] = true) (hb : ∀ j (hj : j < i), p (l[j]'(Nat.lt_trans hj h)) = false) : idxP p l = i := by
  have : l.findIdx? p = some i := by
    rw [List.findIdx?_eq_some_iff_getElem]
    exact ⟨h, hp, fun j hj => by simp [hb j hj]⟩
  unfold idxP; rw [this]
theorem idxP_miss {α : Type} (p : α → Bool) (l : List α) (hb : ∀ j (hj : j < l.length), p l[j] = false) : idxP p l = -1 := by
  have : l.findIdx? p = none := by
    rw [List.findIdx?_eq_none_iff]
    intro x hx
    obtain ⟨j, hj, rfl⟩ := List.getElem_of_mem hx
    exact hb j hj
  unfold idxP; rw [this]
theorem of_ite_some {α : Type} {c : Prop} [Decidable c] {a r : α} (h : (if c then some a else none) = some r) : c ∧ a = r := by
  by_cases hc : c
  · rw [if_pos hc] at h; exact ⟨hc, Option.some.inj h⟩
  · rw [if_neg hc] at h; cases h
theorem find_idx {α : Type} (p : α → Bool) (l : List α) : (idxP p l = -1 ∧ l.find? p = none) ∨ (∃ i : Nat, ∃ h : i < l.length, idxP p l = (i : Int) ∧ l.find? p = some l[i]) := by
  unfold idxP
  cases h : l.findIdx? p with
  | none => exact .inl ⟨rfl, by rw [List.find?_eq_none]; rw [List.findIdx?_eq_none_iff] at h; intro x hx; simp [h x hx]⟩
  | some i =>
    rw [List.findIdx?_eq_some_iff_getElem] at h
    obtain ⟨hi, hp, hb⟩ := h
    exact .inr ⟨i, hi, rfl, by rw [List.find?_eq_some_iff_getElem]; exact ⟨hp, i, hi, rfl, fun j hj => by simpa using hb j hj⟩⟩
theorem R_beyond {α : Type} {d : Kd α} (hM : ∀ w w1 base ok x cs, d.M w base ok x cs → d.M w1 base ok x cs) {e : Nat} {w : World} {base : Nat} {ok : Nat → Prop} {g n cap : Nat} {xs : List α}
    (h : d.R e w base ok (.slice (some ⟨g, 0, none⟩) n cap) xs) (o : Nat) (seg : List Value) (ho : n * d.sz ≤ o) (hs : o + seg.length ≤ cap * d.sz) : d.R e (w.setCells g o seg) base ok (.slice (some ⟨g, 0, none⟩) n cap) xs := by
  obtain ⟨h0, inner, hown, hr⟩ := h
  refine ⟨h0, inner, ⟨hown.1, ?_⟩, hr.imp_ (fun p c hp => hM _ _ _ _ _ _ hp)⟩
  rcases hown.2 with ⟨hv, _⟩ | ⟨g', cap', cur, hv, hb, hh, hnc, hcm, hcs, ht⟩
  · cases hv
  injection hv with ha hn hc
  injection ha with ha
  injection ha with hg'
  subst hg'; subst hc
  obtain ⟨cur', h3, h4, h5⟩ := setCells_row seg o w cur hh (by omega)
  refine .inr ⟨g, cap, cur', by rw [hn], hb, h3, hnc, hcm, by omega, ?_⟩
  rw [← hn] at ht ⊢
  have hl : cur.toList.length = cap * d.sz := by rw [Array.length_toList]; exact hcs
  rw [h5, List.append_assoc, List.take_append_of_le_length (by rw [List.length_take]; omega), List.take_take, Nat.min_eq_left ho]
  exact ht
theorem piece_there {w : World} {g : Nat} {cur : Array Value} {e : TypeId} (hh : w.heap[g]? = some (.cells cur e (0, 0))) (o n : Nat) (h : o + n ≤ cur.size) :
    (∀ j, j < n → (w.cell? ⟨g, o + j, none⟩).isSome = true) ∧ (∀ j, j < n → w.frozen? ⟨g, o + j, none⟩ = false) :=
  ⟨fun j hj => by rw [blk_cell hh]; simp; omega, fun j _ => blk_frozen hh _⟩
theorem run_clear_cells {P : Program} (w : World) (t e ty : TypeId) (z : Value) (ht : P.underlying t = some (.slice e)) (hv : ∀ w, (zeroValue e).run P w = .ok z w) (g o n c : Nat) (hn : 0 < n)
    (hz : ∀ v ∈ (Builtin.zeroCells z.cells n).toList, v.oneCell' = true)
    (hc : ∀ j, j < (Builtin.zeroCells z.cells n).toList.length → (w.cell? ⟨g, o + j, none⟩).isSome = true) (hf : ∀ j, j < (Builtin.zeroCells z.cells n).toList.length → w.frozen? ⟨g, o + j, none⟩ = false) :
    (Builtin.clear_ #[t] ty #[.slice (some ⟨g, o, none⟩) n c]).run P w = .ok (.tuple #[]) (w.setCells g o (Builtin.zeroCells z.cells n).toList) := by
  have hst := run_storeCells_cells (P := P) g o (Builtin.zeroCells z.cells n).toList 0 w (by simpa using hc) (by simpa using hf) hz
  simp only [Nat.add_zero] at hst
  obtain ⟨m, rfl⟩ : ∃ m, n = m + 1 := ⟨n - 1, by omega⟩
  simp [Builtin.clear_, run_underlying ht, hv, hst]
structure DelInv {α : Type} (p : α → Bool) (xs : List α) (i j : Nat) (ys : List α) : Prop where
  len : ys.length = xs.length
  lt : i < j
  le : j ≤ xs.length
  low : ys.take i = (xs.take j).filter (fun x => !p x)
  high : ys.drop j = xs.drop j
theorem DelInv.start {α : Type} {p : α → Bool} {xs : List α} {i : Nat} (h : i < xs.length) (hp : p xs[i] = true) (hb : ∀ j (hj : j < i), p (xs[j]'(Nat.lt_trans hj h)) = false) : DelInv p xs i (i + 1) xs := by
  refine ⟨rfl, Nat.lt_succ_self _, h, ?_, rfl⟩
  rw [List.take_succ_eq_append_getElem h, List.filter_append]
  have h1 : (xs.take i).filter (fun x => !p x) = xs.take i := by
    rw [List.filter_eq_self]
    intro x hx
    obtain ⟨j, hj, rfl⟩ := List.getElem_of_mem hx
    rw [List.length_take] at hj
    rw [List.getElem_take, hb j (by omega)]; rfl
  rw [h1]; simp [hp]
theorem DelInv.at_ {α : Type} {p : α → Bool} {xs ys : List α} {i j : Nat} (h : DelInv p xs i j ys) (hj : j < xs.length) : ∃ h2 : j < ys.length, ys[j] = xs[j] := by
  have h2 : j < ys.length := by rw [h.len]; exact hj
  refine ⟨h2, ?_⟩
  have := congrArg (fun l => l[0]?) h.high
  simp only [List.getElem?_drop, Nat.add_zero, List.getElem?_eq_getElem h2, List.getElem?_eq_getElem hj] at this
  exact Option.some.inj this
theorem DelInv.skip {α : Type} {p : α → Bool} {xs ys : List α} {i j : Nat} (h : DelInv p xs i j ys) (hj : j < xs.length) (hp : p xs[j] = true) : DelInv p xs i (j + 1) ys := by
  refine ⟨h.len, by have := h.lt; omega, hj, ?_, ?_⟩
  · rw [h.low, List.take_succ_eq_append_getElem hj, List.filter_append]; simp [hp]
  · have := congrArg (List.drop 1) h.high
    rwa [List.drop_drop, List.drop_drop] at this
theorem DelInv.keep {α : Type} {p : α → Bool} {xs ys : List α} {i j : Nat} (h : DelInv p xs i j ys) (hj : j < xs.length) (hp : p xs[j] = false) : DelInv p xs (i + 1) (j + 1) (ys.set i xs[j]) := by
  have hlt := h.lt
  have hi : i < ys.length := by rw [h.len]; omega
  refine ⟨by rw [List.length_set]; exact h.len, by omega, hj, ?_, ?_⟩
  · rw [List.take_succ_eq_append_getElem (by rw [List.length_set]; exact hi), List.getElem_set_self, List.take_set_of_le (by omega), h.low, List.take_succ_eq_append_getElem hj, List.filter_append]; simp [hp]
  · rw [List.drop_set_of_lt (by omega)]
    have := congrArg (List.drop 1) h.high
    rwa [List.drop_drop, List.drop_drop] at this
theorem DelInv.done {α : Type} {p : α → Bool} {xs ys : List α} {i : Nat} (h : DelInv p xs i xs.length ys) : ys.take i = xs.filter (fun x => !p x) := by
  rw [h.low, List.take_of_length_le (Nat.le_refl _)]
theorem idxP_cases {α : Type} (p : α → Bool) (l : List α) : (idxP p l = -1 ∧ l.filter (fun x => !p x) = l) ∨ (∃ i : Nat, ∃ h : i < l.length, idxP p l = (i : Int) ∧ p l[i] = true ∧ ∀ j (hj : j < i), p (l[j]'(Nat.lt_trans hj h)) = false) := by
  unfold idxP
  cases h : l.findIdx? p with
  | none =>
    refine .inl ⟨rfl, ?_⟩
    rw [List.findIdx?_eq_none_iff] at h
    rw [List.filter_eq_self]
    intro x hx; simp [h x hx]
  | some i =>
    rw [List.findIdx?_eq_some_iff_getElem] at h
    obtain ⟨hi, hp, hb⟩ := h
    exact .inr ⟨i, hi, rfl, hp, fun j hj => by simpa using hb j hj⟩
theorem C_of_blk {α : Type} {d : Kd α} {W : World} {g : Nat} {cs : Array Value} {e : TypeId} {fr : Nat × Nat} (xs : List α) (h : W.heap[g]? = some (.cells cs e fr)) (hr : Reps (d.K W) d.sz xs cs.toList) (hm : xs.length ≤ 9223372036854775807) : d.C W (some ⟨g, 0, none⟩) xs.length xs := by
  refine ⟨rfl, hm, fun _ => ⟨_, rfl, fun j p hj => ⟨(cs.toList.drop (j * d.sz)).take d.sz, ?_, hr.2 j p hj, fun i u hu => ?_⟩⟩⟩
  · exact d.K_len (hr.2 j p hj)
  · rw [add_plain, cell_of_row W g _ cs e fr h]
    rw [List.getElem?_take] at hu
    split at hu
    · rw [List.getElem?_drop] at hu
      simpa using hu
    · cases hu
theorem reps_nums (w : World) (k : IntKind) (xs : List Int) : Reps ((Kd.int k).K w) 1 xs (nums k xs) := by
  refine ⟨by simp [nums], fun j p hj => ?_⟩
  show ((nums k xs).drop (j * 1)).take 1 = [Value.int k p]
  rw [Nat.mul_one]
  unfold nums
  rw [← List.map_drop, ← List.map_take]
  have : (xs.drop j).take 1 = [p] := by
    rw [List.take_one, List.head?_drop, hj]; rfl
  rw [this]; rfl
end Go.Proofs.Ytfbjjbbhnmoolaa.P
namespace Go.Proofs.Ytfbjjbbhnmoolaa.P
open Go.RowKit Go.Shelf Go.Proofs.YtfbjjbbhnmoolaaW.PrintWords Go.Proofs.YtfbjjbbhnmoolaaW.PrintLast Go.Proofs.YtfbjjbbhnmoolaaW.PrintMore
def slices_Clone_span.f (l0 : List S86) : Option (List S86) := if l0.length < 8796093022208 then some l0 else none
set_option maxHeartbeats 2000000 in
set_option maxRecDepth 100000 in
theorem slices_Clone_span.calls (A0 : Option Addr) (c0 : Nat) (l0 r : List S86) (w : World) (hr0 : Kd.C k86 w A0 l0.length l0) (hc0 : l0.length ≤ c0) (h : slices_Clone_span.f l0 = some r) :
    Calls Try.prog 51 #[.slice A0 l0.length c0] w fun e w' => ∃ v0_ : Value, e = .returned (v0_) ∧ Kd.R k86 86 w' w.heap.size (fun _ => True) v0_ r ∧ Below w.heap.size w w' := by
  obtain ⟨hm, h2⟩ := of_ite_some h
  subst h2
  clear h
  have hu := Try.underlying23
  have HM := Aside0.mk hm
  clear hm
  cases A0 with
  | none =>
    have hl : l0 = [] := by
      rcases Nat.eq_zero_or_pos l0.length with h | h
      · exact List.length_eq_zero_iff.1 h
      · obtain ⟨ad, e, _⟩ := hr0.2.2 h
        cases e
    subst hl
    have hn : ∀ W n c, (binOp .eql 23 (.slice none n c) (.slice none 0 0)).run Try.prog W = .ok (.bool true) W := fun W n c => by
      exact Lib.run_eql_slice_nil W _ _ none n c 0 0 Try.underlying23
    go_enter Try.func51, Try.ntmps51
    go_wp2
    go_ret
    exact ⟨_, rfl, Kd.R_nil _ _ _ _ _, Below.refl _ _⟩
  | some ad =>
    have hn : ∀ W n c, (binOp .eql 23 (.slice (some ad) n c) (.slice none 0 0)).run Try.prog W = .ok (.bool false) W := fun W n c => by
      exact Lib.run_eql_slice_nil W _ _ (some ad) n c 0 0 Try.underlying23
    have HR := Aside0.mk hr0
    clear hr0
    go_enter Try.func51, Try.ntmps51
    go_wp2_with ((with_reducible refine gate_builtin (b := .append) (xs := #[.tmp 5, .tmp 6]) rfl ?_); at_builtin; refine Kd.R_append_rows k86 (w0 := w) (Rr := k86.K w) w.heap.size rfl (.tmp 5) (.tmp 6) 23 86 _ 16 rfl Try.underlying23 info86 rfl (by decide) (by omega) (.slice (some ⟨w.heap.size, 0, none⟩) 0 0) [] l0 (some ad) l0.length c0 (fun _ => True) (fun _ => False) rfl rfl ?aO ?aR ?aK (fun _ hk => hk.elim) (fun _ _ => trivial) ?aB ?aS ?aL ?_; (case aO => exact ⟨fun _ _ => trivial, [], ⟨rfl, .inr ⟨w.heap.size, 0, #[], rfl, Nat.le_refl _, by simpa using blk_new w _, Nat.le_refl _, by unfold maxLen; omega, rfl, rfl⟩⟩, Reps.none _ _⟩); (case aR => exact HR.out.imp_ (below_alloc (Below.refl _ _) _) (fun _ _ h => h)); (case aK => intro x cs hx; rw [k86_open hx]; exact k86_mkM _ _ _ x); (case aB => exact below_alloc (Below.refl _ _) _); (case aS => simp); (case aL => have := HM.out; simp; omega); intro v1 w1 ho hb hg hat; rw [List.nil_append] at ho; have HO := Aside0.mk ho; have HB := Aside0.mk hb; clear ho hb hg hat)
    go_ret
    exact ⟨_, rfl, HO.out, HB.out⟩
end Go.Proofs.Ytfbjjbbhnmoolaa.P
namespace Go.Proofs.Ytfbjjbbhnmoolaa.P
open Go.RowKit Go.Proofs.YtfbjjbbhnmoolaaW.PrintWords Go.Proofs.YtfbjjbbhnmoolaaW.PrintLast Go.Proofs.YtfbjjbbhnmoolaaW.PrintMore
class Lft (w : World) (W : World) : Prop where
  be : Below w.heap.size w W
instance Lft.self (w : World) : Lft w w := ⟨Below.refl _ _⟩
instance Lft.alloc (w W : World) (o : Obj) [b : Lft w W] : Lft w (W.alloc o) := ⟨below_alloc b.be o⟩
instance Lft.drew (w W : World) [b : Lft w W] : Lft w W.drew := ⟨below_drew1 b.be⟩
instance Lft.drewN (w W : World) (m : Nat) [b : Lft w W] : Lft w (W.drewN m) := ⟨pw_below_drewN b.be m⟩
class Stp (w : outParam World) (W : World) : Prop where
  be : Below w.heap.size w W
instance Stp.alloc (W : World) (o : Obj) : Stp W (W.alloc o) := ⟨below_alloc (Below.refl _ _) o⟩
instance Stp.drew (W : World) : Stp W W.drew := ⟨below_drew1 (Below.refl _ _)⟩
instance Stp.drewN (W : World) (m : Nat) : Stp W (W.drewN m) := ⟨pw_below_drewN (Below.refl _ _) m⟩
theorem Kd.R_u {α : Type} {d : Kd α} {e : TypeId} {w W : World} {base : Nat} {ok : Nat → Prop} {v : Value} {xs : List α} [b : Lft w W] (h : d.R e w base ok v xs) : d.R e W base ok v xs := Kd.R_below h b.be
theorem Kd.R_q {α : Type} {d : Kd α} {e : TypeId} {w W : World} {base : Nat} {ok : Nat → Prop} {v : Value} {xs : List α} [b : Stp w W] (h : d.R e w base ok v xs) : d.R e W base ok v xs := Kd.R_below h b.be
theorem Kd.R_ub {α : Type} {d : Kd α} {e : TypeId} {w W w1 : World} {base : Nat} {ok : Nat → Prop} {v : Value} {xs : List α} [b : Lft w W] (h : d.R e w base ok v xs) (hb : Below W.heap.size W w1) : d.R e w1 base ok v xs := Kd.R_below (Kd.R_below h b.be) hb
theorem Kd.C_u {α : Type} {d : Kd α} {w W : World} {A : Option Addr} {n : Nat} {xs : List α} [b : Lft w W] (h : d.C w A n xs) : d.C W A n xs := Kd.C_below h b.be
theorem blk_u {w W : World} {g : Nat} {o : Obj} [b : Lft w W] (h : w.heap[g]? = some o) : W.heap[g]? = some o := blk_below h b.be
theorem blk_q {w W : World} {g : Nat} {o : Obj} [b : Stp w W] (h : w.heap[g]? = some o) : W.heap[g]? = some o := blk_below h b.be
theorem blk_ub {w W w1 : World} {g : Nat} {o : Obj} [b : Lft w W] (h : w.heap[g]? = some o) (hb : Below W.heap.size W w1) : w1.heap[g]? = some o := blk_below (blk_below h b.be) hb
theorem below_u {u w W : World} [b : Lft w W] (h : Below u.heap.size u w) : Below u.heap.size u W := below_then h h.size b.be
theorem below_q {u w W : World} [b : Stp w W] (h : Below u.heap.size u w) : Below u.heap.size u W := below_then h h.size b.be
theorem goesM_ {P : Program} {ops : Array Oper} {Q : Exit → Act → World → Prop} {rest : List Oper} {oi : Oper} {a : Act} {w : World} (N : Option Tmp) {f : FuncId} {fn : Func} {as_ : Array Operand} {ts : Array TypeId} (hf : P.funcs[f]? = some fn) (args : Array Value)
    (h : Calls P f args w fun e w' => ∃ v, e = .returned v ∧ wpList P ops Q rest (a.put N v) w') (hop : oi.op = .call { callee := .value (.func f), args := as_, argTypes := ts } := by rfl)
    (hargs : as_.map a.eval = args := by (try simp only [List.map_toArray, List.map_cons, List.map_nil]); first | done | rfl | (simp only [List.length_drop, List.length_take]; rfl)) (hd : oi.dst = N := by rfl) (hg : oi.guard = none := by rfl) (hname : (fn.name == "runtime.NumGoroutine") = false := by kernel_rfl) (hb : fn.body.isSome = true := by rfl) : wpList P ops Q (oi :: rest) a w :=
  goesL_ N hd hg hf hname hb args hop hargs h
end Go.Proofs.Ytfbjjbbhnmoolaa.P
namespace Go.Proofs.Ytfbjjbbhnmoolaa.P
open Go.RowKit Go.Proofs.YtfbjjbbhnmoolaaW.PrintWords Go.Proofs.YtfbjjbbhnmoolaaW.PrintLast Go.Proofs.YtfbjjbbhnmoolaaW.PrintMore
attribute [local go_sem] max2_int min2_int max_two min_two max_three min_three max_four min_four
def span_in.f (a0 : Int) : Option (Bool) := if a0 ≥ (-1048576) then (some (decide (a0 ≤ 1048576))) else (some false)
set_option maxHeartbeats 8000000 in
set_option maxRecDepth 100000 in
theorem span_in.calls (a0 : Int) (r : Bool) (w : World) (h : span_in.f a0 = some r) :
  Calls Try.prog 149 #[.int .i64 a0] w fun e w' => e = .returned (.bool r) ∧ Drawn0 w w' := by
 have H : (if a0 ≥ (-1048576) then (some (decide (a0 ≤ 1048576))) else (some false)) = some r := h
 clear h
 by_cases c2 : a0 ≥ (-1048576)
 ·rw [if_pos c2] at H
  have c2b0 : decide ((-1048576) ≤ a0) = true := decide_eq_true c2
  clear c2
  obtain rfl := Option.some.inj H
  go_enter Try.func149, Try.ntmps149
  go_wp2
  go_ret
  exact ⟨by first | rfl | (simp; done) | (simp [*]; done), by repeat (first | exact Drawn0.refl _ | apply Drawn0.step)⟩
 rw [if_neg c2] at H
 have c2b0 : decide ((-1048576) ≤ a0) = false := decide_eq_false c2
 clear c2
 obtain rfl := Option.some.inj H
 go_enter Try.func149, Try.ntmps149
 go_wp2
 go_ret
 exact ⟨by first | rfl | (simp; done) | (simp [*]; done), by repeat (first | exact Drawn0.refl _ | apply Drawn0.step)⟩
mutual
def span_right.l0 : Nat → Int → Int → List (S86) → Int → Int → Option (Bool)
 | 0, _, _, _, _, _ => none
 | k + 1, x3, x4, x7, x8, x9 => if x9 < x8 then (if 0 ≤ x9 then (if x9 < (x7.length : Int) then (if ((rd_T86 x7 x9).f0) > 2097152 then (span_right.j1 k x3 x4 x7 x8 x9 true ((rd_T86 x7 x9).f0) ((rd_T86 x7 x9).f1)) else (if ((rd_T86 x7 x9).f1) < 0 then (span_right.j1 k x3 x4 x7 x8 x9 true ((rd_T86 x7 x9).f0) ((rd_T86 x7 x9).f1)) else (if ((rd_T86 x7 x9).f1) > 4096 then (span_right.j1 k x3 x4 x7 x8 x9 true ((rd_T86 x7 x9).f0) ((rd_T86 x7 x9).f1)) else (if ((rd_T86 x7 x9).f0) < 0 then (if x9 > 0 then (span_right.j1 k x3 x4 x7 x8 x9 true ((rd_T86 x7 x9).f0) ((rd_T86 x7 x9).f1)) else ((span_in.f ((rd_T86 x7 x9).f0)).bind fun t103 => (span_right.j1 k x3 x4 x7 x8 x9 (!t103) ((rd_T86 x7 x9).f0) ((rd_T86 x7 x9).f1)))) else (span_right.j1 k x3 x4 x7 x8 x9 false ((rd_T86 x7 x9).f0) ((rd_T86 x7 x9).f1)))))) else (none)) else (none)) else (some true)
def span_right.j1 : Nat → Int → Int → List (S86) → Int → Int → Bool → Int → Int → Option (Bool)
 | 0, _, _, _, _, _, _, _, _ => none
 | k + 1, x3, x4, x7, x8, x9, x41, x103000, x103001 => if x41 = true then (some false) else ((span_in.f (wrap64 (x3 + x103000))).bind fun t104 => (if t104 = true then ((span_in.f (wrap64 ((wrap64 (x3 + x103000)) + (mx (wrap64 (x103001 - 1)) 0)))).bind fun t105 => (if t105 = true then (if (wrap64 (x4 + x103001)) > 4096 then (some false) else (span_right.l0 k (wrap64 ((wrap64 (x3 + x103000)) + x103001)) (wrap64 (x4 + x103001)) x7 x8 (wrap64 (x9 + 1)))) else (some false))) else (some false)))
end
def span_right.f (k : Nat) (l0 : List (S86)) : Option (Bool) := span_right.l0 k 0 0 l0 (l0.length : Int) 0
set_option maxHeartbeats 8000000 in
set_option maxRecDepth 100000 in
theorem span_right.calls (k : Nat) (A0 : Option Addr) (c0 : Nat) (l0 : List (S86)) (r : Bool) (w : World) (hr0 : Kd.C k86 w A0 l0.length l0) (hc0 : l0.length ≤ c0) (h : span_right.f k l0 = some r) :
  Calls Try.prog 128 #[.slice A0 l0.length c0] w fun e w' => e = .returned (.bool r) ∧ Below w.heap.size w w' := by
 have hu86 := Try.underlying86
 have HR0 := Aside0.mk hr0
 have HC0 := Aside0.mk hc0
 clear hr0 hc0
 have HB := Aside0.mk (Below.refl w.heap.size w)
 have H : (span_right.l0 k 0 0 l0 (l0.length : Int) 0) = some r := h
 clear h
 have H' := Aside0.mk H
 clear H
 go_enter Try.func128, Try.ntmps128
 go_wp2
 go_loopg [3, 4, 9] k (fun kq v3 v4 v9 w' => ∃ (x3_1 : Int) (x4_1 : Int) (x9_1 : Int), v3 = .int .i64 x3_1 ∧ v4 = .int .i64 x4_1 ∧ v9 = .int .i64 x9_1 ∧ Aside0 (span_right.l0 kq x3_1 x4_1 l0 (l0.length : Int) x9_1 = some r) ∧ Aside0 (kq ≤ k) ∧ Aside0 (Below w.heap.size w w'))
 case atStart => exact ⟨(0), (0), (0), (by first | rfl | (simp; done) | (simp [*]; done)), (by first | rfl | (simp; done) | (simp [*]; done)), (by first | rfl | (simp; done) | (simp [*]; done)), H', ⟨Nat.le_refl _⟩, ⟨by repeat (first | (with_reducible first | exact HB.out | apply below_alloc | apply pw_below_drewN | apply below_drew1) | exact HB.out)⟩⟩
 case round =>
  clear H'
  try clear c1
  obtain ⟨x3_1, x4_1, x9_1, rfl, rfl, rfl, HA, HK1, HB⟩ := hrel
  cases gk with
  | zero => exact absurd HA.out (by simp [span_right.l0])
  | succ k1 =>
   have H := HA.out
   clear HA
   simp only [span_right.l0] at H
   by_cases c2 : x9_1 < (l0.length : Int)
   ·rw [if_pos c2] at H
    have c2b0 : decide (x9_1 < (l0.length : Int)) = true := decide_eq_true c2
    clear c2
    by_cases c3 : 0 ≤ x9_1
    ·rw [if_pos c3] at H
     have c3b0 : decide (0 ≤ x9_1) = true := decide_eq_true c3
     clear c3
     by_cases c4 : x9_1 < (l0.length : Int)
     ·rw [if_pos c4] at H
      have c4b0 : decide (x9_1 < (l0.length : Int)) = true := decide_eq_true c4
      clear c4
      have HC5 := Aside0.mk H
      clear H
      have p101 : 0 ≤ (x9_1 : Int) := of_decide_eq_true (by assumption)
      have q101 : x9_1 < (l0.length : Int) := of_decide_eq_true (by assumption)
      obtain ⟨ad101, e101, hx101_0, hx101_1⟩ := at_T86 HR0.out x9_1 p101 q101
      cases e101
      replace hx101_0 := (HB.out.cell (World.block_lt_of_cell? w _ hx101_0)).trans hx101_0
      replace hx101_1 := (HB.out.cell (World.block_lt_of_cell? w _ hx101_1)).trans hx101_1
      replace p101 := eq_true p101
      replace q101 := eq_true q101
      go_upto_region 5 with (first | ((with_reducible refine gate_dst (N := 6) rfl ?_); (try (refine gate_guard (by rfl) ?_; dsimp only)); refine box_event ?hg (N := 6) ?hd (cs := #[.int .i64 0, .int .i64 0]) (t := 86) ?hr ?_; (case hd => rfl); (case hg => rfl); (case hr => first | (go_simp; done) | (go_simp; rfl)); intro gb102 hg w6 hbox hb; have BK102 := Aside0.mk (hbox); have GW102 := Aside0.mk ((by rw [hg]; exact (below_size (below_u HB.out)) : w.heap.size ≤ gb102)); have GE102 := Aside0.mk ((by rw [hg]; exact (below_size (below_u HB.out)) : w.heap.size ≤ gb102)); replace HB := Aside0.mk (below_step (below_u HB.out) hb); clear hb hbox hg; have hcz7_0 := blk_cell BK102.out; have hfz7_0 := blk_frozen BK102.out))
      (try simp only [Act.put, List.setIfInBounds_toArray, List.set_cons_zero, List.set_cons_succ])
      go_cut [41] (fun v41 wc => ∃ (kq : Nat) (x41_4 : Bool), v41 = .bool x41_4 ∧ Aside0 (span_right.j1 kq x3_1 x4_1 l0 (l0.length : Int) x9_1 x41_4 ((rd_T86 l0 x9_1).f0) ((rd_T86 l0 x9_1).f1) = some r) ∧ Aside0 (kq ≤ k1) ∧ Aside0 (wc.heap[gb102]? = some (.cells #[.int .i64 ((rd_T86 l0 x9_1).f0), .int .i64 ((rd_T86 l0 x9_1).f1)] 86 (0, 0))) ∧ Aside0 (Below w.heap.size w wc))
      case first =>
       have H := HC5.out
       clear HC5
       by_cases c8 : ((rd_T86 l0 x9_1).f0) > 2097152
       ·rw [if_pos c8] at H
        have c8b0 : decide (2097152 < ((rd_T86 l0 x9_1).f0)) = true := decide_eq_true c8
        clear c8
        (first | rw [c8b0] | (simp only [i64_w, i32_w]; rw [c8b0]) | skip)
        have H' := Aside0.mk H
        clear H
        have hcz9_0 := blk_cell BK102.out
        have hfz9_0 := blk_frozen BK102.out
        go_wp2
        go_meet
        case rel => exact ⟨_, (true), (by first | rfl | (simp; done) | (simp [*]; done)), H', ⟨by have := HK1.out; first | omega | exact Nat.le_refl _⟩, ⟨by (repeat with_reducible refine blk_q ?_); refine blk_put (cs := #[.int .i64 ((rd_T86 l0 x9_1).f0), .int .i64 0]) ?_ 1 _ rfl; (repeat with_reducible refine blk_q ?_); refine blk_put (cs := #[.int .i64 0, .int .i64 0]) ?_ 0 _ rfl; (repeat with_reducible refine blk_q ?_); exact BK102.out⟩, ⟨by repeat (first | (with_reducible first | exact HB.out | apply below_alloc | apply pw_below_drewN | apply below_drew1 | refine below_set ?_ GE102.out) | exact HB.out)⟩⟩
       rw [if_neg c8] at H
       have c8b0 : decide (2097152 < ((rd_T86 l0 x9_1).f0)) = false := decide_eq_false c8
       clear c8
       (first | rw [c8b0] | (simp only [i64_w, i32_w]; rw [c8b0]) | skip)
       by_cases c10 : ((rd_T86 l0 x9_1).f1) < 0
       ·rw [if_pos c10] at H
        have c10b0 : decide (((rd_T86 l0 x9_1).f1) < 0) = true := decide_eq_true c10
        clear c10
        have H' := Aside0.mk H
        clear H
        have hcz11_0 := blk_cell BK102.out
        have hfz11_0 := blk_frozen BK102.out
        go_wp2
        go_meet
        case rel => exact ⟨_, (true), (by first | rfl | (simp; done) | (simp [*]; done)), H', ⟨by have := HK1.out; first | omega | exact Nat.le_refl _⟩, ⟨by (repeat with_reducible refine blk_q ?_); refine blk_put (cs := #[.int .i64 ((rd_T86 l0 x9_1).f0), .int .i64 0]) ?_ 1 _ rfl; (repeat with_reducible refine blk_q ?_); refine blk_put (cs := #[.int .i64 0, .int .i64 0]) ?_ 0 _ rfl; (repeat with_reducible refine blk_q ?_); exact BK102.out⟩, ⟨by repeat (first | (with_reducible first | exact HB.out | apply below_alloc | apply pw_below_drewN | apply below_drew1 | refine below_set ?_ GE102.out) | exact HB.out)⟩⟩
       rw [if_neg c10] at H
       have c10b0 : decide (((rd_T86 l0 x9_1).f1) < 0) = false := decide_eq_false c10
       clear c10
       by_cases c12 : ((rd_T86 l0 x9_1).f1) > 4096
       ·rw [if_pos c12] at H
        have c12b0 : decide (4096 < ((rd_T86 l0 x9_1).f1)) = true := decide_eq_true c12
        clear c12
        have H' := Aside0.mk H
        clear H
        have hcz13_0 := blk_cell BK102.out
        have hfz13_0 := blk_frozen BK102.out
        go_wp2
        go_meet
        case rel => exact ⟨_, (true), (by first | rfl | (simp; done) | (simp [*]; done)), H', ⟨by have := HK1.out; first | omega | exact Nat.le_refl _⟩, ⟨by (repeat with_reducible refine blk_q ?_); refine blk_put (cs := #[.int .i64 ((rd_T86 l0 x9_1).f0), .int .i64 0]) ?_ 1 _ rfl; (repeat with_reducible refine blk_q ?_); refine blk_put (cs := #[.int .i64 0, .int .i64 0]) ?_ 0 _ rfl; (repeat with_reducible refine blk_q ?_); exact BK102.out⟩, ⟨by repeat (first | (with_reducible first | exact HB.out | apply below_alloc | apply pw_below_drewN | apply below_drew1 | refine below_set ?_ GE102.out) | exact HB.out)⟩⟩
       rw [if_neg c12] at H
       have c12b0 : decide (4096 < ((rd_T86 l0 x9_1).f1)) = false := decide_eq_false c12
       clear c12
       by_cases c14 : ((rd_T86 l0 x9_1).f0) < 0
       ·rw [if_pos c14] at H
        have c14b0 : decide (((rd_T86 l0 x9_1).f0) < 0) = true := decide_eq_true c14
        clear c14
        by_cases c15 : x9_1 > 0
        ·rw [if_pos c15] at H
         have c15b0 : decide (0 < x9_1) = true := decide_eq_true c15
         clear c15
         have H' := Aside0.mk H
         clear H
         have hcz16_0 := blk_cell BK102.out
         have hfz16_0 := blk_frozen BK102.out
         go_wp2
         go_meet
         case rel => exact ⟨_, (true), (by first | rfl | (simp; done) | (simp [*]; done)), H', ⟨by have := HK1.out; first | omega | exact Nat.le_refl _⟩, ⟨by (repeat with_reducible refine blk_q ?_); refine blk_put (cs := #[.int .i64 ((rd_T86 l0 x9_1).f0), .int .i64 0]) ?_ 1 _ rfl; (repeat with_reducible refine blk_q ?_); refine blk_put (cs := #[.int .i64 0, .int .i64 0]) ?_ 0 _ rfl; (repeat with_reducible refine blk_q ?_); exact BK102.out⟩, ⟨by repeat (first | (with_reducible first | exact HB.out | apply below_alloc | apply pw_below_drewN | apply below_drew1 | refine below_set ?_ GE102.out) | exact HB.out)⟩⟩
        rw [if_neg c15] at H
        have c15b0 : decide (0 < x9_1) = false := decide_eq_false c15
        clear c15
        replace H := Option.bind_eq_some_iff.mp H
        obtain ⟨t103, A170, H⟩ := H
        replace H : (span_right.j1 k1 x3_1 x4_1 l0 (l0.length : Int) x9_1 (!t103) ((rd_T86 l0 x9_1).f0) ((rd_T86 l0 x9_1).f1)) = some r := H
        have A17 := Aside0.mk A170
        clear A170
        have H' := Aside0.mk H
        clear H
        have hcz18_0 := blk_cell BK102.out
        have hfz18_0 := blk_frozen BK102.out
        go_wp2_with (first | (go_at_call 149; (with_reducible refine (span_in.calls ((rd_T86 l0 x9_1).f0) t103 _ A17.out).mono ?_); rintro e w' ⟨rfl, ⟨nd, rfl⟩⟩; clear A17))
        go_meet
        case rel => exact ⟨_, (!t103), (by first | rfl | (simp; done) | (simp [*]; done)), H', ⟨by have := HK1.out; first | omega | exact Nat.le_refl _⟩, ⟨by (repeat with_reducible refine blk_q ?_); refine blk_put (cs := #[.int .i64 ((rd_T86 l0 x9_1).f0), .int .i64 0]) ?_ 1 _ rfl; (repeat with_reducible refine blk_q ?_); refine blk_put (cs := #[.int .i64 0, .int .i64 0]) ?_ 0 _ rfl; (repeat with_reducible refine blk_q ?_); exact BK102.out⟩, ⟨by repeat (first | (with_reducible first | exact HB.out | apply below_alloc | apply pw_below_drewN | apply below_drew1 | refine below_set ?_ GE102.out) | exact HB.out)⟩⟩
       rw [if_neg c14] at H
       have c14b0 : decide (((rd_T86 l0 x9_1).f0) < 0) = false := decide_eq_false c14
       clear c14
       have H' := Aside0.mk H
       clear H
       have hcz19_0 := blk_cell BK102.out
       have hfz19_0 := blk_frozen BK102.out
       go_wp2
       go_meet
       case rel => exact ⟨_, (false), (by first | rfl | (simp; done) | (simp [*]; done)), H', ⟨by have := HK1.out; first | omega | exact Nat.le_refl _⟩, ⟨by (repeat with_reducible refine blk_q ?_); refine blk_put (cs := #[.int .i64 ((rd_T86 l0 x9_1).f0), .int .i64 0]) ?_ 1 _ rfl; (repeat with_reducible refine blk_q ?_); refine blk_put (cs := #[.int .i64 0, .int .i64 0]) ?_ 0 _ rfl; (repeat with_reducible refine blk_q ?_); exact BK102.out⟩, ⟨by repeat (first | (with_reducible first | exact HB.out | apply below_alloc | apply pw_below_drewN | apply below_drew1 | refine below_set ?_ GE102.out) | exact HB.out)⟩⟩
      case rest =>
       clear HC5
       try clear c1
       try clear p1
       try clear q1
       try clear hx1
       try clear c2
       try clear c2b0
       try clear p2
       try clear c3
       try clear c3b0
       try clear c4
       try clear c4b0
       try clear c8
       try clear c8b0
       try clear c10
       try clear c10b0
       try clear p10
       try clear q10
       try clear hx10
       try clear c12
       try clear c12b0
       try clear c14
       try clear c14b0
       try clear c15
       try clear c15b0
       try clear hcz11_0
       try clear hcz13_0
       try clear hcz16_0
       try clear hcz18_0
       try clear hcz19_0
       try clear hcz7_0
       try clear hcz9_0
       try clear hfz11_0
       try clear hfz13_0
       try clear hfz16_0
       try clear hfz18_0
       try clear hfz19_0
       try clear hfz7_0
       try clear hfz9_0
       try clear hx101_0
       try clear hx101_1
       try clear p101
       try clear q101
       obtain ⟨kq, x41_4, rfl, HA, HJ4, BK102, HB⟩ := hcut
       cases kq with
       | zero => exact absurd HA.out (by simp [span_right.j1])
       | succ kj4 =>
        have H := HA.out
        clear HA
        simp only [span_right.j1] at H
        by_cases c20 : x41_4 = true
        ·subst c20
         have H1 : (some false) = some r := by rw [if_pos rfl] at H; exact H
         clear H
         have H := H1
         clear H1
         obtain rfl := Option.some.inj H
         go_wp2
         go_ret
         exact ⟨by first | rfl | (simp [errW_none, errW_some] <;> rfl) | (simp [*, errW_none, errW_some] <;> rfl), by repeat (first | (with_reducible first | exact HB.out | apply below_alloc | apply pw_below_drewN | apply below_drew1 | refine below_set ?_ GE102.out) | exact HB.out)⟩
        replace c20 := Bool.eq_false_iff.mpr c20
        subst c20
        have H1 : ((span_in.f (wrap64 (x3_1 + ((rd_T86 l0 x9_1).f0)))).bind fun t104 => (if t104 = true then ((span_in.f (wrap64 ((wrap64 (x3_1 + ((rd_T86 l0 x9_1).f0))) + (mx (wrap64 (((rd_T86 l0 x9_1).f1) - 1)) 0)))).bind fun t105 => (if t105 = true then (if (wrap64 (x4_1 + ((rd_T86 l0 x9_1).f1))) > 4096 then (some false) else (span_right.l0 kj4 (wrap64 ((wrap64 (x3_1 + ((rd_T86 l0 x9_1).f0))) + ((rd_T86 l0 x9_1).f1))) (wrap64 (x4_1 + ((rd_T86 l0 x9_1).f1))) l0 (l0.length : Int) (wrap64 (x9_1 + 1)))) else (some false))) else (some false))) = some r := by rw [if_neg (show ¬ (false = true) by decide)] at H; exact H
        clear H
        have H := H1
        clear H1
        replace H := Option.bind_eq_some_iff.mp H
        obtain ⟨t104, A210, H⟩ := H
        replace H : (if t104 = true then ((span_in.f (wrap64 ((wrap64 (x3_1 + ((rd_T86 l0 x9_1).f0))) + (mx (wrap64 (((rd_T86 l0 x9_1).f1) - 1)) 0)))).bind fun t105 => (if t105 = true then (if (wrap64 (x4_1 + ((rd_T86 l0 x9_1).f1))) > 4096 then (some false) else (span_right.l0 kj4 (wrap64 ((wrap64 (x3_1 + ((rd_T86 l0 x9_1).f0))) + ((rd_T86 l0 x9_1).f1))) (wrap64 (x4_1 + ((rd_T86 l0 x9_1).f1))) l0 (l0.length : Int) (wrap64 (x9_1 + 1)))) else (some false))) else (some false)) = some r := H
        have A21 := Aside0.mk A210
        clear A210
        by_cases c22 : t104 = true
        ·subst c22
         have H1 : ((span_in.f (wrap64 ((wrap64 (x3_1 + ((rd_T86 l0 x9_1).f0))) + (mx (wrap64 (((rd_T86 l0 x9_1).f1) - 1)) 0)))).bind fun t105 => (if t105 = true then (if (wrap64 (x4_1 + ((rd_T86 l0 x9_1).f1))) > 4096 then (some false) else (span_right.l0 kj4 (wrap64 ((wrap64 (x3_1 + ((rd_T86 l0 x9_1).f0))) + ((rd_T86 l0 x9_1).f1))) (wrap64 (x4_1 + ((rd_T86 l0 x9_1).f1))) l0 (l0.length : Int) (wrap64 (x9_1 + 1)))) else (some false))) = some r := by rw [if_pos rfl] at H; exact H
         clear H
         have H := H1
         clear H1
         obtain ⟨ji23, hji23⟩ : ∃ j_ : Int, (mx (wrap64 (((rd_T86 l0 x9_1).f1) - 1)) 0) = j_ := ⟨_, rfl⟩
         replace H : ((span_in.f (wrap64 ((wrap64 (x3_1 + ((rd_T86 l0 x9_1).f0))) + (ji23)))).bind fun t105 => (if t105 = true then (if (wrap64 (x4_1 + ((rd_T86 l0 x9_1).f1))) > 4096 then (some false) else (span_right.l0 kj4 (wrap64 ((wrap64 (x3_1 + ((rd_T86 l0 x9_1).f0))) + ((rd_T86 l0 x9_1).f1))) (wrap64 (x4_1 + ((rd_T86 l0 x9_1).f1))) l0 (l0.length : Int) (wrap64 (x9_1 + 1)))) else (some false))) = some r := by first | (rw [hji23] at H; exact H) | (simp only [hji23] at H ⊢; exact H)
         (try rw [hji23] at A21)
         have hji23_ : (if (wrap64 (((rd_T86 l0 x9_1).f1) - 1)) < 0 then 0 else (wrap64 (((rd_T86 l0 x9_1).f1) - 1))) = ji23 := hji23
         replace H := Option.bind_eq_some_iff.mp H
         obtain ⟨t105, A240, H⟩ := H
         replace H : (if t105 = true then (if (wrap64 (x4_1 + ((rd_T86 l0 x9_1).f1))) > 4096 then (some false) else (span_right.l0 kj4 (wrap64 ((wrap64 (x3_1 + ((rd_T86 l0 x9_1).f0))) + ((rd_T86 l0 x9_1).f1))) (wrap64 (x4_1 + ((rd_T86 l0 x9_1).f1))) l0 (l0.length : Int) (wrap64 (x9_1 + 1)))) else (some false)) = some r := H
         have A24 := Aside0.mk A240
         clear A240
         by_cases c25 : t105 = true
         ·subst c25
          have H1 : (if (wrap64 (x4_1 + ((rd_T86 l0 x9_1).f1))) > 4096 then (some false) else (span_right.l0 kj4 (wrap64 ((wrap64 (x3_1 + ((rd_T86 l0 x9_1).f0))) + ((rd_T86 l0 x9_1).f1))) (wrap64 (x4_1 + ((rd_T86 l0 x9_1).f1))) l0 (l0.length : Int) (wrap64 (x9_1 + 1)))) = some r := by rw [if_pos rfl] at H; exact H
          clear H
          have H := H1
          clear H1
          by_cases c26 : (wrap64 (x4_1 + ((rd_T86 l0 x9_1).f1))) > 4096
          ·rw [if_pos c26] at H
           have c26b0 : decide (4096 < (wrap64 (x4_1 + ((rd_T86 l0 x9_1).f1)))) = true := decide_eq_true c26
           clear c26
           obtain rfl := Option.some.inj H
           have hcz27_0 := blk_cell BK102.out
           have hfz27_0 := blk_frozen BK102.out
           go_wp2_with (first | ((with_reducible refine gate_callee (f := 149) rfl ?_); refine goesM_ (some 51) Try.func149 #[.int .i64 (wrap64 (x3_1 + ((rd_T86 l0 x9_1).f0)))] ?_; (with_reducible refine (span_in.calls (wrap64 (x3_1 + ((rd_T86 l0 x9_1).f0))) true _ A21.out).mono ?_); rintro e w' ⟨rfl, ⟨nd, rfl⟩⟩; refine ⟨_, rfl, ?_⟩; clear A21) | (go_at_call 149; (with_reducible refine (span_in.calls (wrap64 ((wrap64 (x3_1 + ((rd_T86 l0 x9_1).f0))) + (ji23))) true _ A24.out).mono ?_); rintro e w' ⟨rfl, ⟨nd, rfl⟩⟩; clear A24))
           go_ret
           exact ⟨by first | rfl | (simp [errW_none, errW_some] <;> rfl) | (simp only [← hji23]; first | rfl | (simp [errW_none, errW_some] <;> rfl)) | (simp [*, errW_none, errW_some] <;> rfl), by repeat (first | (with_reducible first | exact HB.out | apply below_alloc | apply pw_below_drewN | apply below_drew1 | refine below_set ?_ GE102.out) | exact HB.out)⟩
          rw [if_neg c26] at H
          have c26b0 : decide (4096 < (wrap64 (x4_1 + ((rd_T86 l0 x9_1).f1)))) = false := decide_eq_false c26
          clear c26
          have H' := Aside0.mk H
          clear H
          have hcz28_0 := blk_cell BK102.out
          have hfz28_0 := blk_frozen BK102.out
          go_wp2_with (first | ((with_reducible refine gate_callee (f := 149) rfl ?_); refine goesM_ (some 51) Try.func149 #[.int .i64 (wrap64 (x3_1 + ((rd_T86 l0 x9_1).f0)))] ?_; (with_reducible refine (span_in.calls (wrap64 (x3_1 + ((rd_T86 l0 x9_1).f0))) true _ A21.out).mono ?_); rintro e w' ⟨rfl, ⟨nd, rfl⟩⟩; refine ⟨_, rfl, ?_⟩; clear A21) | (go_at_call 149; (with_reducible refine (span_in.calls (wrap64 ((wrap64 (x3_1 + ((rd_T86 l0 x9_1).f0))) + (ji23))) true _ A24.out).mono ?_); rintro e w' ⟨rfl, ⟨nd, rfl⟩⟩; clear A24))
          go_roundg kj4
          case measure => have := HK1.out; have := HJ4.out; omega
          case rel => exact ⟨(wrap64 ((wrap64 (x3_1 + ((rd_T86 l0 x9_1).f0))) + ((rd_T86 l0 x9_1).f1))), (wrap64 (x4_1 + ((rd_T86 l0 x9_1).f1))), (wrap64 (x9_1 + 1)), (by first | rfl | (simp; done) | (simp [*]; done)), (by first | rfl | (simp; done) | (simp [*]; done)), (by first | rfl | (simp; done) | (simp [*]; done)), H', ⟨by have := HK1.out; have := HJ4.out; omega⟩, ⟨by repeat (first | (with_reducible first | exact HB.out | apply below_alloc | apply pw_below_drewN | apply below_drew1 | refine below_set ?_ GE102.out) | exact HB.out)⟩⟩
         replace c25 := Bool.eq_false_iff.mpr c25
         subst c25
         have H1 : (some false) = some r := by rw [if_neg (show ¬ (false = true) by decide)] at H; exact H
         clear H
         have H := H1
         clear H1
         obtain rfl := Option.some.inj H
         have hcz29_0 := blk_cell BK102.out
         have hfz29_0 := blk_frozen BK102.out
         go_wp2_with (first | ((with_reducible refine gate_callee (f := 149) rfl ?_); refine goesM_ (some 51) Try.func149 #[.int .i64 (wrap64 (x3_1 + ((rd_T86 l0 x9_1).f0)))] ?_; (with_reducible refine (span_in.calls (wrap64 (x3_1 + ((rd_T86 l0 x9_1).f0))) true _ A21.out).mono ?_); rintro e w' ⟨rfl, ⟨nd, rfl⟩⟩; refine ⟨_, rfl, ?_⟩; clear A21) | (go_at_call 149; (with_reducible refine (span_in.calls (wrap64 ((wrap64 (x3_1 + ((rd_T86 l0 x9_1).f0))) + (ji23))) false _ A24.out).mono ?_); rintro e w' ⟨rfl, ⟨nd, rfl⟩⟩; clear A24))
         go_ret
         exact ⟨by first | rfl | (simp [errW_none, errW_some] <;> rfl) | (simp only [← hji23]; first | rfl | (simp [errW_none, errW_some] <;> rfl)) | (simp [*, errW_none, errW_some] <;> rfl), by repeat (first | (with_reducible first | exact HB.out | apply below_alloc | apply pw_below_drewN | apply below_drew1 | refine below_set ?_ GE102.out) | exact HB.out)⟩
        replace c22 := Bool.eq_false_iff.mpr c22
        subst c22
        have H1 : (some false) = some r := by rw [if_neg (show ¬ (false = true) by decide)] at H; exact H
        clear H
        have H := H1
        clear H1
        obtain rfl := Option.some.inj H
        have hcz30_0 := blk_cell BK102.out
        have hfz30_0 := blk_frozen BK102.out
        go_wp2_with (first | ((with_reducible refine gate_callee (f := 149) rfl ?_); refine goesM_ (some 51) Try.func149 #[.int .i64 (wrap64 (x3_1 + ((rd_T86 l0 x9_1).f0)))] ?_; (with_reducible refine (span_in.calls (wrap64 (x3_1 + ((rd_T86 l0 x9_1).f0))) false _ A21.out).mono ?_); rintro e w' ⟨rfl, ⟨nd, rfl⟩⟩; refine ⟨_, rfl, ?_⟩; clear A21))
        go_ret
        exact ⟨by first | rfl | (simp [errW_none, errW_some] <;> rfl) | (simp [*, errW_none, errW_some] <;> rfl), by repeat (first | (with_reducible first | exact HB.out | apply below_alloc | apply pw_below_drewN | apply below_drew1 | refine below_set ?_ GE102.out) | exact HB.out)⟩
     rw [if_neg c4] at H
     exact absurd H (by simp)
    rw [if_neg c3] at H
    exact absurd H (by simp)
   rw [if_neg c2] at H
   have c2b0 : decide (x9_1 < (l0.length : Int)) = false := decide_eq_false c2
   clear c2
   obtain rfl := Option.some.inj H
   go_wp2
   go_ret
   exact ⟨by first | rfl | (simp [errW_none, errW_some] <;> rfl) | (simp [*, errW_none, errW_some] <;> rfl), by repeat (first | (with_reducible first | exact HB.out | apply below_alloc | apply pw_below_drewN | apply below_drew1) | exact HB.out)⟩
def span_Check.f (k : Nat) (l0 : List (S86)) : Option (Int) := if (l0.length : Int) > 1024 then (some 12) else ((span_right.f k l0).bind fun t101 => (if t101 = true then (some 0) else (some 20)))
set_option maxHeartbeats 8000000 in
set_option maxRecDepth 100000 in
theorem span_Check.calls (k : Nat) (A0 : Option Addr) (c0 : Nat) (l0 : List (S86)) (r : Int) (w : World) (hr0 : Kd.C k86 w A0 l0.length l0) (hc0 : l0.length ≤ c0) (h : span_Check.f k l0 = some r) :
  Calls Try.prog 104 #[.slice A0 l0.length c0] w fun e w' => e = .returned (.int .i64 r) ∧ Below w.heap.size w w' := by
 have HR0 := Aside0.mk hr0
 have HC0 := Aside0.mk hc0
 clear hr0 hc0
 have HB := Aside0.mk (Below.refl w.heap.size w)
 have H : (if (l0.length : Int) > 1024 then (some 12) else ((span_right.f k l0).bind fun t101 => (if t101 = true then (some 0) else (some 20)))) = some r := h
 clear h
 by_cases c2 : (l0.length : Int) > 1024
 ·rw [if_pos c2] at H
  have c2b0 : decide (1024 < (l0.length : Int)) = true := decide_eq_true c2
  have c2b1 : decide (1024 < l0.length) = true := decide_eq_true (by omega)
  clear c2
  obtain rfl := Option.some.inj H
  go_enter Try.func104, Try.ntmps104
  go_wp2
  go_ret
  exact ⟨by first | rfl | (simp [errW_none, errW_some] <;> rfl) | (simp [*, errW_none, errW_some] <;> rfl), by repeat (first | (with_reducible first | exact HB.out | apply below_alloc | apply pw_below_drewN | apply below_drew1) | exact HB.out)⟩
 rw [if_neg c2] at H
 have c2b0 : decide (1024 < (l0.length : Int)) = false := decide_eq_false c2
 have c2b1 : decide (1024 < l0.length) = false := decide_eq_false (by omega)
 clear c2
 replace H := Option.bind_eq_some_iff.mp H
 obtain ⟨t101, A30, H⟩ := H
 replace H : (if t101 = true then (some 0) else (some 20)) = some r := H
 have A3 := Aside0.mk A30
 clear A30
 by_cases c4 : t101 = true
 ·subst c4
  have H1 : (some 0) = some r := by rw [if_pos rfl] at H; exact H
  clear H
  have H := H1
  clear H1
  obtain rfl := Option.some.inj H
  go_enter Try.func104, Try.ntmps104
  go_wp2_with (first | ((with_reducible refine gate_callee (f := 128) rfl ?_); refine goesM_ (some 9) Try.func128 #[.slice A0 l0.length c0] ?_; (with_reducible refine (span_right.calls k _ _ l0 true _ ?side1 ?side2 A3.out).mono ?_); (case side1 => exact Kd.C_u HR0.out); (case side2 => exact HC0.out); rintro e w5 ⟨rfl, hb⟩; refine ⟨_, rfl, ?_⟩; replace HB := Aside0.mk (below_step (below_u HB.out) hb); (try clear hb); (try clear hb2); (try clear hk); (try clear hi); clear A3))
  go_ret
  exact ⟨by first | rfl | (simp [errW_none, errW_some] <;> rfl) | (simp [*, errW_none, errW_some] <;> rfl), by repeat (first | (with_reducible first | exact HB.out | apply below_alloc | apply pw_below_drewN | apply below_drew1) | exact HB.out)⟩
 replace c4 := Bool.eq_false_iff.mpr c4
 subst c4
 have H1 : (some 20) = some r := by rw [if_neg (show ¬ (false = true) by decide)] at H; exact H
 clear H
 have H := H1
 clear H1
 obtain rfl := Option.some.inj H
 go_enter Try.func104, Try.ntmps104
 go_wp2_with (first | ((with_reducible refine gate_callee (f := 128) rfl ?_); refine goesM_ (some 9) Try.func128 #[.slice A0 l0.length c0] ?_; (with_reducible refine (span_right.calls k _ _ l0 false _ ?side1 ?side2 A3.out).mono ?_); (case side1 => exact Kd.C_u HR0.out); (case side2 => exact HC0.out); rintro e w6 ⟨rfl, hb⟩; refine ⟨_, rfl, ?_⟩; replace HB := Aside0.mk (below_step (below_u HB.out) hb); (try clear hb); (try clear hb2); (try clear hk); (try clear hi); clear A3))
 go_ret
 exact ⟨by first | rfl | (simp [errW_none, errW_some] <;> rfl) | (simp [*, errW_none, errW_some] <;> rfl), by repeat (first | (with_reducible first | exact HB.out | apply below_alloc | apply pw_below_drewN | apply below_drew1) | exact HB.out)⟩
def span_Count.l0 : Nat → Int → List (S86) → Int → Int → Option (Int)
 | 0, _, _, _, _ => none
 | k + 1, x3, x9, x10, x11 => if x11 < x10 then (if 0 ≤ x11 then (if x11 < (x9.length : Int) then (span_Count.l0 k (wrap64 (x3 + ((rd_T86 x9 x11).f1))) x9 x10 (wrap64 (x11 + 1))) else (none)) else (none)) else (some x3)
def span_Count.f (k : Nat) (l0 : List (S86)) : Option (Int) := (span_Check.f k l0).bind fun t101 => (if t101 = 0 then (span_Count.l0 k 0 l0 (l0.length : Int) 0) else (some 0))
set_option maxHeartbeats 8000000 in
set_option maxRecDepth 100000 in
theorem span_Count.calls (k : Nat) (A0 : Option Addr) (c0 : Nat) (l0 : List (S86)) (r : Int) (w : World) (hr0 : Kd.C k86 w A0 l0.length l0) (hc0 : l0.length ≤ c0) (h : span_Count.f k l0 = some r) :
  Calls Try.prog 130 #[.slice A0 l0.length c0] w fun e w' => e = .returned (.int .i64 r) ∧ Below w.heap.size w w' := by
 have hu86 := Try.underlying86
 have HR0 := Aside0.mk hr0
 have HC0 := Aside0.mk hc0
 clear hr0 hc0
 have HB := Aside0.mk (Below.refl w.heap.size w)
 have H : ((span_Check.f k l0).bind fun t101 => (if t101 = 0 then (span_Count.l0 k 0 l0 (l0.length : Int) 0) else (some 0))) = some r := h
 clear h
 replace H := Option.bind_eq_some_iff.mp H
 obtain ⟨t101, A20, H⟩ := H
 replace H : (if t101 = 0 then (span_Count.l0 k 0 l0 (l0.length : Int) 0) else (some 0)) = some r := H
 have A2 := Aside0.mk A20
 clear A20
 by_cases c3 : t101 = 0
 ·rw [if_pos c3] at H
  have c3b0 : (t101 == 0) = true := beq_iff_eq.mpr c3
  have c3b1 : (t101 != 0) = false := bne_eq_false_iff_eq.mpr c3
  clear c3
  have H' := Aside0.mk H
  clear H
  go_enter Try.func130, Try.ntmps130
  go_wp2_with (first | ((with_reducible refine gate_callee (f := 104) rfl ?_); refine goesM_ (some 7) Try.func104 #[.slice A0 l0.length c0] ?_; (with_reducible refine (span_Check.calls k _ _ l0 t101 _ ?side1 ?side2 A2.out).mono ?_); (case side1 => exact Kd.C_u HR0.out); (case side2 => exact HC0.out); rintro e w4 ⟨rfl, hb⟩; refine ⟨_, rfl, ?_⟩; replace HB := Aside0.mk (below_step (below_u HB.out) hb); (try clear hb); (try clear hb2); (try clear hk); (try clear hi); clear A2))
  go_loopg [3, 11] k (fun kq v3 v11 w' => ∃ (x3_1 : Int) (x11_1 : Int), v3 = .int .i64 x3_1 ∧ v11 = .int .i64 x11_1 ∧ Aside0 (span_Count.l0 kq x3_1 l0 (l0.length : Int) x11_1 = some r) ∧ Aside0 (kq ≤ k) ∧ Aside0 (Below w.heap.size w w'))
  case atStart => exact ⟨(0), (0), (by first | rfl | (simp; done) | (simp [*]; done)), (by first | rfl | (simp; done) | (simp [*]; done)), H', ⟨Nat.le_refl _⟩, ⟨by repeat (first | (with_reducible first | exact HB.out | apply below_alloc | apply pw_below_drewN | apply below_drew1) | exact HB.out)⟩⟩
  case round =>
   clear H'
   try clear c1
   try clear p2
   try clear c3
   try clear c3b0
   try clear c3b1
   obtain ⟨x3_1, x11_1, rfl, rfl, HA, HK1, HB⟩ := hrel
   cases gk with
   | zero => exact absurd HA.out (by simp [span_Count.l0])
   | succ k1 =>
    have H := HA.out
    clear HA
    simp only [span_Count.l0] at H
    by_cases c5 : x11_1 < (l0.length : Int)
    ·rw [if_pos c5] at H
     have c5b0 : decide (x11_1 < (l0.length : Int)) = true := decide_eq_true c5
     clear c5
     by_cases c6 : 0 ≤ x11_1
     ·rw [if_pos c6] at H
      have c6b0 : decide (0 ≤ x11_1) = true := decide_eq_true c6
      clear c6
      by_cases c7 : x11_1 < (l0.length : Int)
      ·rw [if_pos c7] at H
       have c7b0 : decide (x11_1 < (l0.length : Int)) = true := decide_eq_true c7
       clear c7
       have H' := Aside0.mk H
       clear H
       have p102 : 0 ≤ (x11_1 : Int) := of_decide_eq_true (by assumption)
       have q102 : x11_1 < (l0.length : Int) := of_decide_eq_true (by assumption)
       obtain ⟨ad102, e102, hx102_0, hx102_1⟩ := at_T86 HR0.out x11_1 p102 q102
       cases e102
       replace hx102_0 := (HB.out.cell (World.block_lt_of_cell? w _ hx102_0)).trans hx102_0
       replace hx102_1 := (HB.out.cell (World.block_lt_of_cell? w _ hx102_1)).trans hx102_1
       replace p102 := eq_true p102
       replace q102 := eq_true q102
       go_wp2_with (first | ((with_reducible refine gate_dst (N := 5) rfl ?_); refine box_event ?hg (N := 5) ?hd (cs := #[.int .i64 0, .int .i64 0]) (t := 86) ?hr ?_; (case hd => rfl); (case hg => rfl); (case hr => first | (go_simp; done) | (go_simp; rfl)); intro gb103 hg w8 hbox hb; have BK103 := Aside0.mk (hbox); have GW103 := Aside0.mk ((by rw [hg]; exact (below_size (below_u HB.out)) : w.heap.size ≤ gb103)); have GE103 := Aside0.mk ((by rw [hg]; exact (below_size (below_u HB.out)) : w.heap.size ≤ gb103)); replace HB := Aside0.mk (below_step (below_u HB.out) hb); clear hb hbox hg; have hcz9_0 := blk_cell BK103.out; have hfz9_0 := blk_frozen BK103.out))
       go_roundg k1
       case measure => have := HK1.out; omega
       case rel => exact ⟨(wrap64 (x3_1 + ((rd_T86 l0 x11_1).f1))), (wrap64 (x11_1 + 1)), (by first | rfl | (simp; done) | (simp [*]; done)), (by first | rfl | (simp; done) | (simp [*]; done)), H', ⟨by have := HK1.out; omega⟩, ⟨by repeat (first | (with_reducible first | exact HB.out | apply below_alloc | apply pw_below_drewN | apply below_drew1 | refine below_set ?_ GE103.out) | exact HB.out)⟩⟩
      rw [if_neg c7] at H
      exact absurd H (by simp)
     rw [if_neg c6] at H
     exact absurd H (by simp)
    rw [if_neg c5] at H
    have c5b0 : decide (x11_1 < (l0.length : Int)) = false := decide_eq_false c5
    clear c5
    obtain rfl := Option.some.inj H
    go_wp2
    go_ret
    exact ⟨by first | rfl | (simp [errW_none, errW_some] <;> rfl) | (simp [*, errW_none, errW_some] <;> rfl), by repeat (first | (with_reducible first | exact HB.out | apply below_alloc | apply pw_below_drewN | apply below_drew1) | exact HB.out)⟩
 rw [if_neg c3] at H
 have c3b0 : (t101 == 0) = false := beq_eq_false_iff_ne.mpr c3
 have c3b1 : (t101 != 0) = true := bne_iff_ne.mpr c3
 obtain rfl := Option.some.inj H
 go_enter Try.func130, Try.ntmps130
 go_wp2_with (first | ((with_reducible refine gate_callee (f := 104) rfl ?_); refine goesM_ (some 7) Try.func104 #[.slice A0 l0.length c0] ?_; (with_reducible refine (span_Check.calls k _ _ l0 t101 _ ?side1 ?side2 A2.out).mono ?_); (case side1 => exact Kd.C_u HR0.out); (case side2 => exact HC0.out); rintro e w10 ⟨rfl, hb⟩; refine ⟨_, rfl, ?_⟩; replace HB := Aside0.mk (below_step (below_u HB.out) hb); (try clear hb); (try clear hb2); (try clear hk); (try clear hi); clear A2))
 go_ret
 exact ⟨by first | rfl | (simp [errW_none, errW_some] <;> rfl) | (simp [*, errW_none, errW_some] <;> rfl), by repeat (first | (with_reducible first | exact HB.out | apply below_alloc | apply pw_below_drewN | apply below_drew1) | exact HB.out)⟩
mutual
def span_From.l0 : Nat → List Int → List (S86) → Int → List Int → Int → Int → Option ((List (S86)) × Int)
 | 0, _, _, _, _, _, _ => none
 | k + 1, x0, x4, x5, x8, x9, x10 => if x10 < x9 then (if 0 ≤ x10 then (if x10 < (x8.length : Int) then ((span_in.f (rd x8 x10)).bind fun t102 => (if t102 = true then (if x10 > 0 then (span_From.j1 k x0 x4 x5 x10 (rd x8 x10) x8 x9 x10 (decide ((rd x8 x10) < x5))) else (span_From.j1 k x0 x4 x5 x10 (rd x8 x10) x8 x9 x10 false)) else (span_From.j1 k x0 x4 x5 x10 (rd x8 x10) x8 x9 x10 true))) else (none)) else (none)) else (if (x0.length : Int) > 4096 then (some (([] : List (S86)), 12)) else (if (x4.length : Int) > 1024 then (some (([] : List (S86)), 12)) else (some (x4, 0))))
def span_From.j1 : Nat → List Int → List (S86) → Int → Int → Int → List Int → Int → Int → Bool → Option ((List (S86)) × Int)
 | 0, _, _, _, _, _, _, _, _, _ => none
 | k + 1, x0, x4, x5, x6, x7, x8, x9, x10, x26 => if x26 = true then (some (([] : List (S86)), 11)) else (if x6 = 0 then (if x4.length < 8796093022208 then ((some (x4 ++ [(⟨wrap64 (x7 - x5), 0⟩ : S86)] : List (S86))).bind fun y103 => (if 0 ≤ (wrap64 ((y103.length : Int) - 1)) then (if (wrap64 ((y103.length : Int) - 1)) < (y103.length : Int) then (span_From.l0 k x0 (y103.set ((wrap64 ((y103.length : Int) - 1)) : Int).toNat (⟨(rd_T86 y103 (wrap64 ((y103.length : Int) - 1))).f0, wrap64 (((rd_T86 y103 (wrap64 ((y103.length : Int) - 1))).f1) + 1)⟩ : S86)) (wrap64 (x7 + 1)) x8 x9 (wrap64 (x10 + 1))) else (none)) else (none))) else (none)) else (if x7 > x5 then (if x4.length < 8796093022208 then ((some (x4 ++ [(⟨wrap64 (x7 - x5), 0⟩ : S86)] : List (S86))).bind fun y108 => (if 0 ≤ (wrap64 ((y108.length : Int) - 1)) then (if (wrap64 ((y108.length : Int) - 1)) < (y108.length : Int) then (span_From.l0 k x0 (y108.set ((wrap64 ((y108.length : Int) - 1)) : Int).toNat (⟨(rd_T86 y108 (wrap64 ((y108.length : Int) - 1))).f0, wrap64 (((rd_T86 y108 (wrap64 ((y108.length : Int) - 1))).f1) + 1)⟩ : S86)) (wrap64 (x7 + 1)) x8 x9 (wrap64 (x10 + 1))) else (none)) else (none))) else (none)) else (if 0 ≤ (wrap64 ((x4.length : Int) - 1)) then (if (wrap64 ((x4.length : Int) - 1)) < (x4.length : Int) then (span_From.l0 k x0 (x4.set ((wrap64 ((x4.length : Int) - 1)) : Int).toNat (⟨(rd_T86 x4 (wrap64 ((x4.length : Int) - 1))).f0, wrap64 (((rd_T86 x4 (wrap64 ((x4.length : Int) - 1))).f1) + 1)⟩ : S86)) (wrap64 (x7 + 1)) x8 x9 (wrap64 (x10 + 1))) else (none)) else (none))))
end
def span_From.f (k : Nat) (l0 : List Int) : Option ((List (S86)) × Int) := span_From.l0 k l0 ([] : List (S86)) 0 l0 (l0.length : Int) 0
set_option maxHeartbeats 8000000 in
set_option maxRecDepth 100000 in
theorem span_From.calls (k : Nat) (A0 : Option Addr) (c0 : Nat) (l0 : List Int) (r1 : List (S86)) (r2 : Int) (w : World) (hr0 : Kd.C (Kd.int .i64) w A0 l0.length l0) (hc0 : l0.length ≤ c0) (h : span_From.f k l0 = some (r1, r2)) :
  Calls Try.prog 143 #[.slice A0 l0.length c0] w fun e w' => ∃ v0_ : Value, e = .returned (.tuple #[v0_, .int .i64 r2]) ∧ Kd.R k86 86 w' w.heap.size (fun _ => True) v0_ r1 ∧ Below w.heap.size w w' := by
 have hu86 := Try.underlying86
 have HR0 := Aside0.mk hr0
 have HC0 := Aside0.mk hc0
 clear hr0 hc0
 have HB := Aside0.mk (Below.refl w.heap.size w)
 have H : (span_From.l0 k l0 ([] : List (S86)) 0 l0 (l0.length : Int) 0) = some (r1, r2) := h
 clear h
 have H' := Aside0.mk H
 clear H
 go_enter Try.func143, Try.ntmps143
 go_wp2
 go_loopg [4, 5, 10] k (fun kq v4 v5 v10 w' => ∃ (x4_1 : List (S86)) (x5_1 : Int) (x10_1 : Int), v5 = .int .i64 x5_1 ∧ v10 = .int .i64 x10_1 ∧ Aside0 (span_From.l0 kq l0 x4_1 x5_1 l0 (l0.length : Int) x10_1 = some (r1, r2)) ∧ Aside0 (kq ≤ k) ∧ Aside0 (Kd.R k86 86 w' w.heap.size (fun _ => True) v4 x4_1) ∧ Aside0 (Below w.heap.size w w'))
 case atStart => exact ⟨(([] : List (S86))), (0), (0), (by first | rfl | (simp; done) | (simp [*]; done)), (by first | rfl | (simp; done) | (simp [*]; done)), H', ⟨Nat.le_refl _⟩, ⟨by first | exact Kd.R_nil _ _ _ _ _ | exact Kd.N_nil _ _ _ _ _ | exact Kd.V_nil _ _ _ _ _ | exact Kd.Q_nil _ _ _ _ _ | exact Kd.S_nil _ _ _ _ _⟩, ⟨by repeat (first | (with_reducible first | exact HB.out | apply below_alloc | apply pw_below_drewN | apply below_drew1) | exact HB.out)⟩⟩
 case round =>
  clear H'
  try clear c1
  obtain ⟨x4_1, x5_1, x10_1, rfl, rfl, HA, HK1, HO_4, HB⟩ := hrel
  cases gk with
  | zero => exact absurd HA.out (by simp [span_From.l0])
  | succ k1 =>
   have H := HA.out
   clear HA
   simp only [span_From.l0] at H
   by_cases c2 : x10_1 < (l0.length : Int)
   ·rw [if_pos c2] at H
    have c2b0 : decide (x10_1 < (l0.length : Int)) = true := decide_eq_true c2
    clear c2
    by_cases c3 : 0 ≤ x10_1
    ·rw [if_pos c3] at H
     have c3b0 : decide (0 ≤ x10_1) = true := decide_eq_true c3
     clear c3
     by_cases c4 : x10_1 < (l0.length : Int)
     ·rw [if_pos c4] at H
      have c4b0 : decide (x10_1 < (l0.length : Int)) = true := decide_eq_true c4
      clear c4
      have HC5 := Aside0.mk H
      clear H
      have p101 : 0 ≤ (x10_1 : Int) := of_decide_eq_true (by assumption)
      have q101 : x10_1 < (l0.length : Int) := of_decide_eq_true (by assumption)
      obtain ⟨ad101, e101, hx101_0⟩ := Kd.at_int HR0.out x10_1 p101 q101
      cases e101
      replace hx101_0 := (HB.out.cell (World.block_lt_of_cell? w _ hx101_0)).trans hx101_0
      replace p101 := eq_true p101
      replace q101 := eq_true q101
      go_upto_region 6 with (fail)
      go_cut [26] (fun v26 wc => ∃ (kq : Nat) (x26_4 : Bool), v26 = .bool x26_4 ∧ Aside0 (span_From.j1 kq l0 x4_1 x5_1 x10_1 (rd l0 x10_1) l0 (l0.length : Int) x10_1 x26_4 = some (r1, r2)) ∧ Aside0 (kq ≤ k1) ∧ Aside0 (Kd.R k86 86 wc w.heap.size (fun _ => True) u4 x4_1) ∧ Aside0 (Below w.heap.size w wc))
      case first =>
       have H := HC5.out
       clear HC5
       replace H := Option.bind_eq_some_iff.mp H
       obtain ⟨t102, A60, H⟩ := H
       replace H : (if t102 = true then (if x10_1 > 0 then (span_From.j1 k1 l0 x4_1 x5_1 x10_1 (rd l0 x10_1) l0 (l0.length : Int) x10_1 (decide ((rd l0 x10_1) < x5_1))) else (span_From.j1 k1 l0 x4_1 x5_1 x10_1 (rd l0 x10_1) l0 (l0.length : Int) x10_1 false)) else (span_From.j1 k1 l0 x4_1 x5_1 x10_1 (rd l0 x10_1) l0 (l0.length : Int) x10_1 true)) = some (r1, r2) := H
       have A6 := Aside0.mk A60
       clear A60
       by_cases c7 : t102 = true
       ·subst c7
        have H1 : (if x10_1 > 0 then (span_From.j1 k1 l0 x4_1 x5_1 x10_1 (rd l0 x10_1) l0 (l0.length : Int) x10_1 (decide ((rd l0 x10_1) < x5_1))) else (span_From.j1 k1 l0 x4_1 x5_1 x10_1 (rd l0 x10_1) l0 (l0.length : Int) x10_1 false)) = some (r1, r2) := by rw [if_pos rfl] at H; exact H
        clear H
        have H := H1
        clear H1
        by_cases c8 : x10_1 > 0
        ·rw [if_pos c8] at H
         have c8b0 : decide (0 < x10_1) = true := decide_eq_true c8
         clear c8
         (first | rw [c8b0] | (simp only [i64_w, i32_w]; rw [c8b0]) | skip)
         have H' := Aside0.mk H
         clear H
         go_wp2_with (first | ((with_reducible refine gate_callee (f := 149) rfl ?_); refine goesM_ (some 16) Try.func149 #[.int .i64 (rd l0 x10_1)] ?_; (with_reducible refine (span_in.calls (rd l0 x10_1) true _ A6.out).mono ?_); rintro e w' ⟨rfl, ⟨nd, rfl⟩⟩; refine ⟨_, rfl, ?_⟩; clear A6))
         go_meet
         case rel => exact ⟨_, (decide ((rd l0 x10_1) < x5_1)), (by first | rfl | (simp; done) | (simp [*]; done)), H', ⟨by have := HK1.out; first | omega | exact Nat.le_refl _⟩, ⟨by (repeat with_reducible refine Kd.R_q ?_); exact HO_4.out⟩, ⟨by repeat (first | (with_reducible first | exact HB.out | apply below_alloc | apply pw_below_drewN | apply below_drew1) | exact HB.out)⟩⟩
        rw [if_neg c8] at H
        have c8b0 : decide (0 < x10_1) = false := decide_eq_false c8
        clear c8
        (first | rw [c8b0] | (simp only [i64_w, i32_w]; rw [c8b0]) | skip)
        have H' := Aside0.mk H
        clear H
        go_wp2_with (first | ((with_reducible refine gate_callee (f := 149) rfl ?_); refine goesM_ (some 16) Try.func149 #[.int .i64 (rd l0 x10_1)] ?_; (with_reducible refine (span_in.calls (rd l0 x10_1) true _ A6.out).mono ?_); rintro e w' ⟨rfl, ⟨nd, rfl⟩⟩; refine ⟨_, rfl, ?_⟩; clear A6))
        go_meet
        case rel => exact ⟨_, (false), (by first | rfl | (simp; done) | (simp [*]; done)), H', ⟨by have := HK1.out; first | omega | exact Nat.le_refl _⟩, ⟨by (repeat with_reducible refine Kd.R_q ?_); exact HO_4.out⟩, ⟨by repeat (first | (with_reducible first | exact HB.out | apply below_alloc | apply pw_below_drewN | apply below_drew1) | exact HB.out)⟩⟩
       replace c7 := Bool.eq_false_iff.mpr c7
       subst c7
       have H1 : (span_From.j1 k1 l0 x4_1 x5_1 x10_1 (rd l0 x10_1) l0 (l0.length : Int) x10_1 true) = some (r1, r2) := by rw [if_neg (show ¬ (false = true) by decide)] at H; exact H
       clear H
       have H := H1
       clear H1
       have H' := Aside0.mk H
       clear H
       go_wp2_with (first | ((with_reducible refine gate_callee (f := 149) rfl ?_); refine goesM_ (some 16) Try.func149 #[.int .i64 (rd l0 x10_1)] ?_; (with_reducible refine (span_in.calls (rd l0 x10_1) false _ A6.out).mono ?_); rintro e w' ⟨rfl, ⟨nd, rfl⟩⟩; refine ⟨_, rfl, ?_⟩; clear A6))
       go_meet
       case rel => exact ⟨_, (true), (by first | rfl | (simp; done) | (simp [*]; done)), H', ⟨by have := HK1.out; first | omega | exact Nat.le_refl _⟩, ⟨by (repeat with_reducible refine Kd.R_q ?_); exact HO_4.out⟩, ⟨by repeat (first | (with_reducible first | exact HB.out | apply below_alloc | apply pw_below_drewN | apply below_drew1) | exact HB.out)⟩⟩
      case rest =>
       clear HC5
       try clear c1
       try clear p1
       try clear q1
       try clear hx1
       try clear c2
       try clear c2b0
       try clear p2
       try clear c3
       try clear c3b0
       try clear c4
       try clear c4b0
       try clear c7
       try clear c8
       try clear c8b0
       try clear hx101_0
       try clear p101
       try clear q101
       obtain ⟨kq, x26_4, rfl, HA, HJ4, HO_4, HB⟩ := hcut
       cases kq with
       | zero => exact absurd HA.out (by simp [span_From.j1])
       | succ kj4 =>
        have H := HA.out
        clear HA
        simp only [span_From.j1] at H
        by_cases c9 : x26_4 = true
        ·subst c9
         have H1 : (some (([] : List (S86)), 11)) = some (r1, r2) := by rw [if_pos rfl] at H; exact H
         clear H
         have H := H1
         clear H1
         simp only [Option.some.injEq, Prod.mk.injEq] at H
         obtain ⟨rfl, rfl⟩ := H
         go_wp2
         go_ret2
         exact ⟨_, by first | rfl | (simp [errW_none, errW_some] <;> rfl) | (simp [*, errW_none, errW_some] <;> rfl), by first | exact Kd.R_nil _ _ _ _ _ | exact Kd.N_nil _ _ _ _ _ | exact Kd.V_nil _ _ _ _ _ | exact Kd.Q_nil _ _ _ _ _ | exact Kd.S_nil _ _ _ _ _, by repeat (first | (with_reducible first | exact HB.out | apply below_alloc | apply pw_below_drewN | apply below_drew1) | exact HB.out)⟩
        replace c9 := Bool.eq_false_iff.mpr c9
        subst c9
        have H1 : (if x10_1 = 0 then (if x4_1.length < 8796093022208 then ((some (x4_1 ++ [(⟨wrap64 ((rd l0 x10_1) - x5_1), 0⟩ : S86)] : List (S86))).bind fun y103 => (if 0 ≤ (wrap64 ((y103.length : Int) - 1)) then (if (wrap64 ((y103.length : Int) - 1)) < (y103.length : Int) then (span_From.l0 kj4 l0 (y103.set ((wrap64 ((y103.length : Int) - 1)) : Int).toNat (⟨(rd_T86 y103 (wrap64 ((y103.length : Int) - 1))).f0, wrap64 (((rd_T86 y103 (wrap64 ((y103.length : Int) - 1))).f1) + 1)⟩ : S86)) (wrap64 ((rd l0 x10_1) + 1)) l0 (l0.length : Int) (wrap64 (x10_1 + 1))) else (none)) else (none))) else (none)) else (if (rd l0 x10_1) > x5_1 then (if x4_1.length < 8796093022208 then ((some (x4_1 ++ [(⟨wrap64 ((rd l0 x10_1) - x5_1), 0⟩ : S86)] : List (S86))).bind fun y108 => (if 0 ≤ (wrap64 ((y108.length : Int) - 1)) then (if (wrap64 ((y108.length : Int) - 1)) < (y108.length : Int) then (span_From.l0 kj4 l0 (y108.set ((wrap64 ((y108.length : Int) - 1)) : Int).toNat (⟨(rd_T86 y108 (wrap64 ((y108.length : Int) - 1))).f0, wrap64 (((rd_T86 y108 (wrap64 ((y108.length : Int) - 1))).f1) + 1)⟩ : S86)) (wrap64 ((rd l0 x10_1) + 1)) l0 (l0.length : Int) (wrap64 (x10_1 + 1))) else (none)) else (none))) else (none)) else (if 0 ≤ (wrap64 ((x4_1.length : Int) - 1)) then (if (wrap64 ((x4_1.length : Int) - 1)) < (x4_1.length : Int) then (span_From.l0 kj4 l0 (x4_1.set ((wrap64 ((x4_1.length : Int) - 1)) : Int).toNat (⟨(rd_T86 x4_1 (wrap64 ((x4_1.length : Int) - 1))).f0, wrap64 (((rd_T86 x4_1 (wrap64 ((x4_1.length : Int) - 1))).f1) + 1)⟩ : S86)) (wrap64 ((rd l0 x10_1) + 1)) l0 (l0.length : Int) (wrap64 (x10_1 + 1))) else (none)) else (none)))) = some (r1, r2) := by rw [if_neg (show ¬ (false = true) by decide)] at H; exact H
        clear H
        have H := H1
        clear H1
        by_cases c10 : x10_1 = 0
        ·rw [if_pos c10] at H
         have c10b0 : (x10_1 == 0) = true := beq_iff_eq.mpr c10
         have c10b1 : (x10_1 != 0) = false := bne_eq_false_iff_eq.mpr c10
         clear c10
         by_cases c11 : x4_1.length < 8796093022208
         ·rw [if_pos c11] at H
          have LMc11 := Aside0.mk c11
          clear c11
          obtain ⟨y103, hy103⟩ : ∃ y_ : List (S86), y_ = (x4_1 ++ [(⟨wrap64 ((rd l0 x10_1) - x5_1), 0⟩ : S86)]) := ⟨_, rfl⟩
          replace H : (if 0 ≤ (wrap64 ((y103.length : Int) - 1)) then (if (wrap64 ((y103.length : Int) - 1)) < (y103.length : Int) then (span_From.l0 kj4 l0 (y103.set ((wrap64 ((y103.length : Int) - 1)) : Int).toNat (⟨(rd_T86 y103 (wrap64 ((y103.length : Int) - 1))).f0, wrap64 (((rd_T86 y103 (wrap64 ((y103.length : Int) - 1))).f1) + 1)⟩ : S86)) (wrap64 ((rd l0 x10_1) + 1)) l0 (l0.length : Int) (wrap64 (x10_1 + 1))) else (none)) else (none)) = some (r1, r2) := by first | (rw [hy103]; with_reducible exact H) | (have H2_ := (Option.bind_some _ _).symm.trans H; rw [hy103]; with_reducible exact H2_) | (have H2_ := (Option.bind_some _ _).symm.trans H; with_reducible exact H2_) | with_reducible exact H | (rw [hy103]; exact H) | exact H
          have Ny103 := Aside0.mk hy103
          clear hy103
          obtain ⟨ji12, hji12⟩ : ∃ j_ : Int, (wrap64 ((y103.length : Int) - 1)) = j_ := ⟨_, rfl⟩
          replace H : (if 0 ≤ (ji12) then (if (ji12) < (y103.length : Int) then (span_From.l0 kj4 l0 (y103.set ((ji12) : Int).toNat (⟨(rd_T86 y103 (ji12)).f0, wrap64 (((rd_T86 y103 (ji12)).f1) + 1)⟩ : S86)) (wrap64 ((rd l0 x10_1) + 1)) l0 (l0.length : Int) (wrap64 (x10_1 + 1))) else (none)) else (none)) = some (r1, r2) := by first | (rw [hji12] at H; exact H) | (simp only [hji12] at H ⊢; exact H)
          have hji12w : (IntKind.i64.wrap ((y103.length : Int) - 1)) = ji12 := (i64_w _).trans hji12
          by_cases c13 : 0 ≤ (ji12)
          ·rw [if_pos c13] at H
           have c13b0 : decide (0 ≤ (ji12)) = true := decide_eq_true c13
           clear c13
           by_cases c14 : (ji12) < (y103.length : Int)
           ·rw [if_pos c14] at H
            have c14b0 : decide ((ji12) < (y103.length : Int)) = true := decide_eq_true c14
            clear c14
            obtain ⟨y107, hy107⟩ : ∃ y_ : List (S86), y_ = (y103.set ((ji12) : Int).toNat (⟨(rd_T86 y103 (ji12)).f0, wrap64 (((rd_T86 y103 (ji12)).f1) + 1)⟩ : S86)) := ⟨_, rfl⟩
            replace H : (span_From.l0 kj4 l0 y107 (wrap64 ((rd l0 x10_1) + 1)) l0 (l0.length : Int) (wrap64 (x10_1 + 1))) = some (r1, r2) := by first | (rw [hy107]; with_reducible exact H) | (have H2_ := (Option.bind_some _ _).symm.trans H; rw [hy107]; with_reducible exact H2_) | (have H2_ := (Option.bind_some _ _).symm.trans H; with_reducible exact H2_) | with_reducible exact H | (rw [hy107]; exact H) | exact H
            have Ny107 := Aside0.mk hy107
            clear hy107
            have H' := Aside0.mk H
            clear H
            go_wp2_with (first | ((with_reducible refine gate_builtin (b := .append) (xs := #[.tmp 34, .tmp 39]) rfl ?_); (try (refine gate_guard (by rfl) ?_; dsimp only)); at_builtin; refine Kd.R_append k86 (w0 := w) w.heap.size rfl (.tmp 34) (.tmp 39) 23 86 (.agg #[(.int .i64 0), (.int .i64 0)]) 16 rfl Try.underlying23 info86 rfl (by decide) (by omega) u4 x4_1 (⟨wrap64 ((rd l0 x10_1) - x5_1), 0⟩ : S86) [.int .i64 (wrap64 ((rd l0 x10_1) - x5_1)), .int .i64 0] (fun _ => True) (fun _ => False) rfl rfl ?aP (fun _ hk => hk.elim) ?aF ?aO ?aB ?aS ?aL ?_; (case aP => exact k86_mkM _ _ _ (⟨wrap64 ((rd l0 x10_1) - x5_1), 0⟩ : S86)); (case aB => exact (below_u HB.out)); (case aF => exact (fun _ _ => trivial)); (case aO => exact (Kd.R_u HO_4.out)); (case aS => exact (below_size (below_u HB.out))); (case aL => have := LMc11.out; omega); intro v104 w16 ho hb hg hat; rw [← Ny103.out] at ho; have HO105 := Aside0.mk (ho); replace HB := Aside0.mk (hb); clear HO_4; clear ho hb hg hat; obtain ⟨Ao17, co17, eo17⟩ := Kd.R_slice HO105.out; subst eo17; have p106 : 0 ≤ ((ji12) : Int) := of_decide_eq_true (by assumption); have q106 : (ji12) < (y103.length : Int) := of_decide_eq_true (by assumption); obtain ⟨ad106, e106, hx106_0, hx106_1⟩ := at_T86 (Kd.R_reads' HO105.out).2.2 (ji12) p106 q106; cases e106; replace p106 := eq_true p106; replace q106 := eq_true q106; have p15 : 0 ≤ ((ji12) : Int) := of_decide_eq_true (by assumption); have q15 : ((ji12) : Int) < ((y103.length : Int) : Int) := of_decide_eq_true (by assumption); obtain ⟨go15, co15, eo15, gb15, gl15, cl15, HG15⟩ := Kd.R_form HO105.out (by omega); (first | cases eo15 | (injection eo15 with ea_ en_ ec_; (first | subst ea_ | (injection ea_ with ea_; subst ea_)); subst ec_; clear en_)); have GB15 := Aside0.mk gb15; have GG15 := Aside0.mk HG15; clear gb15 gl15 HG15; (first | simp only [add_plain] at hx106_0 | skip); (first | simp only [add_plain] at hx106_1 | skip); obtain ⟨ce15, hcl15, hM15, hcc15, hfr15⟩ := Kd.R_elem HO105.out z86 ((ji12) : Int) p15 q15; obtain rfl := k86_openM hM15; have hx15_0 : w16.cell? ⟨go15, ((ji12) : Int).toNat * 2, none⟩ = some (.int .i64 ((rd_T86 y103 (ji12)).f0)) := hcc15 0 _ rfl; have hx15_1 : w16.cell? ⟨go15, ((ji12) : Int).toNat * 2 + 1, none⟩ = some (.int .i64 ((rd_T86 y103 (ji12)).f1)) := hcc15 1 _ rfl; have hf15_0 : w16.frozen? ⟨go15, ((ji12) : Int).toNat * 2, none⟩ = false := hfr15 0; have hf15_1 : w16.frozen? ⟨go15, ((ji12) : Int).toNat * 2 + 1, none⟩ = false := hfr15 1; clear hcl15 hcc15 hfr15 hM15; replace p15 := eq_true p15; replace q15 := eq_true q15; have HX18 := Aside0.mk (show Kd.R k86 86 w16 w.heap.size (fun _ => True) (.slice (some ⟨go15, 0, none⟩) y103.length co17) y103 from (Kd.R_u HO105.out)); obtain ⟨ce18, hcl18, hM18, hcc18, hfr18⟩ := Kd.R_elem HX18.out z86 ((ji12) : Int) (of_decide_eq_true (by assumption)) (by have h_ : ((ji12) : Int) < ((y103.length : Int) : Int) := of_decide_eq_true (by assumption); first | exact h_ | (have e_ := (Kd.R_reads' HO105.out).1; omega) | simpa using h_); obtain rfl := k86_openM hM18; have HP18 := Kd.R_seg HX18.out ((ji12) : Int) (of_decide_eq_true (by assumption)) (by have h_ : ((ji12) : Int) < ((y103.length : Int) : Int) := of_decide_eq_true (by assumption); first | exact h_ | (have e_ := (Kd.R_reads' HO105.out).1; omega) | simpa using h_) (seg := [.int .i64 (wrap64 (((rd_T86 y103 (ji12)).f1) + 1))]) (j := 1) hcl18 hcc18 (show 2 ≤ 2 from by decide) (x' := (⟨(rd_T86 y103 (ji12)).f0, wrap64 (((rd_T86 y103 (ji12)).f1) + 1)⟩ : S86)) (k86_mkM _ _ _ (⟨(rd_T86 y103 (ji12)).f0, wrap64 (((rd_T86 y103 (ji12)).f1) + 1)⟩ : S86) ) (fun _ hk => hk); have hx18_1 := hcc18 1 _ rfl; (try simp only [show (k86).sz = 2 from rfl, Nat.mul_one, Nat.add_zero] at hx18_1); have hf18_1 := hfr18 1; (try simp only [show (k86).sz = 2 from rfl, Nat.mul_one, Nat.add_zero] at hf18_1); clear hcl18 hcc18 hfr18 hM18) | ((with_reducible refine gate_store (t := 3) (p := 50) rfl ?_); refine store_event (t := 3) (p := 50) (v := ?vo_w19) (w1 := (w16.setCell ⟨go15, ((ji12) : Int).toNat * 2 + 1, none⟩ (.int .i64 (wrap64 (((rd_T86 y103 (ji12)).f1) + 1))))) ?hg ?ho ?hn ?hr ?_; (case ho => rfl); (case hg => rfl); (case hn => rfl); (case hr => first | (go_simp; done) | (go_simp; rfl)); intro w19 hw; have hg : w16.grownBy w19 (some go15) := (by rw [hw]; exact HP18.2); have hp_ : Kd.R k86 86 w19 w.heap.size (fun _ => True) (.slice (some ⟨go15, 0, none⟩) y103.length co17) y107 := (by rw [hw, Ny107.out]; exact HP18.1); clear HP18; replace HO105 := Aside0.mk (hp_); replace HB := Aside0.mk ((by rw [hw]; exact below_set (HB.out) GB15.out : Below w.heap.size w w19)); clear hg hw hp_))
            go_roundg kj4
            case measure => have := HK1.out; have := HJ4.out; omega
            case rel => exact ⟨(y107), (wrap64 ((rd l0 x10_1) + 1)), (wrap64 (x10_1 + 1)), (by first | rfl | (simp; done) | (simp [*]; done)), (by first | rfl | (simp; done) | (simp [*]; done)), H', ⟨by have := HK1.out; have := HJ4.out; omega⟩, ⟨by (repeat with_reducible refine Kd.R_q ?_); exact HO105.out⟩, ⟨by repeat (first | (with_reducible first | exact HB.out | apply below_alloc | apply pw_below_drewN | apply below_drew1) | exact HB.out)⟩⟩
           rw [if_neg c14] at H
           exact absurd H (by simp)
          rw [if_neg c13] at H
          exact absurd H (by simp)
         rw [if_neg c11] at H
         exact absurd H (by simp)
        rw [if_neg c10] at H
        have c10b0 : (x10_1 == 0) = false := beq_eq_false_iff_ne.mpr c10
        have c10b1 : (x10_1 != 0) = true := bne_iff_ne.mpr c10
        by_cases c20 : (rd l0 x10_1) > x5_1
        ·rw [if_pos c20] at H
         have c20b0 : decide (x5_1 < (rd l0 x10_1)) = true := decide_eq_true c20
         clear c20
         by_cases c21 : x4_1.length < 8796093022208
         ·rw [if_pos c21] at H
          have LMc21 := Aside0.mk c21
          clear c21
          obtain ⟨y108, hy108⟩ : ∃ y_ : List (S86), y_ = (x4_1 ++ [(⟨wrap64 ((rd l0 x10_1) - x5_1), 0⟩ : S86)]) := ⟨_, rfl⟩
          replace H : (if 0 ≤ (wrap64 ((y108.length : Int) - 1)) then (if (wrap64 ((y108.length : Int) - 1)) < (y108.length : Int) then (span_From.l0 kj4 l0 (y108.set ((wrap64 ((y108.length : Int) - 1)) : Int).toNat (⟨(rd_T86 y108 (wrap64 ((y108.length : Int) - 1))).f0, wrap64 (((rd_T86 y108 (wrap64 ((y108.length : Int) - 1))).f1) + 1)⟩ : S86)) (wrap64 ((rd l0 x10_1) + 1)) l0 (l0.length : Int) (wrap64 (x10_1 + 1))) else (none)) else (none)) = some (r1, r2) := by first | (rw [hy108]; with_reducible exact H) | (have H2_ := (Option.bind_some _ _).symm.trans H; rw [hy108]; with_reducible exact H2_) | (have H2_ := (Option.bind_some _ _).symm.trans H; with_reducible exact H2_) | with_reducible exact H | (rw [hy108]; exact H) | exact H
          have Ny108 := Aside0.mk hy108
          clear hy108
          obtain ⟨ji22, hji22⟩ : ∃ j_ : Int, (wrap64 ((y108.length : Int) - 1)) = j_ := ⟨_, rfl⟩
          replace H : (if 0 ≤ (ji22) then (if (ji22) < (y108.length : Int) then (span_From.l0 kj4 l0 (y108.set ((ji22) : Int).toNat (⟨(rd_T86 y108 (ji22)).f0, wrap64 (((rd_T86 y108 (ji22)).f1) + 1)⟩ : S86)) (wrap64 ((rd l0 x10_1) + 1)) l0 (l0.length : Int) (wrap64 (x10_1 + 1))) else (none)) else (none)) = some (r1, r2) := by first | (rw [hji22] at H; exact H) | (simp only [hji22] at H ⊢; exact H)
          have hji22w : (IntKind.i64.wrap ((y108.length : Int) - 1)) = ji22 := (i64_w _).trans hji22
          by_cases c23 : 0 ≤ (ji22)
          ·rw [if_pos c23] at H
           have c23b0 : decide (0 ≤ (ji22)) = true := decide_eq_true c23
           clear c23
           by_cases c24 : (ji22) < (y108.length : Int)
           ·rw [if_pos c24] at H
            have c24b0 : decide ((ji22) < (y108.length : Int)) = true := decide_eq_true c24
            clear c24
            obtain ⟨y112, hy112⟩ : ∃ y_ : List (S86), y_ = (y108.set ((ji22) : Int).toNat (⟨(rd_T86 y108 (ji22)).f0, wrap64 (((rd_T86 y108 (ji22)).f1) + 1)⟩ : S86)) := ⟨_, rfl⟩
            replace H : (span_From.l0 kj4 l0 y112 (wrap64 ((rd l0 x10_1) + 1)) l0 (l0.length : Int) (wrap64 (x10_1 + 1))) = some (r1, r2) := by first | (rw [hy112]; with_reducible exact H) | (have H2_ := (Option.bind_some _ _).symm.trans H; rw [hy112]; with_reducible exact H2_) | (have H2_ := (Option.bind_some _ _).symm.trans H; with_reducible exact H2_) | with_reducible exact H | (rw [hy112]; exact H) | exact H
            have Ny112 := Aside0.mk hy112
            clear hy112
            have H' := Aside0.mk H
            clear H
            go_wp2_with (first | ((with_reducible refine gate_builtin (b := .append) (xs := #[.tmp 34, .tmp 39]) rfl ?_); (try (refine gate_guard (by rfl) ?_; dsimp only)); at_builtin; refine Kd.R_append k86 (w0 := w) w.heap.size rfl (.tmp 34) (.tmp 39) 23 86 (.agg #[(.int .i64 0), (.int .i64 0)]) 16 rfl Try.underlying23 info86 rfl (by decide) (by omega) u4 x4_1 (⟨wrap64 ((rd l0 x10_1) - x5_1), 0⟩ : S86) [.int .i64 (wrap64 ((rd l0 x10_1) - x5_1)), .int .i64 0] (fun _ => True) (fun _ => False) rfl rfl ?aP (fun _ hk => hk.elim) ?aF ?aO ?aB ?aS ?aL ?_; (case aP => exact k86_mkM _ _ _ (⟨wrap64 ((rd l0 x10_1) - x5_1), 0⟩ : S86)); (case aB => exact (below_u HB.out)); (case aF => exact (fun _ _ => trivial)); (case aO => exact (Kd.R_u HO_4.out)); (case aS => exact (below_size (below_u HB.out))); (case aL => have := LMc21.out; omega); intro v109 w26 ho hb hg hat; rw [← Ny108.out] at ho; have HO110 := Aside0.mk (ho); replace HB := Aside0.mk (hb); clear HO_4; clear ho hb hg hat; obtain ⟨Ao27, co27, eo27⟩ := Kd.R_slice HO110.out; subst eo27; have p111 : 0 ≤ ((ji22) : Int) := of_decide_eq_true (by assumption); have q111 : (ji22) < (y108.length : Int) := of_decide_eq_true (by assumption); obtain ⟨ad111, e111, hx111_0, hx111_1⟩ := at_T86 (Kd.R_reads' HO110.out).2.2 (ji22) p111 q111; cases e111; replace p111 := eq_true p111; replace q111 := eq_true q111; have p25 : 0 ≤ ((ji22) : Int) := of_decide_eq_true (by assumption); have q25 : ((ji22) : Int) < ((y108.length : Int) : Int) := of_decide_eq_true (by assumption); obtain ⟨go25, co25, eo25, gb25, gl25, cl25, HG25⟩ := Kd.R_form HO110.out (by omega); (first | cases eo25 | (injection eo25 with ea_ en_ ec_; (first | subst ea_ | (injection ea_ with ea_; subst ea_)); subst ec_; clear en_)); have GB25 := Aside0.mk gb25; have GG25 := Aside0.mk HG25; clear gb25 gl25 HG25; (first | simp only [add_plain] at hx111_0 | skip); (first | simp only [add_plain] at hx111_1 | skip); obtain ⟨ce25, hcl25, hM25, hcc25, hfr25⟩ := Kd.R_elem HO110.out z86 ((ji22) : Int) p25 q25; obtain rfl := k86_openM hM25; have hx25_0 : w26.cell? ⟨go25, ((ji22) : Int).toNat * 2, none⟩ = some (.int .i64 ((rd_T86 y108 (ji22)).f0)) := hcc25 0 _ rfl; have hx25_1 : w26.cell? ⟨go25, ((ji22) : Int).toNat * 2 + 1, none⟩ = some (.int .i64 ((rd_T86 y108 (ji22)).f1)) := hcc25 1 _ rfl; have hf25_0 : w26.frozen? ⟨go25, ((ji22) : Int).toNat * 2, none⟩ = false := hfr25 0; have hf25_1 : w26.frozen? ⟨go25, ((ji22) : Int).toNat * 2 + 1, none⟩ = false := hfr25 1; clear hcl25 hcc25 hfr25 hM25; replace p25 := eq_true p25; replace q25 := eq_true q25; have HX28 := Aside0.mk (show Kd.R k86 86 w26 w.heap.size (fun _ => True) (.slice (some ⟨go25, 0, none⟩) y108.length co27) y108 from (Kd.R_u HO110.out)); obtain ⟨ce28, hcl28, hM28, hcc28, hfr28⟩ := Kd.R_elem HX28.out z86 ((ji22) : Int) (of_decide_eq_true (by assumption)) (by have h_ : ((ji22) : Int) < ((y108.length : Int) : Int) := of_decide_eq_true (by assumption); first | exact h_ | (have e_ := (Kd.R_reads' HO110.out).1; omega) | simpa using h_); obtain rfl := k86_openM hM28; have HP28 := Kd.R_seg HX28.out ((ji22) : Int) (of_decide_eq_true (by assumption)) (by have h_ : ((ji22) : Int) < ((y108.length : Int) : Int) := of_decide_eq_true (by assumption); first | exact h_ | (have e_ := (Kd.R_reads' HO110.out).1; omega) | simpa using h_) (seg := [.int .i64 (wrap64 (((rd_T86 y108 (ji22)).f1) + 1))]) (j := 1) hcl28 hcc28 (show 2 ≤ 2 from by decide) (x' := (⟨(rd_T86 y108 (ji22)).f0, wrap64 (((rd_T86 y108 (ji22)).f1) + 1)⟩ : S86)) (k86_mkM _ _ _ (⟨(rd_T86 y108 (ji22)).f0, wrap64 (((rd_T86 y108 (ji22)).f1) + 1)⟩ : S86) ) (fun _ hk => hk); have hx28_1 := hcc28 1 _ rfl; (try simp only [show (k86).sz = 2 from rfl, Nat.mul_one, Nat.add_zero] at hx28_1); have hf28_1 := hfr28 1; (try simp only [show (k86).sz = 2 from rfl, Nat.mul_one, Nat.add_zero] at hf28_1); clear hcl28 hcc28 hfr28 hM28) | ((with_reducible refine gate_store (t := 3) (p := 50) rfl ?_); refine store_event (t := 3) (p := 50) (v := ?vo_w29) (w1 := (w26.setCell ⟨go25, ((ji22) : Int).toNat * 2 + 1, none⟩ (.int .i64 (wrap64 (((rd_T86 y108 (ji22)).f1) + 1))))) ?hg ?ho ?hn ?hr ?_; (case ho => rfl); (case hg => rfl); (case hn => rfl); (case hr => first | (go_simp; done) | (go_simp; rfl)); intro w29 hw; have hg : w26.grownBy w29 (some go25) := (by rw [hw]; exact HP28.2); have hp_ : Kd.R k86 86 w29 w.heap.size (fun _ => True) (.slice (some ⟨go25, 0, none⟩) y108.length co27) y112 := (by rw [hw, Ny112.out]; exact HP28.1); clear HP28; replace HO110 := Aside0.mk (hp_); replace HB := Aside0.mk ((by rw [hw]; exact below_set (HB.out) GB25.out : Below w.heap.size w w29)); clear hg hw hp_))
            go_roundg kj4
            case measure => have := HK1.out; have := HJ4.out; omega
            case rel => exact ⟨(y112), (wrap64 ((rd l0 x10_1) + 1)), (wrap64 (x10_1 + 1)), (by first | rfl | (simp; done) | (simp [*]; done)), (by first | rfl | (simp; done) | (simp [*]; done)), H', ⟨by have := HK1.out; have := HJ4.out; omega⟩, ⟨by (repeat with_reducible refine Kd.R_q ?_); exact HO110.out⟩, ⟨by repeat (first | (with_reducible first | exact HB.out | apply below_alloc | apply pw_below_drewN | apply below_drew1) | exact HB.out)⟩⟩
           rw [if_neg c24] at H
           exact absurd H (by simp)
          rw [if_neg c23] at H
          exact absurd H (by simp)
         rw [if_neg c21] at H
         exact absurd H (by simp)
        rw [if_neg c20] at H
        have c20b0 : decide (x5_1 < (rd l0 x10_1)) = false := decide_eq_false c20
        clear c20
        obtain ⟨ji30, hji30⟩ : ∃ j_ : Int, (wrap64 ((x4_1.length : Int) - 1)) = j_ := ⟨_, rfl⟩
        replace H : (if 0 ≤ (ji30) then (if (ji30) < (x4_1.length : Int) then (span_From.l0 kj4 l0 (x4_1.set ((ji30) : Int).toNat (⟨(rd_T86 x4_1 (ji30)).f0, wrap64 (((rd_T86 x4_1 (ji30)).f1) + 1)⟩ : S86)) (wrap64 ((rd l0 x10_1) + 1)) l0 (l0.length : Int) (wrap64 (x10_1 + 1))) else (none)) else (none)) = some (r1, r2) := by first | (rw [hji30] at H; exact H) | (simp only [hji30] at H ⊢; exact H)
        have hji30w : (IntKind.i64.wrap ((x4_1.length : Int) - 1)) = ji30 := (i64_w _).trans hji30
        by_cases c31 : 0 ≤ (ji30)
        ·rw [if_pos c31] at H
         have c31b0 : decide (0 ≤ (ji30)) = true := decide_eq_true c31
         clear c31
         by_cases c32 : (ji30) < (x4_1.length : Int)
         ·rw [if_pos c32] at H
          have c32b0 : decide ((ji30) < (x4_1.length : Int)) = true := decide_eq_true c32
          clear c32
          obtain ⟨y114, hy114⟩ : ∃ y_ : List (S86), y_ = (x4_1.set ((ji30) : Int).toNat (⟨(rd_T86 x4_1 (ji30)).f0, wrap64 (((rd_T86 x4_1 (ji30)).f1) + 1)⟩ : S86)) := ⟨_, rfl⟩
          replace H : (span_From.l0 kj4 l0 y114 (wrap64 ((rd l0 x10_1) + 1)) l0 (l0.length : Int) (wrap64 (x10_1 + 1))) = some (r1, r2) := by first | (rw [hy114]; with_reducible exact H) | (have H2_ := (Option.bind_some _ _).symm.trans H; rw [hy114]; with_reducible exact H2_) | (have H2_ := (Option.bind_some _ _).symm.trans H; with_reducible exact H2_) | with_reducible exact H | (rw [hy114]; exact H) | exact H
          have Ny114 := Aside0.mk hy114
          clear hy114
          have H' := Aside0.mk H
          clear H
          obtain ⟨Ao34, co34, eo34⟩ := Kd.R_slice HO_4.out
          subst eo34
          have p113 : 0 ≤ ((ji30) : Int) := of_decide_eq_true (by assumption)
          have q113 : (ji30) < (x4_1.length : Int) := of_decide_eq_true (by assumption)
          obtain ⟨ad113, e113, hx113_0, hx113_1⟩ := at_T86 (Kd.R_reads' HO_4.out).2.2 (ji30) p113 q113
          cases e113
          replace p113 := eq_true p113
          replace q113 := eq_true q113
          have p33 : 0 ≤ ((ji30) : Int) := of_decide_eq_true (by assumption)
          have q33 : ((ji30) : Int) < ((x4_1.length : Int) : Int) := of_decide_eq_true (by assumption)
          obtain ⟨go33, co33, eo33, gb33, gl33, cl33, HG33⟩ := Kd.R_form HO_4.out (by omega)
          (first | cases eo33 | (injection eo33 with ea_ en_ ec_; (first | subst ea_ | (injection ea_ with ea_; subst ea_)); subst ec_; clear en_))
          have GB33 := Aside0.mk gb33
          have GG33 := Aside0.mk HG33
          clear gb33 gl33 HG33
          (first | simp only [add_plain] at hx113_0 | skip)
          (first | simp only [add_plain] at hx113_1 | skip)
          obtain ⟨ce33, hcl33, hM33, hcc33, hfr33⟩ := Kd.R_elem HO_4.out z86 ((ji30) : Int) p33 q33
          obtain rfl := k86_openM hM33
          have hx33_0 : wc.cell? ⟨go33, ((ji30) : Int).toNat * 2, none⟩ = some (.int .i64 ((rd_T86 x4_1 (ji30)).f0)) := hcc33 0 _ rfl
          have hx33_1 : wc.cell? ⟨go33, ((ji30) : Int).toNat * 2 + 1, none⟩ = some (.int .i64 ((rd_T86 x4_1 (ji30)).f1)) := hcc33 1 _ rfl
          have hf33_0 : wc.frozen? ⟨go33, ((ji30) : Int).toNat * 2, none⟩ = false := hfr33 0
          have hf33_1 : wc.frozen? ⟨go33, ((ji30) : Int).toNat * 2 + 1, none⟩ = false := hfr33 1
          clear hcl33 hcc33 hfr33 hM33
          replace p33 := eq_true p33
          replace q33 := eq_true q33
          have HX35 := Aside0.mk (show Kd.R k86 86 wc w.heap.size (fun _ => True) (.slice (some ⟨go33, 0, none⟩) x4_1.length co34) x4_1 from (Kd.R_u HO_4.out))
          obtain ⟨ce35, hcl35, hM35, hcc35, hfr35⟩ := Kd.R_elem HX35.out z86 ((ji30) : Int) (of_decide_eq_true (by assumption)) (by have h_ : ((ji30) : Int) < ((x4_1.length : Int) : Int) := of_decide_eq_true (by assumption); first | exact h_ | (have e_ := (Kd.R_reads' HO_4.out).1; omega) | simpa using h_)
          obtain rfl := k86_openM hM35
          have HP35 := Kd.R_seg HX35.out ((ji30) : Int) (of_decide_eq_true (by assumption)) (by have h_ : ((ji30) : Int) < ((x4_1.length : Int) : Int) := of_decide_eq_true (by assumption); first | exact h_ | (have e_ := (Kd.R_reads' HO_4.out).1; omega) | simpa using h_) (seg := [.int .i64 (wrap64 (((rd_T86 x4_1 (ji30)).f1) + 1))]) (j := 1) hcl35 hcc35 (show 2 ≤ 2 from by decide) (x' := (⟨(rd_T86 x4_1 (ji30)).f0, wrap64 (((rd_T86 x4_1 (ji30)).f1) + 1)⟩ : S86)) (k86_mkM _ _ _ (⟨(rd_T86 x4_1 (ji30)).f0, wrap64 (((rd_T86 x4_1 (ji30)).f1) + 1)⟩ : S86) ) (fun _ hk => hk)
          have hx35_1 := hcc35 1 _ rfl
          (try simp only [show (k86).sz = 2 from rfl, Nat.mul_one, Nat.add_zero] at hx35_1)
          have hf35_1 := hfr35 1
          (try simp only [show (k86).sz = 2 from rfl, Nat.mul_one, Nat.add_zero] at hf35_1)
          clear hcl35 hcc35 hfr35 hM35
          go_wp2_with (first | ((with_reducible refine gate_store (t := 3) (p := 50) rfl ?_); refine store_event (t := 3) (p := 50) (v := ?vo_w36) (w1 := (wc.setCell ⟨go33, ((ji30) : Int).toNat * 2 + 1, none⟩ (.int .i64 (wrap64 (((rd_T86 x4_1 (ji30)).f1) + 1))))) ?hg ?ho ?hn ?hr ?_; (case ho => rfl); (case hg => rfl); (case hn => rfl); (case hr => first | (go_simp; done) | (go_simp; rfl)); intro w36 hw; have hg : wc.grownBy w36 (some go33) := (by rw [hw]; exact HP35.2); have hp_ : Kd.R k86 86 w36 w.heap.size (fun _ => True) (.slice (some ⟨go33, 0, none⟩) x4_1.length co34) y114 := (by rw [hw, Ny114.out]; exact HP35.1); clear HP35; replace HO_4 := Aside0.mk (hp_); replace HB := Aside0.mk ((by rw [hw]; exact below_set (HB.out) GB33.out : Below w.heap.size w w36)); clear hg hw hp_))
          go_roundg kj4
          case measure => have := HK1.out; have := HJ4.out; omega
          case rel => exact ⟨(y114), (wrap64 ((rd l0 x10_1) + 1)), (wrap64 (x10_1 + 1)), (by first | rfl | (simp; done) | (simp [*]; done)), (by first | rfl | (simp; done) | (simp [*]; done)), H', ⟨by have := HK1.out; have := HJ4.out; omega⟩, ⟨by (repeat with_reducible refine Kd.R_q ?_); exact HO_4.out⟩, ⟨by repeat (first | (with_reducible first | exact HB.out | apply below_alloc | apply pw_below_drewN | apply below_drew1) | exact HB.out)⟩⟩
         rw [if_neg c32] at H
         exact absurd H (by simp)
        rw [if_neg c31] at H
        exact absurd H (by simp)
     rw [if_neg c4] at H
     exact absurd H (by simp)
    rw [if_neg c3] at H
    exact absurd H (by simp)
   rw [if_neg c2] at H
   have c2b0 : decide (x10_1 < (l0.length : Int)) = false := decide_eq_false c2
   clear c2
   by_cases c37 : (l0.length : Int) > 4096
   ·rw [if_pos c37] at H
    have c37b0 : decide (4096 < (l0.length : Int)) = true := decide_eq_true c37
    have c37b1 : decide (4096 < l0.length) = true := decide_eq_true (by omega)
    clear c37
    simp only [Option.some.injEq, Prod.mk.injEq] at H
    obtain ⟨rfl, rfl⟩ := H
    go_wp2
    go_ret2
    exact ⟨_, by first | rfl | (simp [errW_none, errW_some] <;> rfl) | (simp [*, errW_none, errW_some] <;> rfl), by first | exact Kd.R_nil _ _ _ _ _ | exact Kd.N_nil _ _ _ _ _ | exact Kd.V_nil _ _ _ _ _ | exact Kd.Q_nil _ _ _ _ _ | exact Kd.S_nil _ _ _ _ _, by repeat (first | (with_reducible first | exact HB.out | apply below_alloc | apply pw_below_drewN | apply below_drew1) | exact HB.out)⟩
   rw [if_neg c37] at H
   have c37b0 : decide (4096 < (l0.length : Int)) = false := decide_eq_false c37
   have c37b1 : decide (4096 < l0.length) = false := decide_eq_false (by omega)
   clear c37
   by_cases c38 : (x4_1.length : Int) > 1024
   ·rw [if_pos c38] at H
    have c38b0 : decide (1024 < (x4_1.length : Int)) = true := decide_eq_true c38
    have c38b1 : decide (1024 < x4_1.length) = true := decide_eq_true (by omega)
    clear c38
    simp only [Option.some.injEq, Prod.mk.injEq] at H
    obtain ⟨rfl, rfl⟩ := H
    obtain ⟨Ao39, co39, eo39⟩ := Kd.R_slice HO_4.out
    subst eo39
    go_wp2
    go_ret2
    exact ⟨_, by first | rfl | (simp [errW_none, errW_some] <;> rfl) | (simp [*, errW_none, errW_some] <;> rfl), by first | exact Kd.R_nil _ _ _ _ _ | exact Kd.N_nil _ _ _ _ _ | exact Kd.V_nil _ _ _ _ _ | exact Kd.Q_nil _ _ _ _ _ | exact Kd.S_nil _ _ _ _ _, by repeat (first | (with_reducible first | exact HB.out | apply below_alloc | apply pw_below_drewN | apply below_drew1) | exact HB.out)⟩
   rw [if_neg c38] at H
   have c38b0 : decide (1024 < (x4_1.length : Int)) = false := decide_eq_false c38
   have c38b1 : decide (1024 < x4_1.length) = false := decide_eq_false (by omega)
   clear c38
   simp only [Option.some.injEq, Prod.mk.injEq] at H
   obtain ⟨rfl, rfl⟩ := H
   obtain ⟨Ao40, co40, eo40⟩ := Kd.R_slice HO_4.out
   subst eo40
   go_wp2
   go_ret2
   exact ⟨_, by first | rfl | (simp [errW_none, errW_some] <;> rfl) | (simp [*, errW_none, errW_some] <;> rfl), by (repeat with_reducible refine Kd.R_q ?_); exact HO_4.out, by repeat (first | (with_reducible first | exact HB.out | apply below_alloc | apply pw_below_drewN | apply below_drew1) | exact HB.out)⟩
end Go.Proofs.Ytfbjjbbhnmoolaa.P
