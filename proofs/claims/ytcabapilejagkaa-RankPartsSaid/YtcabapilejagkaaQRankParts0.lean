/- RankParts: the part that this text bears of the proof that the statement answers true for every input. No condition. -/
import Derived.Test.YtcabapilejagkaaProg
import Derived.Below
import Derived.Deep.Draws
import Derived.Deep.AppendLies
import Derived.Maps.AppendAt
import Derived.OwnWalk
import Derived.Laws.BytesArg
import Derived.Laws.MakeOwn
import Derived.Laws.OwnMore
import Derived.Deep.OwnRows
import Derived.Tactics
import Derived.Lib.ConvBytes
import Derived.Laws.Slices
import Derived.WalkKit
import Derived.KernelRfl
import Derived.RowKit3
import Derived.Deep.LoopGhost
import Derived.Deep.QuietTactic
import Derived.BigQuiet
import Derived.WideLaws
import Derived.Deep.DeepCutAuto
import Derived.Deep.CutBlock
import Derived.Deep.RegionHeld3
import Derived.Laws.Rows
import Derived.Lib.AppendStr
import Derived.ArgAppend
import Derived.Laws.IdiomCopy
import Derived.OrdersHeld
import Derived.Laws.BitsLemmas
import Derived.RowKit
import Derived.Deep.Slices
import Derived.ChangeArms
import Derived.ProofKit
import Derived.JoinedOf
import Derived.Shelf.Abstract
import Derived.WalkSpells
import Derived.RangeFuncNested
import Derived.RangeFuncBound
import Derived.RangeFuncCalls
import Derived.RangeFuncLeaves
import Derived.RangeFuncBox
import Derived.OwnWalkIn
import Derived.TacticsInMore
import Derived.LoopNIn
import Derived.LoopIn
import Derived.Laws.Externs
import Derived.Shelf.Spec.BitsCarry
import Derived.RegionIn
import Derived.Sort.QuietTacIn
import Derived.Deep.RegionWith
import Derived.Laws.BitsAllLaws
import Derived.Shelf.Lays
import Derived.Shelf.Strings.Builder1
import Derived.Shelf.Small.Bits
import Derived.Shelf.Bits.Mul64
import Derived.OpenShut
import Derived.ShutString
import Derived.ChangeOld
import Derived.SizedLaws
import Derived.Test.YtcabapilejagkaaQRankPartsWWords
import Derived.Test.YtcabapilejagkaaQRankPartsWLast
import Derived.Test.YtcabapilejagkaaQRankPartsWTab
import Derived.Test.YtcabapilejagkaaQRankPartsWFour
import Derived.Test.YtcabapilejagkaaQRankPartsWQPut
import Derived.Test.YtcabapilejagkaaQRankPartsWApart
import Derived.Test.YtcabapilejagkaaQRankPartsWArr
import Derived.Test.YtcabapilejagkaaQRankPartsWZeros
import Derived.Test.YtcabapilejagkaaQRankPartsWFoot
import Derived.Test.YtcabapilejagkaaQRankPartsWKept
import Derived.Test.YtcabapilejagkaaQRankPartsWShare
import Derived.Test.YtcabapilejagkaaQRankPartsWN
import Derived.Test.YtcabapilejagkaaQRankPartsWFootNe
import Derived.Test.YtcabapilejagkaaQRankPartsWAt
import Derived.Test.YtcabapilejagkaaQRankPartsWEqStruct
import Derived.Test.YtcabapilejagkaaQRankPartsWRepsOne
import Derived.Test.YtcabapilejagkaaQRankPartsWInv
import Derived.Test.YtcabapilejagkaaQRankPartsWInvWords
import Derived.Test.YtcabapilejagkaaQRankPartsWGuard
import Derived.Test.YtcabapilejagkaaQRankPartsWNEv
import Derived.Test.YtcabapilejagkaaQRankPartsWMore
import Derived.Test.YtcabapilejagkaaRows
namespace Go.Proofs.Ytcabapilejagkaa.P
open Go.RowKit Go.Proofs.YtcabapilejagkaaW.PrintWords Go.Proofs.YtcabapilejagkaaW.PrintLast Go.Proofs.YtcabapilejagkaaW.PrintMore
attribute [local go_sem] max2_int min2_int max_two min_two max_three min_three max_four min_four
set_option linter.unusedVariables false
set_option linter.unusedSimpArgs false
def errW : Option Int → Value
 | none => .nilIface
 | some c => .iface 0 (.int .i64 c)
theorem errW_none : errW none = .nilIface := rfl
theorem errW_some (c : Int) : errW (some c) = .iface 0 (.int .i64 c) := rfl
theorem info2 : (Try.prog.info? 2).map (fun i => (i.zero, i.size, i.bytes)) = some (some (.int .i64 0), 1, 8) := by kernel_rfl
theorem info3 : (Try.prog.info? 3).map (fun i => (i.zero, i.size, i.bytes)) = some (some (.int .i64 0), 1, 8) := by kernel_rfl
theorem info30 : (Try.prog.info? 30).map (fun i => (i.zero, i.size, i.bytes)) = some (some (.agg #[(.int .i64 0), (.int .i64 0)]), 2, 16) := by kernel_rfl
theorem info108 : (Try.prog.info? 108).map (fun i => (i.zero, i.size, i.bytes)) = some (some (.agg #[(.int .i64 0), (.int .i64 0)]), 2, 16) := by kernel_rfl
structure S30 where
 f0 : Int
 f1 : Int
def z30 : S30 := ⟨(0 : Int), (0 : Int)⟩
def k30 : Kd S30 := Kd.iso (Kd.pair (Kd.int .i64) (Kd.int .i64)) (fun x : S30 => (x.f0, x.f1))
theorem k30_open {w : World} {x : S30} {cs : List Value} (h : k30.K w x cs) : cs = [.int .i64 x.f0, .int .i64 x.f1] := by
 obtain ⟨_, _, rfl, rfl, rfl⟩ := h
 exact rfl
theorem k30_openM {w : World} {base : Nat} {ok : Nat → Prop} {x : S30} {cs : List Value} (h : k30.M w base ok x cs) : cs = [.int .i64 x.f0, .int .i64 x.f1] := by
 obtain ⟨_, _, rfl, rfl, rfl⟩ := h
 exact rfl
theorem k30_mkM (w : World) (base : Nat) (ok : Nat → Prop) (x : S30)  : k30.M w base ok x [.int .i64 x.f0, .int .i64 x.f1] := ⟨[.int .i64 x.f0], [.int .i64 x.f1], rfl, rfl, rfl⟩
def rd_T30 (xs : List S30) (i : Int) : S30 := xs.getD i.toNat z30
theorem at_T30 {w : World} {A : Option Addr} {n : Nat} {xs : List S30} (h : Kd.C k30 w A n xs) (i : Int) (h0 : 0 ≤ i) (h1 : i < n) : ∃ ad , A = some ad ∧ w.cell? (ad.add (i.toNat * 2)) = some (.int .i64 (rd_T30 xs i).f0) ∧ w.cell? ⟨(ad.add (i.toNat * 2)).block, (ad.add (i.toNat * 2)).off + 1, none⟩ = some (.int .i64 (rd_T30 xs i).f1) := by
 obtain ⟨ad, c, e, _, hK, hc0⟩ := Kd.C_get h z30 i h0 h1
 have hc : ∀ j u, c[j]? = some u → w.cell? (ad.add (i.toNat * 2 + j)) = some u := hc0
 obtain rfl := k30_open hK
 exact ⟨ad, e, hc 0 _ rfl, by rw [← add_field _ _ 1 (by omega)]; exact hc 1 _ rfl⟩
structure S108 where
 f0 : Int
 f1 : Int
def z108 : S108 := ⟨(0 : Int), (0 : Int)⟩
def k108 : Kd S108 := Kd.iso (Kd.pair (Kd.int .i64) (Kd.int .i64)) (fun x : S108 => (x.f0, x.f1))
theorem k108_open {w : World} {x : S108} {cs : List Value} (h : k108.K w x cs) : cs = [.int .i64 x.f0, .int .i64 x.f1] := by
 obtain ⟨_, _, rfl, rfl, rfl⟩ := h
 exact rfl
theorem k108_mkM (w : World) (base : Nat) (ok : Nat → Prop) (x : S108)  : k108.M w base ok x [.int .i64 x.f0, .int .i64 x.f1] := ⟨[.int .i64 x.f0], [.int .i64 x.f1], rfl, rfl, rfl⟩
def rd_T108 (xs : List S108) (i : Int) : S108 := xs.getD i.toNat z108
theorem at_T108 {w : World} {A : Option Addr} {n : Nat} {xs : List S108} (h : Kd.C k108 w A n xs) (i : Int) (h0 : 0 ≤ i) (h1 : i < n) : ∃ ad , A = some ad ∧ w.cell? (ad.add (i.toNat * 2)) = some (.int .i64 (rd_T108 xs i).f0) ∧ w.cell? ⟨(ad.add (i.toNat * 2)).block, (ad.add (i.toNat * 2)).off + 1, none⟩ = some (.int .i64 (rd_T108 xs i).f1) := by
 obtain ⟨ad, c, e, _, hK, hc0⟩ := Kd.C_get h z108 i h0 h1
 have hc : ∀ j u, c[j]? = some u → w.cell? (ad.add (i.toNat * 2 + j)) = some u := hc0
 obtain rfl := k108_open hK
 exact ⟨ad, e, hc 0 _ rfl, by rw [← add_field _ _ 1 (by omega)]; exact hc 1 _ rfl⟩
structure S37 where
 f0 : Int
 f1 : Int
 f2 : Int
 f3 : Int
 f4 : Int
 f5 : (List S108)
 f6 : (List S108)
 f7 : (List Int)
 f8 : (List Int)
structure S46 where
 f0 : Int
 f1 : Int
def z46 : S46 := ⟨(0 : Int), (0 : Int)⟩
structure S144 where
 f0 : Int
 f1 : Int
def k144 : Kd S144 := Kd.iso (Kd.pair (Kd.int .i64) (Kd.int .i64)) (fun x : S144 => (x.f0, x.f1))
end Go.Proofs.Ytcabapilejagkaa.P
namespace Go.Proofs.Ytcabapilejagkaa.P
open Go.RowKit Go.Proofs.YtcabapilejagkaaW.PrintWords Go.Proofs.YtcabapilejagkaaW.PrintLast Go.Proofs.YtcabapilejagkaaW.PrintMore
attribute [local go_sem] max2_int min2_int max_two min_two max_three min_three max_four min_four
set_option linter.unusedVariables false
set_option linter.unusedSimpArgs false
def inI (k : IntKind) (n : Int) : Prop := (Lit.int k n).wf = true
theorem inI_u64 {n : Int} (h : inI .u64 n) : 0 ≤ n ∧ n ≤ 18446744073709551615 := by
 have h2 : (Lit.int .u64 n).wf = true := h
 have e : IntKind.u64.min = 0 := by decide
 simp [Lit.wf, e] at h2
 exact h2
def Opens {α : Type} (P : Program) (t : TypeId) (d : Kd α) (wf : α → Prop) : Prop := ∀ {H : Type} (enc : TypeId × Value → H) (w : World) (base : Nat) (sp : Nat → Bool) (held : Bool) (fuel : Nat) (cs : List Value) (x : DataW H × List MemPlace),
 DataW.trod enc P w base sp held fuel t cs = some x → ∃ y, d.K w y cs ∧ wf y
theorem opens_int {P : Program} {t : TypeId} {k : IntKind} (ht : P.underlying t = some (.int k)) : Opens P t (Kd.int k) (inI k) := by
 intro H enc w base sp held fuel cs x h
 obtain ⟨n, rfl, _, hw⟩ := DataW.trod_int ht h
 exact ⟨n, rfl, hw⟩
end Go.Proofs.Ytcabapilejagkaa.P
namespace Go.Proofs.Ytcabapilejagkaa.P
def headSigns : List Char := List.map Char.ofNat [104, 97, 114, 110, 101, 115, 115, 32, 100, 51, 52, 53, 56, 100, 57, 102, 56, 57, 97, 99, 100, 102, 101, 100, 99, 48, 51, 57, 55, 51, 48, 97, 56, 53, 48, 57, 50, 54, 99, 52, 51, 52, 102, 100, 99, 55, 50, 57, 54, 57, 51, 97, 53, 48, 50, 52, 51, 102, 51, 98, 51, 53, 98, 51, 50, 102, 57, 50, 101, 50, 101, 100, 32, 99, 117, 116, 32, 97, 116, 32, 116, 105, 100, 101, 112, 111, 108, 101, 47, 116, 105, 100, 101, 112, 111, 108, 101, 108, 97, 119, 48, 55, 46, 80, 97, 105, 114, 115, 77, 101, 114, 103, 101, 32, 116, 105, 100, 101, 112, 111, 108, 101, 47, 116, 105, 100, 101, 112, 111, 108, 101, 108, 97, 119, 49, 49, 46, 82, 101, 115, 101, 116, 66, 111, 116, 104, 32, 116, 105, 100, 101, 112, 111, 108, 101, 47, 116, 105, 100, 101, 112, 111, 108, 101, 108, 97, 119, 48, 57, 46, 72, 105, 115, 116, 87, 97, 108, 107, 115, 32, 116, 105, 100, 101, 112, 111, 108, 101, 47, 116, 105, 100, 101, 112, 111, 108, 101, 108, 97, 119, 50, 57, 46, 82, 97, 110, 107, 65, 116, 32, 116, 105, 100, 101, 112, 111, 108, 101, 47, 116, 105, 100, 101, 112, 111, 108, 101, 108, 97, 119, 50, 57, 46, 82, 97, 110, 107, 66, 101, 108, 111, 119, 32, 116, 105, 100, 101, 112, 111, 108, 101, 47, 116, 105, 100, 101, 112, 111, 108, 101, 108, 97, 119, 50, 57, 46, 82, 97, 110, 107, 70, 105, 114, 115, 116, 32, 116, 105, 100, 101, 112, 111, 108, 101, 47, 116, 105, 100, 101, 112, 111, 108, 101, 108, 97, 119, 50, 57, 46, 82, 97, 110, 107, 82, 105, 115, 101, 115, 32, 116, 105, 100, 101, 112, 111, 108, 101, 47, 116, 105, 100, 101, 112, 111, 108, 101, 108, 97, 119, 50, 57, 46, 82, 97, 110, 107, 80, 97, 114, 116, 115, 32, 116, 105, 100, 101, 112, 111, 108, 101, 47, 116, 105, 100, 101, 112, 111, 108, 101, 108, 97, 119, 50, 57, 46, 82, 97, 110, 107, 81, 117, 97, 110, 116, 105, 108, 101, 115, 32, 116, 105, 100, 101, 112, 111, 108, 101, 47, 116, 105, 100, 101, 112, 111, 108, 101, 108, 97, 119, 49, 48, 46, 70, 104, 105, 115, 116, 70, 108, 111, 97, 116, 115, 32, 116, 105, 100, 101, 112, 111, 108, 101, 47, 116, 105, 100, 101, 112, 111, 108, 101, 108, 97, 119, 49, 48, 46, 70, 104, 105, 115, 116, 66, 97, 99, 107, 32, 116, 105, 100, 101, 112, 111, 108, 101, 47, 116, 105, 100, 101, 112, 111, 108, 101, 108, 97, 119, 49, 48, 46, 70, 104, 105, 115, 116, 70, 114, 111, 109]
theorem head_is : Try.prog.initOrder = String.ofList headSigns := by kernel_rfl
theorem head_signs : Try.prog.initOrder.toList = headSigns := by rw [head_is]; exact String.toList_ofList
theorem head_first : (behindMainWord (wordsSigns headSigns)).head? = some "cut".toList := by kernel_rfl
theorem head_words : ∃ r, behindMainWord (wordsSigns headSigns) = "cut".toList :: r := by have h := head_first; cases h2 : behindMainWord (wordsSigns headSigns) with | nil => rw [h2] at h; cases h | cons c r => rw [h2] at h; injection h with h; exact ⟨r, by rw [h]⟩
theorem strip_cut (r : List (List Char)) : stripLifts liftWords ("cut".toList :: r) = ([], "cut".toList :: r) := by kernel_rfl
theorem head_lifts : Try.prog.headLifts = [] := by obtain ⟨r, hr⟩ := head_words; unfold Program.headLifts; rw [head_signs, hr, strip_cut]; kernel_rfl
theorem head_doorFits : Try.prog.doorFits [] = true := by kernel_rfl
theorem head_laysLater : Try.prog.laysLater = false := by kernel_rfl
theorem head_bearsReflect : Try.prog.bearsReflect = false := by kernel_rfl
theorem mayEnter_of {P : Program} {L : List Char} {r : List (List Char)} (h1 : P.initOrder.toList = L) (h2 : behindMainWord (wordsSigns L) = "cut".toList :: r) (h3 : P.doorFits [] = true) (h4 : P.laysLater = false) (h5 : P.bearsReflect = false) : P.mayEnter = true := by unfold Program.mayEnter; rw [h1, h2]; simp only [strip_cut, h3, h4, h5]; kernel_rfl
theorem head_mayEnter : Try.prog.mayEnter = true := by obtain ⟨r, hr⟩ := head_words; exact mayEnter_of head_signs hr head_doorFits head_laysLater head_bearsReflect
theorem head_liftsFinal : Try.prog.liftsFinal = false := by obtain ⟨r, hr⟩ := head_words; unfold Program.liftsFinal; rw [head_signs, head_lifts, hr]; kernel_rfl
theorem make_of {P : Program} {L : List Char} {r : List (List Char)} (h1 : P.initOrder.toList = L) (h2 : behindMainWord (wordsSigns L) = "cut".toList :: r) : P.make = some .cut := by unfold Program.make; rw [h1, h2]; kernel_rfl
theorem head_make : Try.prog.make = some .cut := by obtain ⟨r, hr⟩ := head_words; exact make_of head_signs hr
theorem head_laidOut : laidOutB Try.prog = true := by kernel_rfl
theorem head_mapsRowed : mapsRowed Try.prog = true := by kernel_rfl
theorem head_stops : (Try.prog.stops == []) = true := by kernel_rfl
theorem head_stopKnobs : (Try.prog.stopKnobs == []) = true := by kernel_rfl
theorem head_plainKeys : Try.prog.plainKeys = true := by kernel_rfl
theorem head_stopsHeard : Try.prog.stopsHeard = true := by kernel_rfl
end Go.Proofs.Ytcabapilejagkaa.P
namespace Go.Proofs.Ytcabapilejagkaa.P
open Go.RowKit Go.Shelf Go.Proofs.YtcabapilejagkaaW.PrintWords Go.Proofs.YtcabapilejagkaaW.PrintLast Go.Proofs.YtcabapilejagkaaW.PrintMore
set_option linter.unusedVariables false
set_option linter.unusedSimpArgs false
def idxP {α : Type} (p : α → Bool) (l : List α) : Int := match l.findIdx? p with
  | some i => (i : Int)
  | none => -1
theorem idxP_hit {α : Type} (p : α → Bool) (l : List α) (i : Nat) (h : i < l.length) (hp : p l[i] = true) (hb : ∀ j (hj : j < i), p (l[j]'(Nat.lt_trans hj h)) = false) : idxP p l = i := by
  have : l.findIdx? p = some i := by
    rw [List.findIdx?_eq_some_iff_getElem]
    exact ⟨h, hp, fun j hj => by simp [hb j hj]⟩
  unfold idxP; rw [this]
theorem idxP_miss {α : Type} (p : α → Bool) (l : List α) (hb : ∀ j (hj : j < l.length), p l[j] = false) : idxP p l = -1 := by
  have : l.findIdx? p = none := by
    rw [List.findIdx?_eq_none_iff]
    intro x hx
    obtain ⟨j, hj, rfl⟩ := List.getElem_of_mem hx
    exact hb j hj
  unfold idxP; rw [this]
theorem of_ite_some {α : Type} {c : Prop} [Decidable c] {a r : α} (h : (if c then some a else none) = some r) : c ∧ a = r := by
  by_cases hc : c
  · rw [if_pos hc] at h; exact ⟨hc, Option.some.inj h⟩
  · rw [if_neg hc] at h; cases h
theorem find_idx {α : Type} (p : α → Bool) (l : List α) : (idxP p l = -1 ∧ l.find? p = none) ∨ (∃ i : Nat, ∃ h : i < l.length, idxP p l = (i : Int) ∧ l.find? p = some l[i]) := by
  unfold idxP
  cases h : l.findIdx? p with
  | none => exact .inl ⟨rfl, by rw [List.find?_eq_none]; rw [List.findIdx?_eq_none_iff] at h; intro x hx; simp [h x hx]⟩
  | some i =>
    rw [List.findIdx?_eq_some_iff_getElem] at h
    obtain ⟨hi, hp, hb⟩ := h
    exact .inr ⟨i, hi, rfl, by rw [List.find?_eq_some_iff_getElem]; exact ⟨hp, i, hi, rfl, fun j hj => by simpa using hb j hj⟩⟩
structure DelInv {α : Type} (p : α → Bool) (xs : List α) (i j : Nat) (ys : List α) : Prop where
  len : ys.length = xs.length
  lt : i < j
  le : j ≤ xs.length
  low : ys.take i = (xs.take j).filter (fun x => !p x)
  high : ys.drop j = xs.drop j
theorem DelInv.at_ {α : Type} {p : α → Bool} {xs ys : List α} {i j : Nat} (h : DelInv p xs i j ys) (hj : j < xs.length) : ∃ h2 : j < ys.length, ys[j] = xs[j] := by
  have h2 : j < ys.length := by rw [h.len]; exact hj
  refine ⟨h2, ?_⟩
  have := congrArg (fun l => l[0]?) h.high
  simp only [List.getElem?_drop, Nat.add_zero, List.getElem?_eq_getElem h2, List.getElem?_eq_getElem hj] at this
  exact Option.some.inj this
theorem DelInv.skip {α : Type} {p : α → Bool} {xs ys : List α} {i j : Nat} (h : DelInv p xs i j ys) (hj : j < xs.length) (hp : p xs[j] = true) : DelInv p xs i (j + 1) ys := by
  refine ⟨h.len, by have := h.lt; omega, hj, ?_, ?_⟩
  · rw [h.low, List.take_succ_eq_append_getElem hj, List.filter_append]; simp [hp]
  · have := congrArg (List.drop 1) h.high
    rwa [List.drop_drop, List.drop_drop] at this
theorem DelInv.keep {α : Type} {p : α → Bool} {xs ys : List α} {i j : Nat} (h : DelInv p xs i j ys) (hj : j < xs.length) (hp : p xs[j] = false) : DelInv p xs (i + 1) (j + 1) (ys.set i xs[j]) := by
  have hlt := h.lt
  have hi : i < ys.length := by rw [h.len]; omega
  refine ⟨by rw [List.length_set]; exact h.len, by omega, hj, ?_, ?_⟩
  · rw [List.take_succ_eq_append_getElem (by rw [List.length_set]; exact hi), List.getElem_set_self, List.take_set_of_le (by omega), h.low, List.take_succ_eq_append_getElem hj, List.filter_append]; simp [hp]
  · rw [List.drop_set_of_lt (by omega)]
    have := congrArg (List.drop 1) h.high
    rwa [List.drop_drop, List.drop_drop] at this
end Go.Proofs.Ytcabapilejagkaa.P
namespace Go.Proofs.Ytcabapilejagkaa.P
open Go.RowKit Go.Shelf Go.Proofs.YtcabapilejagkaaW.PrintWords Go.Proofs.YtcabapilejagkaaW.PrintLast Go.Proofs.YtcabapilejagkaaW.PrintMore
set_option linter.unusedVariables false
set_option linter.unusedSimpArgs false
def slices_Clone_span.f (l0 : List S108) : Option (List S108) := if l0.length < 8796093022208 then some l0 else none
set_option maxHeartbeats 2000000 in
set_option maxRecDepth 100000 in
theorem slices_Clone_span.calls (A0 : Option Addr) (c0 : Nat) (l0 r : List S108) (w : World) (hr0 : Kd.C k108 w A0 l0.length l0) (hc0 : l0.length ≤ c0) (h : slices_Clone_span.f l0 = some r) :
    Calls Try.prog 73 #[.slice A0 l0.length c0] w fun e w' => ∃ v0_ : Value, e = .returned (v0_) ∧ Kd.R k108 108 w' w.heap.size (fun _ => True) v0_ r ∧ Below w.heap.size w w' := by
  obtain ⟨hm, h2⟩ := of_ite_some h
  subst h2
  clear h
  have hu := Try.underlying34
  have HM := Aside0.mk hm
  clear hm
  cases A0 with
  | none =>
    have hl : l0 = [] := by
      rcases Nat.eq_zero_or_pos l0.length with h | h
      · exact List.length_eq_zero_iff.1 h
      · obtain ⟨ad, e, _⟩ := hr0.2.2 h
        cases e
    subst hl
    have hn : ∀ W n c, (binOp .eql 34 (.slice none n c) (.slice none 0 0)).run Try.prog W = .ok (.bool true) W := fun W n c => by
      exact Lib.run_eql_slice_nil W _ _ none n c 0 0 Try.underlying34
    go_enter Try.func73, Try.ntmps73
    go_wp2
    go_ret
    exact ⟨_, rfl, Kd.R_nil _ _ _ _ _, Below.refl _ _⟩
  | some ad =>
    have hn : ∀ W n c, (binOp .eql 34 (.slice (some ad) n c) (.slice none 0 0)).run Try.prog W = .ok (.bool false) W := fun W n c => by
      exact Lib.run_eql_slice_nil W _ _ (some ad) n c 0 0 Try.underlying34
    have HR := Aside0.mk hr0
    clear hr0
    go_enter Try.func73, Try.ntmps73
    go_wp2_with ((with_reducible refine gate_builtin (b := .append) (xs := #[.tmp 5, .tmp 6]) rfl ?_); at_builtin; refine Kd.R_append_rows k108 (w0 := w) (Rr := k108.K w) w.heap.size rfl (.tmp 5) (.tmp 6) 34 108 _ 16 rfl Try.underlying34 info108 rfl (by decide) (by omega) (.slice (some ⟨w.heap.size, 0, none⟩) 0 0) [] l0 (some ad) l0.length c0 (fun _ => True) (fun _ => False) rfl rfl ?aO ?aR ?aK (fun _ hk => hk.elim) (fun _ _ => trivial) ?aB ?aS ?aL ?_; (case aO => exact ⟨fun _ _ => trivial, [], ⟨rfl, .inr ⟨w.heap.size, 0, #[], rfl, Nat.le_refl _, by simpa using blk_new w _, Nat.le_refl _, by unfold maxLen; omega, rfl, rfl⟩⟩, Reps.none _ _⟩); (case aR => exact HR.out.imp_ (below_alloc (Below.refl _ _) _) (fun _ _ h => h)); (case aK => intro x cs hx; rw [k108_open hx]; exact k108_mkM _ _ _ x); (case aB => exact below_alloc (Below.refl _ _) _); (case aS => simp); (case aL => have := HM.out; simp; omega); intro v1 w1 ho hb hg hat; rw [List.nil_append] at ho; have HO := Aside0.mk ho; have HB := Aside0.mk hb; clear ho hb hg hat)
    go_ret
    exact ⟨_, rfl, HO.out, HB.out⟩
end Go.Proofs.Ytcabapilejagkaa.P
namespace Go.Proofs.Ytcabapilejagkaa.P
open Go.RowKit Go.Proofs.YtcabapilejagkaaW.PrintWords Go.Proofs.YtcabapilejagkaaW.PrintLast Go.Proofs.YtcabapilejagkaaW.PrintMore
attribute [local go_sem] max2_int min2_int max_two min_two max_three min_three max_four min_four
set_option linter.unusedVariables false
set_option linter.unusedSimpArgs false
def span_in.f (a0 : Int) : Option (Bool) := if a0 ≥ (-1048576) then (some (decide (a0 ≤ 1048576))) else (some false)
set_option maxHeartbeats 8000000 in
set_option maxRecDepth 100000 in
theorem span_in.calls (a0 : Int) (r : Bool) (w : World) (h : span_in.f a0 = some r) :
  Calls Try.prog 149 #[.int .i64 a0] w fun e w' => e = .returned (.bool r) ∧ Drawn0 w w' := by
 have H : (if a0 ≥ (-1048576) then (some (decide (a0 ≤ 1048576))) else (some false)) = some r := h
 clear h
 by_cases c2 : a0 ≥ (-1048576)
 ·rw [if_pos c2] at H
  have c2b0 : decide ((-1048576) ≤ a0) = true := decide_eq_true c2
  clear c2
  obtain rfl := Option.some.inj H
  go_enter Try.func149, Try.ntmps149
  go_wp2
  go_ret
  exact ⟨by first | rfl | (simp; done) | (simp [*]; done), by repeat (first | exact Drawn0.refl _ | apply Drawn0.step)⟩
 ·rw [if_neg c2] at H
  have c2b0 : decide ((-1048576) ≤ a0) = false := decide_eq_false c2
  clear c2
  obtain rfl := Option.some.inj H
  go_enter Try.func149, Try.ntmps149
  go_wp2
  go_ret
  exact ⟨by first | rfl | (simp; done) | (simp [*]; done), by repeat (first | exact Drawn0.refl _ | apply Drawn0.step)⟩
mutual
def span_right.l0 : Nat → Int → Int → List (S108) → Int → Int → Option (Bool)
 | 0, _, _, _, _, _ => none
 | k + 1, x3, x4, x7, x8, x9 => if x9 < x8 then (if 0 ≤ x9 then (if x9 < (x7.length : Int) then (if ((rd_T108 x7 x9).f0) > 2097152 then (span_right.j1 k x3 x4 x7 x8 x9 true ((rd_T108 x7 x9).f0) ((rd_T108 x7 x9).f1)) else (if ((rd_T108 x7 x9).f1) < 0 then (span_right.j1 k x3 x4 x7 x8 x9 true ((rd_T108 x7 x9).f0) ((rd_T108 x7 x9).f1)) else (if ((rd_T108 x7 x9).f1) > 4096 then (span_right.j1 k x3 x4 x7 x8 x9 true ((rd_T108 x7 x9).f0) ((rd_T108 x7 x9).f1)) else (if ((rd_T108 x7 x9).f0) < 0 then (if x9 > 0 then (span_right.j1 k x3 x4 x7 x8 x9 true ((rd_T108 x7 x9).f0) ((rd_T108 x7 x9).f1)) else ((span_in.f ((rd_T108 x7 x9).f0)).bind fun t103 => (span_right.j1 k x3 x4 x7 x8 x9 (!t103) ((rd_T108 x7 x9).f0) ((rd_T108 x7 x9).f1)))) else (span_right.j1 k x3 x4 x7 x8 x9 false ((rd_T108 x7 x9).f0) ((rd_T108 x7 x9).f1)))))) else (none)) else (none)) else (some true)
def span_right.j1 : Nat → Int → Int → List (S108) → Int → Int → Bool → Int → Int → Option (Bool)
 | 0, _, _, _, _, _, _, _, _ => none
 | k + 1, x3, x4, x7, x8, x9, x41, x103000, x103001 => if x41 = true then (some false) else ((span_in.f (wrap64 (x3 + x103000))).bind fun t104 => (if t104 = true then ((span_in.f (wrap64 ((wrap64 (x3 + x103000)) + (mx (wrap64 (x103001 - 1)) 0)))).bind fun t105 => (if t105 = true then (if (wrap64 (x4 + x103001)) > 4096 then (some false) else (span_right.l0 k (wrap64 ((wrap64 (x3 + x103000)) + x103001)) (wrap64 (x4 + x103001)) x7 x8 (wrap64 (x9 + 1)))) else (some false))) else (some false)))
end
def span_right.f (k : Nat) (l0 : List (S108)) : Option (Bool) := span_right.l0 k 0 0 l0 (l0.length : Int) 0
set_option maxHeartbeats 8000000 in
set_option maxRecDepth 100000 in
theorem span_right.calls (k : Nat) (A0 : Option Addr) (c0 : Nat) (l0 : List (S108)) (r : Bool) (w : World) (hr0 : Kd.C k108 w A0 l0.length l0) (hc0 : l0.length ≤ c0) (h : span_right.f k l0 = some r) :
  Calls Try.prog 153 #[.slice A0 l0.length c0] w fun e w' => e = .returned (.bool r) ∧ Below w.heap.size w w' := by
 have hu108 := Try.underlying108
 have HR0 := Aside0.mk hr0
 have HC0 := Aside0.mk hc0
 clear hr0 hc0
 have HB := Aside0.mk (Below.refl w.heap.size w)
 have H : (span_right.l0 k 0 0 l0 (l0.length : Int) 0) = some r := h
 clear h
 have H' := Aside0.mk H
 clear H
 go_enter Try.func153, Try.ntmps153
 go_wp2
 go_loopg [3, 4, 9] k (fun kq v3 v4 v9 w' => ∃ (x3_1 : Int) (x4_1 : Int) (x9_1 : Int), v3 = .int .i64 x3_1 ∧ v4 = .int .i64 x4_1 ∧ v9 = .int .i64 x9_1 ∧ Aside0 (span_right.l0 kq x3_1 x4_1 l0 (l0.length : Int) x9_1 = some r) ∧ Aside0 (kq ≤ k) ∧ Aside0 (Below w.heap.size w w'))
 case atStart => exact ⟨(0), (0), (0), (by first | rfl | (simp; done) | (simp [*]; done)), (by first | rfl | (simp; done) | (simp [*]; done)), (by first | rfl | (simp; done) | (simp [*]; done)), H', ⟨Nat.le_refl _⟩, ⟨by repeat (first | (with_reducible first | exact HB.out | apply below_alloc | apply pw_below_drewN | apply below_drew1) | exact HB.out)⟩⟩
 case round =>
  clear H'
  try clear c1
  obtain ⟨x3_1, x4_1, x9_1, rfl, rfl, rfl, HA, HK1, HB⟩ := hrel
  cases gk with
  | zero => exact absurd HA.out (by simp [span_right.l0])
  | succ k1 =>
   have H := HA.out
   clear HA
   simp only [span_right.l0] at H
   by_cases c2 : x9_1 < (l0.length : Int)
   ·rw [if_pos c2] at H
    have c2b0 : decide (x9_1 < (l0.length : Int)) = true := decide_eq_true c2
    clear c2
    by_cases c3 : 0 ≤ x9_1
    ·rw [if_pos c3] at H
     have c3b0 : decide (0 ≤ x9_1) = true := decide_eq_true c3
     clear c3
     by_cases c4 : x9_1 < (l0.length : Int)
     ·rw [if_pos c4] at H
      have c4b0 : decide (x9_1 < (l0.length : Int)) = true := decide_eq_true c4
      clear c4
      have HC5 := Aside0.mk H
      clear H
      have p101 : 0 ≤ (x9_1 : Int) := of_decide_eq_true (by first | (with_reducible assumption) | assumption)
      have q101 : x9_1 < (l0.length : Int) := of_decide_eq_true (by first | (with_reducible assumption) | assumption)
      obtain ⟨ad101, e101, hx101_0, hx101_1⟩ := at_T108 HR0.out x9_1 p101 q101
      cases e101
      replace hx101_0 := (HB.out.cell (World.block_lt_of_cell? w _ hx101_0)).trans hx101_0
      replace hx101_1 := (HB.out.cell (World.block_lt_of_cell? w _ hx101_1)).trans hx101_1
      replace p101 := eq_true p101
      replace q101 := eq_true q101
      go_upto_region 5 with (first | ((with_reducible refine gate_dst (N := 6) rfl ?_); (try (refine gate_guard (by rfl) ?_; dsimp only)); refine box_event ?hg (N := 6) ?hd (cs := #[.int .i64 0, .int .i64 0]) (t := 108) ?hr ?_; (case hd => rfl); (case hg => rfl); (case hr => first | (go_simp; done) | (go_simp; rfl)); intro gb102 hg w6 hbox hb; have n0_ := Aside0.mk (below_step (by repeat (first | (with_reducible first | exact HB.out | apply below_alloc | apply pw_below_drewN | apply below_drew1) | exact HB.out)) hb); have n1_ := Aside0.mk (hbox); have n2_ := Aside0.mk ((by rw [hg]; exact (below_size (by repeat (first | (with_reducible first | exact HB.out | apply below_alloc | apply pw_below_drewN | apply below_drew1) | exact HB.out))) : w.heap.size ≤ gb102)); have n3_ := Aside0.mk ((by rw [hg]; exact (below_size (by repeat (first | (with_reducible first | exact HB.out | apply below_alloc | apply pw_below_drewN | apply below_drew1) | exact HB.out))) : w.heap.size ≤ gb102)); clear HB; have HB := n0_; have BK102 := n1_; have GW102 := n2_; have GE102 := n3_; clear n0_ n1_ n2_ n3_; clear hb hbox hg; have hcz7_0 : w6.cell? ⟨gb102, 0, none⟩ = some (.int .i64 0) := (blk_cell BK102.out 0).trans rfl; have hcz7_1 : w6.cell? ⟨gb102, 1, none⟩ = some (.int .i64 0) := (blk_cell BK102.out 1).trans rfl; have hfz7_0 := blk_frozen BK102.out 0; have hfz7_1 := blk_frozen BK102.out 1))
      (try simp only [Act.put, List.setIfInBounds_toArray, List.set_cons_zero, List.set_cons_succ])
      go_cut [41] (fun v41 wc => ∃ (kq : Nat) (x41_4 : Bool), v41 = .bool x41_4 ∧ Aside0 (span_right.j1 kq x3_1 x4_1 l0 (l0.length : Int) x9_1 x41_4 ((rd_T108 l0 x9_1).f0) ((rd_T108 l0 x9_1).f1) = some r) ∧ Aside0 (kq ≤ k1) ∧ Aside0 (wc.heap[gb102]? = some (.cells #[.int .i64 ((rd_T108 l0 x9_1).f0), .int .i64 ((rd_T108 l0 x9_1).f1)] 108 (0, 0))) ∧ Aside0 (Below w.heap.size w wc))
      case first =>
       have H := HC5.out
       clear HC5
       by_cases c8 : ((rd_T108 l0 x9_1).f0) > 2097152
       ·rw [if_pos c8] at H
        have c8b0 : decide (2097152 < ((rd_T108 l0 x9_1).f0)) = true := decide_eq_true c8
        clear c8
        (first | rw [c8b0] | (simp only [i64_w, i32_w]; rw [c8b0]) | skip)
        have H' := Aside0.mk H
        clear H
        have hcz9_0 : w6.cell? ⟨gb102, 0, none⟩ = some (.int .i64 0) := (blk_cell BK102.out 0).trans rfl
        have hcz9_1 : w6.cell? ⟨gb102, 1, none⟩ = some (.int .i64 0) := (blk_cell BK102.out 1).trans rfl
        have hfz9_0 := blk_frozen BK102.out 0
        have hfz9_1 := blk_frozen BK102.out 1
        go_wp2
        go_meet
        case rel => exact ⟨_, (true), (by first | rfl | (simp; done) | (simp [*]; done)), H', ⟨by have := HK1.out; first | omega | exact Nat.le_refl _⟩, ⟨by (with_reducible repeat (first | refine blk_drewN ?_ _ | refine blk_drew ?_ | refine blk_alloc ?_ _)); refine blk_put (cs := #[.int .i64 ((rd_T108 l0 x9_1).f0), .int .i64 0]) ?_ 1 _ rfl; (with_reducible repeat (first | refine blk_drewN ?_ _ | refine blk_drew ?_ | refine blk_alloc ?_ _)); refine blk_put (cs := #[.int .i64 0, .int .i64 0]) ?_ 0 _ rfl; (with_reducible repeat (first | refine blk_drewN ?_ _ | refine blk_drew ?_ | refine blk_alloc ?_ _)); exact BK102.out⟩, ⟨by repeat (first | (with_reducible first | exact HB.out | apply below_alloc | apply pw_below_drewN | apply below_drew1 | refine below_set ?_ GE102.out) | exact HB.out)⟩⟩
       ·rw [if_neg c8] at H
        have c8b0 : decide (2097152 < ((rd_T108 l0 x9_1).f0)) = false := decide_eq_false c8
        clear c8
        (first | rw [c8b0] | (simp only [i64_w, i32_w]; rw [c8b0]) | skip)
        by_cases c10 : ((rd_T108 l0 x9_1).f1) < 0
        ·rw [if_pos c10] at H
         have c10b0 : decide (((rd_T108 l0 x9_1).f1) < 0) = true := decide_eq_true c10
         clear c10
         have H' := Aside0.mk H
         clear H
         have hcz11_0 : w6.cell? ⟨gb102, 0, none⟩ = some (.int .i64 0) := (blk_cell BK102.out 0).trans rfl
         have hcz11_1 : w6.cell? ⟨gb102, 1, none⟩ = some (.int .i64 0) := (blk_cell BK102.out 1).trans rfl
         have hfz11_0 := blk_frozen BK102.out 0
         have hfz11_1 := blk_frozen BK102.out 1
         go_wp2
         go_meet
         case rel => exact ⟨_, (true), (by first | rfl | (simp; done) | (simp [*]; done)), H', ⟨by have := HK1.out; first | omega | exact Nat.le_refl _⟩, ⟨by (with_reducible repeat (first | refine blk_drewN ?_ _ | refine blk_drew ?_ | refine blk_alloc ?_ _)); refine blk_put (cs := #[.int .i64 ((rd_T108 l0 x9_1).f0), .int .i64 0]) ?_ 1 _ rfl; (with_reducible repeat (first | refine blk_drewN ?_ _ | refine blk_drew ?_ | refine blk_alloc ?_ _)); refine blk_put (cs := #[.int .i64 0, .int .i64 0]) ?_ 0 _ rfl; (with_reducible repeat (first | refine blk_drewN ?_ _ | refine blk_drew ?_ | refine blk_alloc ?_ _)); exact BK102.out⟩, ⟨by repeat (first | (with_reducible first | exact HB.out | apply below_alloc | apply pw_below_drewN | apply below_drew1 | refine below_set ?_ GE102.out) | exact HB.out)⟩⟩
        ·rw [if_neg c10] at H
         have c10b0 : decide (((rd_T108 l0 x9_1).f1) < 0) = false := decide_eq_false c10
         clear c10
         by_cases c12 : ((rd_T108 l0 x9_1).f1) > 4096
         ·rw [if_pos c12] at H
          have c12b0 : decide (4096 < ((rd_T108 l0 x9_1).f1)) = true := decide_eq_true c12
          clear c12
          have H' := Aside0.mk H
          clear H
          have hcz13_0 : w6.cell? ⟨gb102, 0, none⟩ = some (.int .i64 0) := (blk_cell BK102.out 0).trans rfl
          have hcz13_1 : w6.cell? ⟨gb102, 1, none⟩ = some (.int .i64 0) := (blk_cell BK102.out 1).trans rfl
          have hfz13_0 := blk_frozen BK102.out 0
          have hfz13_1 := blk_frozen BK102.out 1
          go_wp2
          go_meet
          case rel => exact ⟨_, (true), (by first | rfl | (simp; done) | (simp [*]; done)), H', ⟨by have := HK1.out; first | omega | exact Nat.le_refl _⟩, ⟨by (with_reducible repeat (first | refine blk_drewN ?_ _ | refine blk_drew ?_ | refine blk_alloc ?_ _)); refine blk_put (cs := #[.int .i64 ((rd_T108 l0 x9_1).f0), .int .i64 0]) ?_ 1 _ rfl; (with_reducible repeat (first | refine blk_drewN ?_ _ | refine blk_drew ?_ | refine blk_alloc ?_ _)); refine blk_put (cs := #[.int .i64 0, .int .i64 0]) ?_ 0 _ rfl; (with_reducible repeat (first | refine blk_drewN ?_ _ | refine blk_drew ?_ | refine blk_alloc ?_ _)); exact BK102.out⟩, ⟨by repeat (first | (with_reducible first | exact HB.out | apply below_alloc | apply pw_below_drewN | apply below_drew1 | refine below_set ?_ GE102.out) | exact HB.out)⟩⟩
         ·rw [if_neg c12] at H
          have c12b0 : decide (4096 < ((rd_T108 l0 x9_1).f1)) = false := decide_eq_false c12
          clear c12
          by_cases c14 : ((rd_T108 l0 x9_1).f0) < 0
          ·rw [if_pos c14] at H
           have c14b0 : decide (((rd_T108 l0 x9_1).f0) < 0) = true := decide_eq_true c14
           clear c14
           by_cases c15 : x9_1 > 0
           ·rw [if_pos c15] at H
            have c15b0 : decide (0 < x9_1) = true := decide_eq_true c15
            clear c15
            have H' := Aside0.mk H
            clear H
            have hcz16_0 : w6.cell? ⟨gb102, 0, none⟩ = some (.int .i64 0) := (blk_cell BK102.out 0).trans rfl
            have hcz16_1 : w6.cell? ⟨gb102, 1, none⟩ = some (.int .i64 0) := (blk_cell BK102.out 1).trans rfl
            have hfz16_0 := blk_frozen BK102.out 0
            have hfz16_1 := blk_frozen BK102.out 1
            go_wp2
            go_meet
            case rel => exact ⟨_, (true), (by first | rfl | (simp; done) | (simp [*]; done)), H', ⟨by have := HK1.out; first | omega | exact Nat.le_refl _⟩, ⟨by (with_reducible repeat (first | refine blk_drewN ?_ _ | refine blk_drew ?_ | refine blk_alloc ?_ _)); refine blk_put (cs := #[.int .i64 ((rd_T108 l0 x9_1).f0), .int .i64 0]) ?_ 1 _ rfl; (with_reducible repeat (first | refine blk_drewN ?_ _ | refine blk_drew ?_ | refine blk_alloc ?_ _)); refine blk_put (cs := #[.int .i64 0, .int .i64 0]) ?_ 0 _ rfl; (with_reducible repeat (first | refine blk_drewN ?_ _ | refine blk_drew ?_ | refine blk_alloc ?_ _)); exact BK102.out⟩, ⟨by repeat (first | (with_reducible first | exact HB.out | apply below_alloc | apply pw_below_drewN | apply below_drew1 | refine below_set ?_ GE102.out) | exact HB.out)⟩⟩
           ·rw [if_neg c15] at H
            have c15b0 : decide (0 < x9_1) = false := decide_eq_false c15
            clear c15
            replace H := Option.bind_eq_some_iff.mp H
            obtain ⟨t103, A170, H⟩ := H
            replace H : (span_right.j1 k1 x3_1 x4_1 l0 (l0.length : Int) x9_1 (!t103) ((rd_T108 l0 x9_1).f0) ((rd_T108 l0 x9_1).f1)) = some r := H
            have A17 := Aside0.mk A170
            clear A170
            have H' := Aside0.mk H
            clear H
            have hcz18_0 : w6.cell? ⟨gb102, 0, none⟩ = some (.int .i64 0) := (blk_cell BK102.out 0).trans rfl
            have hcz18_1 : w6.cell? ⟨gb102, 1, none⟩ = some (.int .i64 0) := (blk_cell BK102.out 1).trans rfl
            have hfz18_0 := blk_frozen BK102.out 0
            have hfz18_1 := blk_frozen BK102.out 1
            go_wp2_with (first | (go_at_call 149; (with_reducible refine (span_in.calls ((rd_T108 l0 x9_1).f0) t103 _ A17.out).mono ?_); rintro e w' ⟨rfl, ⟨nd, rfl⟩⟩; clear A17))
            go_meet
            case rel => exact ⟨_, (!t103), (by first | rfl | (simp; done) | (simp [*]; done)), H', ⟨by have := HK1.out; first | omega | exact Nat.le_refl _⟩, ⟨by (with_reducible repeat (first | refine blk_drewN ?_ _ | refine blk_drew ?_ | refine blk_alloc ?_ _)); refine blk_put (cs := #[.int .i64 ((rd_T108 l0 x9_1).f0), .int .i64 0]) ?_ 1 _ rfl; (with_reducible repeat (first | refine blk_drewN ?_ _ | refine blk_drew ?_ | refine blk_alloc ?_ _)); refine blk_put (cs := #[.int .i64 0, .int .i64 0]) ?_ 0 _ rfl; (with_reducible repeat (first | refine blk_drewN ?_ _ | refine blk_drew ?_ | refine blk_alloc ?_ _)); exact BK102.out⟩, ⟨by repeat (first | (with_reducible first | exact HB.out | apply below_alloc | apply pw_below_drewN | apply below_drew1 | refine below_set ?_ GE102.out) | exact HB.out)⟩⟩
          ·rw [if_neg c14] at H
           have c14b0 : decide (((rd_T108 l0 x9_1).f0) < 0) = false := decide_eq_false c14
           clear c14
           have H' := Aside0.mk H
           clear H
           have hcz19_0 : w6.cell? ⟨gb102, 0, none⟩ = some (.int .i64 0) := (blk_cell BK102.out 0).trans rfl
           have hcz19_1 : w6.cell? ⟨gb102, 1, none⟩ = some (.int .i64 0) := (blk_cell BK102.out 1).trans rfl
           have hfz19_0 := blk_frozen BK102.out 0
           have hfz19_1 := blk_frozen BK102.out 1
           go_wp2
           go_meet
           case rel => exact ⟨_, (false), (by first | rfl | (simp; done) | (simp [*]; done)), H', ⟨by have := HK1.out; first | omega | exact Nat.le_refl _⟩, ⟨by (with_reducible repeat (first | refine blk_drewN ?_ _ | refine blk_drew ?_ | refine blk_alloc ?_ _)); refine blk_put (cs := #[.int .i64 ((rd_T108 l0 x9_1).f0), .int .i64 0]) ?_ 1 _ rfl; (with_reducible repeat (first | refine blk_drewN ?_ _ | refine blk_drew ?_ | refine blk_alloc ?_ _)); refine blk_put (cs := #[.int .i64 0, .int .i64 0]) ?_ 0 _ rfl; (with_reducible repeat (first | refine blk_drewN ?_ _ | refine blk_drew ?_ | refine blk_alloc ?_ _)); exact BK102.out⟩, ⟨by repeat (first | (with_reducible first | exact HB.out | apply below_alloc | apply pw_below_drewN | apply below_drew1 | refine below_set ?_ GE102.out) | exact HB.out)⟩⟩
      case rest =>
       clear HC5
       try clear c1
       try clear p1
       try clear q1
       try clear hx1
       try clear c2
       try clear c2b0
       try clear p2
       try clear c3
       try clear c3b0
       try clear c4
       try clear c4b0
       try clear c8
       try clear c8b0
       try clear c10
       try clear c10b0
       try clear p10
       try clear q10
       try clear hx10
       try clear c12
       try clear c12b0
       try clear c14
       try clear c14b0
       try clear c15
       try clear c15b0
       try clear hcz11_0
       try clear hcz11_1
       try clear hcz13_0
       try clear hcz13_1
       try clear hcz16_0
       try clear hcz16_1
       try clear hcz18_0
       try clear hcz18_1
       try clear hcz19_0
       try clear hcz19_1
       try clear hcz7_0
       try clear hcz7_1
       try clear hcz9_0
       try clear hcz9_1
       try clear hfz11_0
       try clear hfz11_1
       try clear hfz13_0
       try clear hfz13_1
       try clear hfz16_0
       try clear hfz16_1
       try clear hfz18_0
       try clear hfz18_1
       try clear hfz19_0
       try clear hfz19_1
       try clear hfz7_0
       try clear hfz7_1
       try clear hfz9_0
       try clear hfz9_1
       try clear hx101_0
       try clear hx101_1
       try clear p101
       try clear q101
       obtain ⟨kq, x41_4, rfl, HA, HJ4, BK102, HB⟩ := hcut
       cases kq with
       | zero => exact absurd HA.out (by simp [span_right.j1])
       | succ kj4 =>
        have H := HA.out
        clear HA
        simp only [span_right.j1] at H
        by_cases c20 : x41_4 = true
        ·subst c20
         have H1 : (some false) = some r := by rw [if_pos rfl] at H; exact H
         clear H
         have H := H1
         clear H1
         obtain rfl := Option.some.inj H
         go_wp2
         go_ret
         exact ⟨by first | rfl | (simp [errW_none, errW_some] <;> rfl) | (simp [*, errW_none, errW_some] <;> rfl), by repeat (first | (with_reducible first | exact HB.out | apply below_alloc | apply pw_below_drewN | apply below_drew1 | refine below_set ?_ GE102.out) | exact HB.out)⟩
        ·replace c20 := Bool.eq_false_iff.mpr c20
         subst c20
         have H1 : ((span_in.f (wrap64 (x3_1 + ((rd_T108 l0 x9_1).f0)))).bind fun t104 => (if t104 = true then ((span_in.f (wrap64 ((wrap64 (x3_1 + ((rd_T108 l0 x9_1).f0))) + (mx (wrap64 (((rd_T108 l0 x9_1).f1) - 1)) 0)))).bind fun t105 => (if t105 = true then (if (wrap64 (x4_1 + ((rd_T108 l0 x9_1).f1))) > 4096 then (some false) else (span_right.l0 kj4 (wrap64 ((wrap64 (x3_1 + ((rd_T108 l0 x9_1).f0))) + ((rd_T108 l0 x9_1).f1))) (wrap64 (x4_1 + ((rd_T108 l0 x9_1).f1))) l0 (l0.length : Int) (wrap64 (x9_1 + 1)))) else (some false))) else (some false))) = some r := by rw [if_neg (show ¬ (false = true) by decide)] at H; exact H
         clear H
         have H := H1
         clear H1
         replace H := Option.bind_eq_some_iff.mp H
         obtain ⟨t104, A210, H⟩ := H
         replace H : (if t104 = true then ((span_in.f (wrap64 ((wrap64 (x3_1 + ((rd_T108 l0 x9_1).f0))) + (mx (wrap64 (((rd_T108 l0 x9_1).f1) - 1)) 0)))).bind fun t105 => (if t105 = true then (if (wrap64 (x4_1 + ((rd_T108 l0 x9_1).f1))) > 4096 then (some false) else (span_right.l0 kj4 (wrap64 ((wrap64 (x3_1 + ((rd_T108 l0 x9_1).f0))) + ((rd_T108 l0 x9_1).f1))) (wrap64 (x4_1 + ((rd_T108 l0 x9_1).f1))) l0 (l0.length : Int) (wrap64 (x9_1 + 1)))) else (some false))) else (some false)) = some r := H
         have A21 := Aside0.mk A210
         clear A210
         by_cases c22 : t104 = true
         ·subst c22
          have H1 : ((span_in.f (wrap64 ((wrap64 (x3_1 + ((rd_T108 l0 x9_1).f0))) + (mx (wrap64 (((rd_T108 l0 x9_1).f1) - 1)) 0)))).bind fun t105 => (if t105 = true then (if (wrap64 (x4_1 + ((rd_T108 l0 x9_1).f1))) > 4096 then (some false) else (span_right.l0 kj4 (wrap64 ((wrap64 (x3_1 + ((rd_T108 l0 x9_1).f0))) + ((rd_T108 l0 x9_1).f1))) (wrap64 (x4_1 + ((rd_T108 l0 x9_1).f1))) l0 (l0.length : Int) (wrap64 (x9_1 + 1)))) else (some false))) = some r := by rw [if_pos rfl] at H; exact H
          clear H
          have H := H1
          clear H1
          obtain ⟨ji23, hji23⟩ : ∃ j_ : Int, (mx (wrap64 (((rd_T108 l0 x9_1).f1) - 1)) 0) = j_ := ⟨_, rfl⟩
          replace H : ((span_in.f (wrap64 ((wrap64 (x3_1 + ((rd_T108 l0 x9_1).f0))) + (ji23)))).bind fun t105 => (if t105 = true then (if (wrap64 (x4_1 + ((rd_T108 l0 x9_1).f1))) > 4096 then (some false) else (span_right.l0 kj4 (wrap64 ((wrap64 (x3_1 + ((rd_T108 l0 x9_1).f0))) + ((rd_T108 l0 x9_1).f1))) (wrap64 (x4_1 + ((rd_T108 l0 x9_1).f1))) l0 (l0.length : Int) (wrap64 (x9_1 + 1)))) else (some false))) = some r := by first | (rw [hji23] at H; exact H) | (simp only [hji23] at H ⊢; exact H)
          (try rw [hji23] at A21)
          have hji23_ : (if (wrap64 (((rd_T108 l0 x9_1).f1) - 1)) < 0 then 0 else (wrap64 (((rd_T108 l0 x9_1).f1) - 1))) = ji23 := hji23
          replace H := Option.bind_eq_some_iff.mp H
          obtain ⟨t105, A240, H⟩ := H
          replace H : (if t105 = true then (if (wrap64 (x4_1 + ((rd_T108 l0 x9_1).f1))) > 4096 then (some false) else (span_right.l0 kj4 (wrap64 ((wrap64 (x3_1 + ((rd_T108 l0 x9_1).f0))) + ((rd_T108 l0 x9_1).f1))) (wrap64 (x4_1 + ((rd_T108 l0 x9_1).f1))) l0 (l0.length : Int) (wrap64 (x9_1 + 1)))) else (some false)) = some r := H
          have A24 := Aside0.mk A240
          clear A240
          by_cases c25 : t105 = true
          ·subst c25
           have H1 : (if (wrap64 (x4_1 + ((rd_T108 l0 x9_1).f1))) > 4096 then (some false) else (span_right.l0 kj4 (wrap64 ((wrap64 (x3_1 + ((rd_T108 l0 x9_1).f0))) + ((rd_T108 l0 x9_1).f1))) (wrap64 (x4_1 + ((rd_T108 l0 x9_1).f1))) l0 (l0.length : Int) (wrap64 (x9_1 + 1)))) = some r := by rw [if_pos rfl] at H; exact H
           clear H
           have H := H1
           clear H1
           by_cases c26 : (wrap64 (x4_1 + ((rd_T108 l0 x9_1).f1))) > 4096
           ·rw [if_pos c26] at H
            have c26b0 : decide (4096 < (wrap64 (x4_1 + ((rd_T108 l0 x9_1).f1)))) = true := decide_eq_true c26
            clear c26
            obtain rfl := Option.some.inj H
            have hcz27_0 : wc.cell? ⟨gb102, 0, none⟩ = some (.int .i64 ((rd_T108 l0 x9_1).f0)) := (blk_cell BK102.out 0).trans rfl
            have hcz27_1 : wc.cell? ⟨gb102, 1, none⟩ = some (.int .i64 ((rd_T108 l0 x9_1).f1)) := (blk_cell BK102.out 1).trans rfl
            have hfz27_0 := blk_frozen BK102.out 0
            have hfz27_1 := blk_frozen BK102.out 1
            go_wp2_with (first | ((with_reducible refine gate_callee (f := 149) rfl ?_); refine goesL_ (some 51) rfl rfl Try.func149 (by kernel_rfl) rfl #[.int .i64 (wrap64 (x3_1 + ((rd_T108 l0 x9_1).f0)))] rfl (by (try simp only [List.map_toArray, List.map_cons, List.map_nil]); first | done | rfl | (simp only [List.length_drop, List.length_take]; rfl)) ?_; (with_reducible refine (span_in.calls (wrap64 (x3_1 + ((rd_T108 l0 x9_1).f0))) true _ A21.out).mono ?_); rintro e w' ⟨rfl, ⟨nd, rfl⟩⟩; refine ⟨_, rfl, ?_⟩; clear A21) | (go_at_call 149; (with_reducible refine (span_in.calls (wrap64 ((wrap64 (x3_1 + ((rd_T108 l0 x9_1).f0))) + (ji23))) true _ A24.out).mono ?_); rintro e w' ⟨rfl, ⟨nd, rfl⟩⟩; clear A24))
            go_ret
            exact ⟨by first | rfl | (simp [errW_none, errW_some] <;> rfl) | (simp only [← hji23]; first | rfl | (simp [errW_none, errW_some] <;> rfl)) | (simp [*, errW_none, errW_some] <;> rfl), by repeat (first | (with_reducible first | exact HB.out | apply below_alloc | apply pw_below_drewN | apply below_drew1 | refine below_set ?_ GE102.out) | exact HB.out)⟩
           ·rw [if_neg c26] at H
            have c26b0 : decide (4096 < (wrap64 (x4_1 + ((rd_T108 l0 x9_1).f1)))) = false := decide_eq_false c26
            clear c26
            have H' := Aside0.mk H
            clear H
            have hcz28_0 : wc.cell? ⟨gb102, 0, none⟩ = some (.int .i64 ((rd_T108 l0 x9_1).f0)) := (blk_cell BK102.out 0).trans rfl
            have hcz28_1 : wc.cell? ⟨gb102, 1, none⟩ = some (.int .i64 ((rd_T108 l0 x9_1).f1)) := (blk_cell BK102.out 1).trans rfl
            have hfz28_0 := blk_frozen BK102.out 0
            have hfz28_1 := blk_frozen BK102.out 1
            go_wp2_with (first | ((with_reducible refine gate_callee (f := 149) rfl ?_); refine goesL_ (some 51) rfl rfl Try.func149 (by kernel_rfl) rfl #[.int .i64 (wrap64 (x3_1 + ((rd_T108 l0 x9_1).f0)))] rfl (by (try simp only [List.map_toArray, List.map_cons, List.map_nil]); first | done | rfl | (simp only [List.length_drop, List.length_take]; rfl)) ?_; (with_reducible refine (span_in.calls (wrap64 (x3_1 + ((rd_T108 l0 x9_1).f0))) true _ A21.out).mono ?_); rintro e w' ⟨rfl, ⟨nd, rfl⟩⟩; refine ⟨_, rfl, ?_⟩; clear A21) | (go_at_call 149; (with_reducible refine (span_in.calls (wrap64 ((wrap64 (x3_1 + ((rd_T108 l0 x9_1).f0))) + (ji23))) true _ A24.out).mono ?_); rintro e w' ⟨rfl, ⟨nd, rfl⟩⟩; clear A24))
            go_roundg kj4
            case measure => have := HK1.out; have := HJ4.out; omega
            case rel => exact ⟨(wrap64 ((wrap64 (x3_1 + ((rd_T108 l0 x9_1).f0))) + ((rd_T108 l0 x9_1).f1))), (wrap64 (x4_1 + ((rd_T108 l0 x9_1).f1))), (wrap64 (x9_1 + 1)), (by first | rfl | (simp; done) | (simp [*]; done)), (by first | rfl | (simp; done) | (simp [*]; done)), (by first | rfl | (simp; done) | (simp [*]; done)), H', ⟨by have := HK1.out; have := HJ4.out; omega⟩, ⟨by repeat (first | (with_reducible first | exact HB.out | apply below_alloc | apply pw_below_drewN | apply below_drew1 | refine below_set ?_ GE102.out) | exact HB.out)⟩⟩
          ·replace c25 := Bool.eq_false_iff.mpr c25
           subst c25
           have H1 : (some false) = some r := by rw [if_neg (show ¬ (false = true) by decide)] at H; exact H
           clear H
           have H := H1
           clear H1
           obtain rfl := Option.some.inj H
           have hcz29_0 : wc.cell? ⟨gb102, 0, none⟩ = some (.int .i64 ((rd_T108 l0 x9_1).f0)) := (blk_cell BK102.out 0).trans rfl
           have hcz29_1 : wc.cell? ⟨gb102, 1, none⟩ = some (.int .i64 ((rd_T108 l0 x9_1).f1)) := (blk_cell BK102.out 1).trans rfl
           have hfz29_0 := blk_frozen BK102.out 0
           have hfz29_1 := blk_frozen BK102.out 1
           go_wp2_with (first | ((with_reducible refine gate_callee (f := 149) rfl ?_); refine goesL_ (some 51) rfl rfl Try.func149 (by kernel_rfl) rfl #[.int .i64 (wrap64 (x3_1 + ((rd_T108 l0 x9_1).f0)))] rfl (by (try simp only [List.map_toArray, List.map_cons, List.map_nil]); first | done | rfl | (simp only [List.length_drop, List.length_take]; rfl)) ?_; (with_reducible refine (span_in.calls (wrap64 (x3_1 + ((rd_T108 l0 x9_1).f0))) true _ A21.out).mono ?_); rintro e w' ⟨rfl, ⟨nd, rfl⟩⟩; refine ⟨_, rfl, ?_⟩; clear A21) | (go_at_call 149; (with_reducible refine (span_in.calls (wrap64 ((wrap64 (x3_1 + ((rd_T108 l0 x9_1).f0))) + (ji23))) false _ A24.out).mono ?_); rintro e w' ⟨rfl, ⟨nd, rfl⟩⟩; clear A24))
           go_ret
           exact ⟨by first | rfl | (simp [errW_none, errW_some] <;> rfl) | (simp only [← hji23]; first | rfl | (simp [errW_none, errW_some] <;> rfl)) | (simp [*, errW_none, errW_some] <;> rfl), by repeat (first | (with_reducible first | exact HB.out | apply below_alloc | apply pw_below_drewN | apply below_drew1 | refine below_set ?_ GE102.out) | exact HB.out)⟩
         ·replace c22 := Bool.eq_false_iff.mpr c22
          subst c22
          have H1 : (some false) = some r := by rw [if_neg (show ¬ (false = true) by decide)] at H; exact H
          clear H
          have H := H1
          clear H1
          obtain rfl := Option.some.inj H
          have hcz30_0 : wc.cell? ⟨gb102, 0, none⟩ = some (.int .i64 ((rd_T108 l0 x9_1).f0)) := (blk_cell BK102.out 0).trans rfl
          have hcz30_1 : wc.cell? ⟨gb102, 1, none⟩ = some (.int .i64 ((rd_T108 l0 x9_1).f1)) := (blk_cell BK102.out 1).trans rfl
          have hfz30_0 := blk_frozen BK102.out 0
          have hfz30_1 := blk_frozen BK102.out 1
          go_wp2_with (first | ((with_reducible refine gate_callee (f := 149) rfl ?_); refine goesL_ (some 51) rfl rfl Try.func149 (by kernel_rfl) rfl #[.int .i64 (wrap64 (x3_1 + ((rd_T108 l0 x9_1).f0)))] rfl (by (try simp only [List.map_toArray, List.map_cons, List.map_nil]); first | done | rfl | (simp only [List.length_drop, List.length_take]; rfl)) ?_; (with_reducible refine (span_in.calls (wrap64 (x3_1 + ((rd_T108 l0 x9_1).f0))) false _ A21.out).mono ?_); rintro e w' ⟨rfl, ⟨nd, rfl⟩⟩; refine ⟨_, rfl, ?_⟩; clear A21))
          go_ret
          exact ⟨by first | rfl | (simp [errW_none, errW_some] <;> rfl) | (simp [*, errW_none, errW_some] <;> rfl), by repeat (first | (with_reducible first | exact HB.out | apply below_alloc | apply pw_below_drewN | apply below_drew1 | refine below_set ?_ GE102.out) | exact HB.out)⟩
     ·rw [if_neg c4] at H
      exact absurd H (by simp)
    ·rw [if_neg c3] at H
     exact absurd H (by simp)
   ·rw [if_neg c2] at H
    have c2b0 : decide (x9_1 < (l0.length : Int)) = false := decide_eq_false c2
    clear c2
    obtain rfl := Option.some.inj H
    go_wp2
    go_ret
    exact ⟨by first | rfl | (simp [errW_none, errW_some] <;> rfl) | (simp [*, errW_none, errW_some] <;> rfl), by repeat (first | (with_reducible first | exact HB.out | apply below_alloc | apply pw_below_drewN | apply below_drew1) | exact HB.out)⟩
def span_Check.f (k : Nat) (l0 : List (S108)) : Option (Int) := if (l0.length : Int) > 1024 then (some 12) else ((span_right.f k l0).bind fun t101 => (if t101 = true then (some 0) else (some 20)))
set_option maxHeartbeats 8000000 in
set_option maxRecDepth 100000 in
theorem span_Check.calls (k : Nat) (A0 : Option Addr) (c0 : Nat) (l0 : List (S108)) (r : Int) (w : World) (hr0 : Kd.C k108 w A0 l0.length l0) (hc0 : l0.length ≤ c0) (h : span_Check.f k l0 = some r) :
  Calls Try.prog 132 #[.slice A0 l0.length c0] w fun e w' => e = .returned (.int .i64 r) ∧ Below w.heap.size w w' := by
 have HR0 := Aside0.mk hr0
 have HC0 := Aside0.mk hc0
 clear hr0 hc0
 have HB := Aside0.mk (Below.refl w.heap.size w)
 have H : (if (l0.length : Int) > 1024 then (some 12) else ((span_right.f k l0).bind fun t101 => (if t101 = true then (some 0) else (some 20)))) = some r := h
 clear h
 by_cases c2 : (l0.length : Int) > 1024
 ·rw [if_pos c2] at H
  have c2b0 : decide (1024 < (l0.length : Int)) = true := decide_eq_true c2
  have c2b1 : decide (1024 < l0.length) = true := decide_eq_true (by omega)
  clear c2
  obtain rfl := Option.some.inj H
  go_enter Try.func132, Try.ntmps132
  go_wp2
  go_ret
  exact ⟨by first | rfl | (simp [errW_none, errW_some] <;> rfl) | (simp [*, errW_none, errW_some] <;> rfl), by repeat (first | (with_reducible first | exact HB.out | apply below_alloc | apply pw_below_drewN | apply below_drew1) | exact HB.out)⟩
 ·rw [if_neg c2] at H
  have c2b0 : decide (1024 < (l0.length : Int)) = false := decide_eq_false c2
  have c2b1 : decide (1024 < l0.length) = false := decide_eq_false (by omega)
  clear c2
  replace H := Option.bind_eq_some_iff.mp H
  obtain ⟨t101, A30, H⟩ := H
  replace H : (if t101 = true then (some 0) else (some 20)) = some r := H
  have A3 := Aside0.mk A30
  clear A30
  by_cases c4 : t101 = true
  ·subst c4
   have H1 : (some 0) = some r := by rw [if_pos rfl] at H; exact H
   clear H
   have H := H1
   clear H1
   obtain rfl := Option.some.inj H
   go_enter Try.func132, Try.ntmps132
   go_wp2_with (first | ((with_reducible refine gate_callee (f := 153) rfl ?_); refine goesL_ (some 9) rfl rfl Try.func153 (by kernel_rfl) rfl #[.slice A0 l0.length c0] rfl (by (try simp only [List.map_toArray, List.map_cons, List.map_nil]); first | done | rfl | (simp only [List.length_drop, List.length_take]; rfl)) ?_; (with_reducible refine (span_right.calls k _ _ l0 true _ ?side1 ?side2 A3.out).mono ?_); (case side1 => repeat (first | exact HR0.out | (with_reducible refine Kd.C_alloc ?_ _) | (with_reducible refine Kd.C_drewN ?_ _) | (with_reducible refine Kd.C_drew ?_))); (case side2 => exact HC0.out); rintro e w5 ⟨rfl, hb⟩; refine ⟨_, rfl, ?_⟩; have n0_ := Aside0.mk (below_step (by repeat (first | (with_reducible first | exact HB.out | apply below_alloc | apply pw_below_drewN | apply below_drew1) | exact HB.out)) hb); clear HB; have HB := n0_; clear n0_; (try clear hb); (try clear hb2); (try clear hk); (try clear hi); clear A3))
   go_ret
   exact ⟨by first | rfl | (simp [errW_none, errW_some] <;> rfl) | (simp [*, errW_none, errW_some] <;> rfl), by repeat (first | (with_reducible first | exact HB.out | apply below_alloc | apply pw_below_drewN | apply below_drew1) | exact HB.out)⟩
  ·replace c4 := Bool.eq_false_iff.mpr c4
   subst c4
   have H1 : (some 20) = some r := by rw [if_neg (show ¬ (false = true) by decide)] at H; exact H
   clear H
   have H := H1
   clear H1
   obtain rfl := Option.some.inj H
   go_enter Try.func132, Try.ntmps132
   go_wp2_with (first | ((with_reducible refine gate_callee (f := 153) rfl ?_); refine goesL_ (some 9) rfl rfl Try.func153 (by kernel_rfl) rfl #[.slice A0 l0.length c0] rfl (by (try simp only [List.map_toArray, List.map_cons, List.map_nil]); first | done | rfl | (simp only [List.length_drop, List.length_take]; rfl)) ?_; (with_reducible refine (span_right.calls k _ _ l0 false _ ?side1 ?side2 A3.out).mono ?_); (case side1 => repeat (first | exact HR0.out | (with_reducible refine Kd.C_alloc ?_ _) | (with_reducible refine Kd.C_drewN ?_ _) | (with_reducible refine Kd.C_drew ?_))); (case side2 => exact HC0.out); rintro e w6 ⟨rfl, hb⟩; refine ⟨_, rfl, ?_⟩; have n0_ := Aside0.mk (below_step (by repeat (first | (with_reducible first | exact HB.out | apply below_alloc | apply pw_below_drewN | apply below_drew1) | exact HB.out)) hb); clear HB; have HB := n0_; clear n0_; (try clear hb); (try clear hb2); (try clear hk); (try clear hi); clear A3))
   go_ret
   exact ⟨by first | rfl | (simp [errW_none, errW_some] <;> rfl) | (simp [*, errW_none, errW_some] <;> rfl), by repeat (first | (with_reducible first | exact HB.out | apply below_alloc | apply pw_below_drewN | apply below_drew1) | exact HB.out)⟩
def span_Count.l0 : Nat → Int → List (S108) → Int → Int → Option (Int)
 | 0, _, _, _, _ => none
 | k + 1, x3, x9, x10, x11 => if x11 < x10 then (if 0 ≤ x11 then (if x11 < (x9.length : Int) then (span_Count.l0 k (wrap64 (x3 + ((rd_T108 x9 x11).f1))) x9 x10 (wrap64 (x11 + 1))) else (none)) else (none)) else (some x3)
def span_Count.f (k : Nat) (l0 : List (S108)) : Option (Int) := (span_Check.f k l0).bind fun t101 => (if t101 = 0 then (span_Count.l0 k 0 l0 (l0.length : Int) 0) else (some 0))
set_option maxHeartbeats 8000000 in
set_option maxRecDepth 100000 in
theorem span_Count.calls (k : Nat) (A0 : Option Addr) (c0 : Nat) (l0 : List (S108)) (r : Int) (w : World) (hr0 : Kd.C k108 w A0 l0.length l0) (hc0 : l0.length ≤ c0) (h : span_Count.f k l0 = some r) :
  Calls Try.prog 154 #[.slice A0 l0.length c0] w fun e w' => e = .returned (.int .i64 r) ∧ Below w.heap.size w w' := by
 have hu108 := Try.underlying108
 have HR0 := Aside0.mk hr0
 have HC0 := Aside0.mk hc0
 clear hr0 hc0
 have HB := Aside0.mk (Below.refl w.heap.size w)
 have H : ((span_Check.f k l0).bind fun t101 => (if t101 = 0 then (span_Count.l0 k 0 l0 (l0.length : Int) 0) else (some 0))) = some r := h
 clear h
 replace H := Option.bind_eq_some_iff.mp H
 obtain ⟨t101, A20, H⟩ := H
 replace H : (if t101 = 0 then (span_Count.l0 k 0 l0 (l0.length : Int) 0) else (some 0)) = some r := H
 have A2 := Aside0.mk A20
 clear A20
 by_cases c3 : t101 = 0
 ·rw [if_pos c3] at H
  have c3b0 : (t101 == 0) = true := beq_iff_eq.mpr c3
  have c3b1 : (t101 != 0) = false := bne_eq_false_iff_eq.mpr c3
  clear c3
  have H' := Aside0.mk H
  clear H
  go_enter Try.func154, Try.ntmps154
  go_wp2_with (first | ((with_reducible refine gate_callee (f := 132) rfl ?_); refine goesL_ (some 7) rfl rfl Try.func132 (by kernel_rfl) rfl #[.slice A0 l0.length c0] rfl (by (try simp only [List.map_toArray, List.map_cons, List.map_nil]); first | done | rfl | (simp only [List.length_drop, List.length_take]; rfl)) ?_; (with_reducible refine (span_Check.calls k _ _ l0 t101 _ ?side1 ?side2 A2.out).mono ?_); (case side1 => repeat (first | exact HR0.out | (with_reducible refine Kd.C_alloc ?_ _) | (with_reducible refine Kd.C_drewN ?_ _) | (with_reducible refine Kd.C_drew ?_))); (case side2 => exact HC0.out); rintro e w4 ⟨rfl, hb⟩; refine ⟨_, rfl, ?_⟩; have n0_ := Aside0.mk (below_step (by repeat (first | (with_reducible first | exact HB.out | apply below_alloc | apply pw_below_drewN | apply below_drew1) | exact HB.out)) hb); clear HB; have HB := n0_; clear n0_; (try clear hb); (try clear hb2); (try clear hk); (try clear hi); clear A2))
  go_loopg [3, 11] k (fun kq v3 v11 w' => ∃ (x3_1 : Int) (x11_1 : Int), v3 = .int .i64 x3_1 ∧ v11 = .int .i64 x11_1 ∧ Aside0 (span_Count.l0 kq x3_1 l0 (l0.length : Int) x11_1 = some r) ∧ Aside0 (kq ≤ k) ∧ Aside0 (Below w.heap.size w w'))
  case atStart => exact ⟨(0), (0), (by first | rfl | (simp; done) | (simp [*]; done)), (by first | rfl | (simp; done) | (simp [*]; done)), H', ⟨Nat.le_refl _⟩, ⟨by repeat (first | (with_reducible first | exact HB.out | apply below_alloc | apply pw_below_drewN | apply below_drew1) | exact HB.out)⟩⟩
  case round =>
   clear H'
   try clear c1
   try clear p2
   try clear c3
   try clear c3b0
   try clear c3b1
   obtain ⟨x3_1, x11_1, rfl, rfl, HA, HK1, HB⟩ := hrel
   cases gk with
   | zero => exact absurd HA.out (by simp [span_Count.l0])
   | succ k1 =>
    have H := HA.out
    clear HA
    simp only [span_Count.l0] at H
    by_cases c5 : x11_1 < (l0.length : Int)
    ·rw [if_pos c5] at H
     have c5b0 : decide (x11_1 < (l0.length : Int)) = true := decide_eq_true c5
     clear c5
     by_cases c6 : 0 ≤ x11_1
     ·rw [if_pos c6] at H
      have c6b0 : decide (0 ≤ x11_1) = true := decide_eq_true c6
      clear c6
      by_cases c7 : x11_1 < (l0.length : Int)
      ·rw [if_pos c7] at H
       have c7b0 : decide (x11_1 < (l0.length : Int)) = true := decide_eq_true c7
       clear c7
       have H' := Aside0.mk H
       clear H
       have p102 : 0 ≤ (x11_1 : Int) := of_decide_eq_true (by first | (with_reducible assumption) | assumption)
       have q102 : x11_1 < (l0.length : Int) := of_decide_eq_true (by first | (with_reducible assumption) | assumption)
       obtain ⟨ad102, e102, hx102_0, hx102_1⟩ := at_T108 HR0.out x11_1 p102 q102
       cases e102
       replace hx102_0 := (HB.out.cell (World.block_lt_of_cell? w _ hx102_0)).trans hx102_0
       replace hx102_1 := (HB.out.cell (World.block_lt_of_cell? w _ hx102_1)).trans hx102_1
       replace p102 := eq_true p102
       replace q102 := eq_true q102
       go_wp2_with (first | ((with_reducible refine gate_dst (N := 5) rfl ?_); refine box_event ?hg (N := 5) ?hd (cs := #[.int .i64 0, .int .i64 0]) (t := 108) ?hr ?_; (case hd => rfl); (case hg => rfl); (case hr => first | (go_simp; done) | (go_simp; rfl)); intro gb103 hg w8 hbox hb; have n0_ := Aside0.mk (below_step (by repeat (first | (with_reducible first | exact HB.out | apply below_alloc | apply pw_below_drewN | apply below_drew1) | exact HB.out)) hb); have n1_ := Aside0.mk (hbox); have n2_ := Aside0.mk ((by rw [hg]; exact (below_size (by repeat (first | (with_reducible first | exact HB.out | apply below_alloc | apply pw_below_drewN | apply below_drew1) | exact HB.out))) : w.heap.size ≤ gb103)); have n3_ := Aside0.mk ((by rw [hg]; exact (below_size (by repeat (first | (with_reducible first | exact HB.out | apply below_alloc | apply pw_below_drewN | apply below_drew1) | exact HB.out))) : w.heap.size ≤ gb103)); clear HB; have HB := n0_; have BK103 := n1_; have GW103 := n2_; have GE103 := n3_; clear n0_ n1_ n2_ n3_; clear hb hbox hg; have hcz9_0 : w8.cell? ⟨gb103, 0, none⟩ = some (.int .i64 0) := (blk_cell BK103.out 0).trans rfl; have hcz9_1 : w8.cell? ⟨gb103, 1, none⟩ = some (.int .i64 0) := (blk_cell BK103.out 1).trans rfl; have hfz9_0 := blk_frozen BK103.out 0; have hfz9_1 := blk_frozen BK103.out 1))
       go_roundg k1
       case measure => have := HK1.out; omega
       case rel => exact ⟨(wrap64 (x3_1 + ((rd_T108 l0 x11_1).f1))), (wrap64 (x11_1 + 1)), (by first | rfl | (simp; done) | (simp [*]; done)), (by first | rfl | (simp; done) | (simp [*]; done)), H', ⟨by have := HK1.out; omega⟩, ⟨by repeat (first | (with_reducible first | exact HB.out | apply below_alloc | apply pw_below_drewN | apply below_drew1 | refine below_set ?_ GE103.out) | exact HB.out)⟩⟩
      ·rw [if_neg c7] at H
       exact absurd H (by simp)
     ·rw [if_neg c6] at H
      exact absurd H (by simp)
    ·rw [if_neg c5] at H
     have c5b0 : decide (x11_1 < (l0.length : Int)) = false := decide_eq_false c5
     clear c5
     obtain rfl := Option.some.inj H
     go_wp2
     go_ret
     exact ⟨by first | rfl | (simp [errW_none, errW_some] <;> rfl) | (simp [*, errW_none, errW_some] <;> rfl), by repeat (first | (with_reducible first | exact HB.out | apply below_alloc | apply pw_below_drewN | apply below_drew1) | exact HB.out)⟩
 ·rw [if_neg c3] at H
  have c3b0 : (t101 == 0) = false := beq_eq_false_iff_ne.mpr c3
  have c3b1 : (t101 != 0) = true := bne_iff_ne.mpr c3
  obtain rfl := Option.some.inj H
  go_enter Try.func154, Try.ntmps154
  go_wp2_with (first | ((with_reducible refine gate_callee (f := 132) rfl ?_); refine goesL_ (some 7) rfl rfl Try.func132 (by kernel_rfl) rfl #[.slice A0 l0.length c0] rfl (by (try simp only [List.map_toArray, List.map_cons, List.map_nil]); first | done | rfl | (simp only [List.length_drop, List.length_take]; rfl)) ?_; (with_reducible refine (span_Check.calls k _ _ l0 t101 _ ?side1 ?side2 A2.out).mono ?_); (case side1 => repeat (first | exact HR0.out | (with_reducible refine Kd.C_alloc ?_ _) | (with_reducible refine Kd.C_drewN ?_ _) | (with_reducible refine Kd.C_drew ?_))); (case side2 => exact HC0.out); rintro e w10 ⟨rfl, hb⟩; refine ⟨_, rfl, ?_⟩; have n0_ := Aside0.mk (below_step (by repeat (first | (with_reducible first | exact HB.out | apply below_alloc | apply pw_below_drewN | apply below_drew1) | exact HB.out)) hb); clear HB; have HB := n0_; clear n0_; (try clear hb); (try clear hb2); (try clear hk); (try clear hi); clear A2))
  go_ret
  exact ⟨by first | rfl | (simp [errW_none, errW_some] <;> rfl) | (simp [*, errW_none, errW_some] <;> rfl), by repeat (first | (with_reducible first | exact HB.out | apply below_alloc | apply pw_below_drewN | apply below_drew1) | exact HB.out)⟩
end Go.Proofs.Ytcabapilejagkaa.P
namespace Go.Proofs.Ytcabapilejagkaa.P
open Go.RowKit Go.Shelf Go.Proofs.YtcabapilejagkaaW.PrintWords Go.Proofs.YtcabapilejagkaaW.PrintLast Go.Proofs.YtcabapilejagkaaW.PrintMore
set_option linter.unusedVariables false
set_option linter.unusedSimpArgs false
attribute [local go_sem] Oper.semAt_some
def runAt : Int → Nat → List Int
  | _, 0 => []
  | a, n + 1 => a :: runAt (wrap64 (a + 1)) n
def runEnd : Int → Nat → Int
  | a, 0 => a
  | a, n + 1 => runEnd (wrap64 (a + 1)) n
theorem runAt_snoc : ∀ (n : Nat) (a : Int), runAt a (n + 1) = runAt a n ++ [runEnd a n]
  | 0, _ => rfl
  | n + 1, a => by
    show a :: runAt (wrap64 (a + 1)) (n + 1) = a :: runAt (wrap64 (a + 1)) n ++ [runEnd (wrap64 (a + 1)) n]
    rw [runAt_snoc n]; rfl
theorem runEnd_snoc : ∀ (n : Nat) (a : Int), runEnd a (n + 1) = wrap64 (runEnd a n + 1)
  | 0, _ => rfl
  | n + 1, a => by
    show runEnd (wrap64 (a + 1)) (n + 1) = wrap64 (runEnd (wrap64 (a + 1)) n + 1)
    rw [runEnd_snoc n]
theorem runAt_length : ∀ (n : Nat) (a : Int), (runAt a n).length = n
  | 0, _ => rfl
  | n + 1, a => by show (runAt (wrap64 (a + 1)) n).length + 1 = n + 1; rw [runAt_length n]
def placesAt : Int → List S108 → List Int
  | _, [] => []
  | a, s :: r => runAt (wrap64 (a + s.f0)) s.f1.toNat ++ placesAt (runEnd (wrap64 (a + s.f0)) s.f1.toNat) r
def endAt : Int → List S108 → Int
  | a, [] => a
  | a, s :: r => endAt (runEnd (wrap64 (a + s.f0)) s.f1.toNat) r
theorem placesAt_snoc (s : S108) : ∀ (l : List S108) (a : Int), placesAt a (l ++ [s]) = placesAt a l ++ runAt (wrap64 (endAt a l + s.f0)) s.f1.toNat
  | [], a => by simp [placesAt, endAt]
  | x :: l, a => by simp [placesAt, endAt, placesAt_snoc s l]
theorem endAt_snoc (s : S108) : ∀ (l : List S108) (a : Int), endAt a (l ++ [s]) = runEnd (wrap64 (endAt a l + s.f0)) s.f1.toNat
  | [], a => by simp [endAt]
  | x :: l, a => by simp [endAt, endAt_snoc s l]
theorem placesAt_take_le (l : List S108) (k : Nat) : (placesAt 0 (l.take k)).length ≤ (placesAt 0 l).length := by
  have : ∀ (l r : List S108) (a : Int), (placesAt a l).length ≤ (placesAt a (l ++ r)).length := by
    intro l
    induction l with
    | nil => intro r a; simp [placesAt]
    | cons x l ih => intro r a; simp [placesAt]; exact ih _ _
  have h := this (l.take k) (l.drop k) 0
  rwa [List.take_append_drop] at h
theorem placesAt_prefix (l r : List S108) : placesAt 0 l <+: placesAt 0 (l ++ r) := by
  have : ∀ (l r : List S108) (a : Int), placesAt a l <+: placesAt a (l ++ r) := by
    intro l
    induction l with
    | nil => intro r a; simp [placesAt]
    | cons x l ih => intro r a; simp only [placesAt, List.cons_append]; exact (List.prefix_append_right_inj _).2 (ih _ _)
  exact this l r 0
def numd (ps : List Int) : List (Int × Int) := ps.zipIdx.map fun p => (((p.2 : Nat) : Int), p.1)
theorem numd_snoc (ps : List Int) (p : Int) : numd (ps ++ [p]) = numd ps ++ [((ps.length : Int), p)] := by
  simp [numd, List.zipIdx_append]
theorem numd_length (ps : List Int) : (numd ps).length = ps.length := by simp [numd]
theorem numd_prefix {a b : List Int} (h : a <+: b) : numd a <+: numd b := by
  obtain ⟨c, rfl⟩ := h
  unfold numd
  rw [List.zipIdx_append, List.map_append]
  exact List.prefix_append _ _
def KeepR (n0 n1 : Nat) (W W' : World) : Prop := W.heap.size ≤ W'.heap.size ∧ ∀ k, n0 ≤ k → k < n1 → W'.heap[k]? = W.heap[k]?
theorem KeepR.refl (n0 n1 : Nat) (W : World) : KeepR n0 n1 W W := ⟨Nat.le_refl _, fun _ _ _ => rfl⟩
theorem KeepR.trans {n0 n1 : Nat} {A B C : World} (h : KeepR n0 n1 A B) (k : KeepR n0 n1 B C) : KeepR n0 n1 A C := ⟨Nat.le_trans h.1 k.1, fun i h0 h1 => (k.2 i h0 h1).trans (h.2 i h0 h1)⟩
theorem KeepR.put {n0 n1 : Nat} {w : World} (hn : n1 ≤ w.heap.size) (W : World) (l : Nat) (o o' : Obj) (hl : w.heap.size ≤ l) (h : W.heap[l]? = some o) (_ : o.isCells = false) (_ : o.isWalk = false) : KeepR n0 n1 W (W.putObj l o') := by
  have hg := grownBy_putObj' W l o'
  refine ⟨hg.size, fun k h0 h1 => hg.block k ?_ (fun e => by injection e with e; omega)⟩
  have := (Array.getElem?_eq_some_iff.1 h).1
  omega
theorem KeepR.of_below {n0 n1 : Nat} {B : Nat} {W W' : World} (h : Below B W W') (hn : n1 ≤ B) : KeepR n0 n1 W W' := ⟨h.size, fun k _ h1 => h.block k (by omega)⟩
def HoldsSp (n0 n1 Bn : Nat) (v : Value) (l : List S108) (W : World) : Prop :=
  (n0 ≤ Bn ∧ Bn < n1) ∧ n1 ≤ W.heap.size ∧ W.heap[Bn]? = some (.cells #[v] 34 (0, 0)) ∧ Kd.R k108 108 W n0 (fun k => n0 ≤ k ∧ k < n1) v l
theorem HoldsSp.keep {n0 n1 Bn : Nat} {v : Value} {l : List S108} {W W' : World} (h : HoldsSp n0 n1 Bn v l W) (k : KeepR n0 n1 W W') : HoldsSp n0 n1 Bn v l W' :=
  ⟨h.1, Nat.le_trans h.2.1 k.1, (k.2 Bn h.1.1 h.1.2).trans h.2.2.1, Kd.R_move h.2.2.2 (fun q hq => k.2 q hq.1 hq.2)⟩
set_option maxRecDepth 100000 in
set_option maxHeartbeats 4000000 in
theorem all1_in (n : Nat) (hn : 1 ≤ n) (L n0 n1 Bn : Nat) (v : Value) (l : List S108) (k : Nat) (hck : span_Check.f k l = some 0) (hN : (placesAt 0 l).length ≤ 4611686018427387904) (J Jx : List (Int × Int) → World → Prop)
    (hJ : ∀ s W W', J s W → W.grownBy W' none → J s W')
    (hY : ∀ pre x W, J pre W → pre.length < (placesAt 0 l).length → YieldAt Fence.wide (n - 1) Try.prog L #[.int .i64 x.1, .int .i64 x.2] W fun e W' =>
      (e = .returned (.bool true) ∧ J (pre ++ [x]) W' ∧ KeepR n0 n1 W W') ∨ (e = .returned (.bool false) ∧ Jx (pre ++ [x]) W'))
    (W : World) (hS : HoldsSp n0 n1 Bn v l W) (h0 : J [] W) :
    CallsIn Fence.wide n Try.prog 166 #[.func (.yield L) #[] #[], .pointer (some ⟨Bn, 0, none⟩)] W fun e W' => (∃ v, e = .returned v) ∧
      ((∃ ys, ys = numd (placesAt 0 l) ∧ J ys W') ∨ (∃ pre, pre <+: numd (placesAt 0 l) ∧ Jx pre W')) := by
  have hu := Try.underlying108
  have hf : Fence.wide.fn 132 := trivial
  obtain ⟨A, c, rfl, hlc, hC⟩ := Kd.R_reads hS.2.2.2
  have hcell : W.cell? ⟨Bn, 0, none⟩ = some (.slice A l.length c) := by
    have := blk_cell (i := 0) hS.2.2.1
    rw [this]; rfl
  have hm : l.length ≤ 9223372036854775807 := hC.2.1
  have HCk := Aside0.mk (span_Check.calls k A c l 0 W hC hlc hck)
  have HJ := Aside0.mk hJ
  have HY := Aside0.mk hY
  have HS := Aside0.mk hS
  have H0 := Aside0.mk h0
  clear hJ hY hS h0 hC
  refine callsIn_of_wp Try.func166 rfl trivial ?_ rfl
  simp only [Try.ntmps166, List.size_toArray, List.length_cons, List.length_nil, Nat.reduceAdd, Nat.reduceSub, Array.replicate_succ, Array.replicate_zero, List.push_toArray, List.append_toArray, List.nil_append, List.cons_append]
  gi_wp2_with (gi_at_call 132; refine (callsIn_wide.2 HCk.out).mono ?_; rintro e w1 ⟨rfl, hb⟩; have HB := Aside0.mk hb; have hcell1 := (hb.cell (World.block_lt_of_cell? W _ hcell)).trans hcell; clear hb hcell)
  have HS1 := Aside0.mk (HS.out.keep (KeepR.of_below HB.out HS.out.2.1))
  have H1 := Aside0.mk (HJ.out _ _ _ H0.out (grown_of_below HB.out none))
  clear HS H0 HB HCk
  gi_loopw [3, 4, 12] (fun s3 s4 s12 wr => ∃ kk : Nat, kk ≤ l.length ∧ s12 = .int .i64 kk ∧ s3 = .int .i64 (endAt 0 (l.take kk)) ∧ s4 = .int .i64 ((placesAt 0 (l.take kk)).length : Int) ∧ Aside0 (HoldsSp n0 n1 Bn (.slice A l.length c) l wr) ∧ Aside0 (J (numd (placesAt 0 (l.take kk))) wr)) (fun _ _ s12 _ => l.length - (intOf s12).toNat)
  case atStart => exact ⟨0, Nat.zero_le _, rfl, by simp [endAt], by simp [placesAt], HS1, by simpa [placesAt, numd] using H1⟩
  case round =>
    obtain ⟨kk, hkk, rfl, rfl, rfl, HS, HJ0⟩ := hrel
    clear HS1 H1
    by_cases hlt : kk < l.length
    · have hlti : (kk : Int) < (l.length : Int) := by omega
      have hC := (Kd.R_reads' HS.out.2.2.2).2.2
      obtain ⟨ad, e1, hx0, hx1⟩ := at_T108 hC kk (by omega) (by omega)
      cases e1
      clear hC
      have hrd : rd_T108 l (kk : Int) = l[kk] := by unfold rd_T108; simp [List.getD, hlt]
      rw [hrd, Int.toNat_natCast] at hx0 hx1
      have HT := Aside0.mk (List.take_succ_eq_append_getElem hlt)
      generalize l[kk] = y at hx0 hx1 HT hrd
      clear hrd
      obtain ⟨wo, rfl⟩ : ∃ wo : World, wo = wr := ⟨_, rfl⟩
      have hple : (placesAt 0 (l.take kk)).length ≤ 4611686018427387904 := Nat.le_trans (placesAt_take_le l kk) hN
      have HP1 := Aside0.mk (placesAt_snoc y (l.take kk) 0)
      have HE1 := Aside0.mk (endAt_snoc y (l.take kk) 0)
      have HLE : Aside0 ((placesAt 0 (l.take kk)).length + y.f1.toNat ≤ (placesAt 0 l).length ∧ placesAt 0 (l.take kk) ++ runAt (wrap64 (endAt 0 (l.take kk) + y.f0)) y.f1.toNat <+: placesAt 0 l) := by
        have h := placesAt_prefix (l.take (kk + 1)) (l.drop (kk + 1))
        rw [List.take_append_drop, HT.out, HP1.out] at h
        refine ⟨⟨?_, h⟩⟩
        have := h.length_le
        rwa [List.length_append, runAt_length] at this
      rw [← HT.out] at HP1 HE1
      clear HT
      generalize endAt 0 (l.take kk) = at0 at HP1 HE1 HLE
      generalize placesAt 0 (l.take kk) = ps at HP1 HLE HJ0 hple
      have HS0 := Aside0.mk (HS.out.keep (KeepR.of_below (below_alloc (Below.refl _ wo) (.cells #[.int .i64 y.f0, .int .i64 y.f1] 108)) HS.out.2.1))
      have HJ1 := Aside0.mk (HJ.out _ _ _ HJ0.out (grown_of_below (below_alloc (Below.refl _ wo) (.cells #[.int .i64 y.f0, .int .i64 y.f1] 108)) none))
      clear HS HJ0
      gi_wp2
      gi_loopw [3, 4, 22] (fun s3 s4 s22 wr => ∃ i : Nat, i ≤ y.f1.toNat ∧ s22 = .int .i64 i ∧ s3 = .int .i64 (runEnd (wrap64 (at0 + y.f0)) i) ∧ s4 = .int .i64 ((ps.length : Int) + (i : Int)) ∧ Aside0 (HoldsSp n0 n1 Bn (.slice (some ad) l.length c) l wr) ∧ Aside0 (J (numd (ps ++ runAt (wrap64 (at0 + y.f0)) i)) wr)) (fun _ _ s22 _ => (y.f1 - intOf s22).toNat)
      case atStart => exact ⟨0, Nat.zero_le _, rfl, rfl, by simp, HS0, by simpa [runAt] using HJ1⟩
      case round =>
        obtain ⟨i, hi, rfl, rfl, rfl, HS, HJ0⟩ := hrel
        clear HS0 HJ1
        by_cases hli : (i : Int) < y.f1
        · have hlen : (ps ++ runAt (wrap64 (at0 + y.f0)) i).length = ps.length + i := by rw [List.length_append, runAt_length]
          have hlt2 : ps.length + i < (placesAt 0 l).length := by have := HLE.out.1; omega
          have hnx : (ps.length : Int) + (i : Int) + 1 ≤ 4611686018427387904 := by omega
          have hn0 : 0 ≤ (ps.length : Int) + (i : Int) := by omega
          have hy1 : y.f1 ≤ 4611686018427387904 := by have := HLE.out.1; omega
          obtain ⟨fn, tmps, assign, body, hy, hR⟩ := HY.out (numd (ps ++ runAt (wrap64 (at0 + y.f0)) i)) ((ps.length : Int) + (i : Int), runEnd (wrap64 (at0 + y.f0)) i) wr HJ0.out (by rw [numd_length, hlen]; exact hlt2)
          dsimp only at hy
          have HA := Aside0.mk (runAt_snoc i (wrap64 (at0 + y.f0)))
          have HE := Aside0.mk (runEnd_snoc i (wrap64 (at0 + y.f0)))
          have HNS := Aside0.mk (numd_snoc (ps ++ runAt (wrap64 (at0 + y.f0)) i) (runEnd (wrap64 (at0 + y.f0)) i))
          have HL := Aside0.mk hlen
          have HRR := Aside0.mk hR
          clear hR hlen HJ0
          gi_wp2
          refine HRR.out.mono ?_
          rintro e W3 (⟨rfl, hJ3, hk3⟩ | ⟨rfl, hJx3⟩)
          · have HJ3 := Aside0.mk hJ3
            have HS3 := Aside0.mk (HS.out.keep hk3)
            clear hJ3 hk3
            gi_wp2
            go_roundw
            case rel => 
              refine ⟨i + 1, by omega, by go_num, by rw [HE.out], by go_num, HS3, ⟨?_⟩⟩
              rw [HA.out, ← List.append_assoc, HNS.out, HL.out]
              exact HJ3.out
            case measure => simp [intOf]; omega
          · have HX := Aside0.mk hJx3
            clear hJx3
            gi_wp2
            refine bodyPost_ret (results_none rfl _ _ _) rfl ?_
            refine ⟨⟨_, rfl⟩, .inr ⟨_, ?_, HX.out⟩⟩
            have h1 := numd_prefix HLE.out.2
            have hi1 : i + 1 ≤ y.f1.toNat := by omega
            have h2 : ps ++ runAt (wrap64 (at0 + y.f0)) (i + 1) <+: ps ++ runAt (wrap64 (at0 + y.f0)) y.f1.toNat := by
              refine (List.prefix_append_right_inj _).2 ?_
              have : ∀ (m j : Nat) (a : Int), j ≤ m → runAt a j <+: runAt a m := by
                intro m
                induction m with
                | zero => intro j a hj; obtain rfl : j = 0 := by omega
                          exact List.prefix_rfl
                | succ m ih =>
                  intro j a hj
                  cases j with
                  | zero => exact List.nil_prefix
                  | succ j => exact (List.cons_prefix_cons).2 ⟨rfl, ih j _ (by omega)⟩
              exact this _ _ _ hi1
            have h3 := (numd_prefix h2).trans h1
            rw [HA.out, ← List.append_assoc, HNS.out, HL.out] at h3
            exact h3
        · have hie : i = y.f1.toNat := by omega
          have hli' : ¬ (i : Int) < y.f1 := hli
          gi_wp2
          go_roundw
          case rel =>
            refine ⟨kk + 1, by omega, by go_num, ?_, ?_, HS, ?_⟩
            · rw [HE1.out, hie]
            · rw [HP1.out, List.length_append, runAt_length, hie]; go_num
            · rw [HP1.out, ← hie]; exact HJ0
          case measure => simp [intOf]; omega
    · have hlti : ¬ (kk : Int) < (l.length : Int) := by omega
      have hk : l.take kk = l := List.take_of_length_le (by omega)
      have HK := Aside0.mk hk
      clear hk
      gi_wp2
      go_end0
      have hj := HJ0.out
      rw [HK.out] at hj
      exact ⟨⟨_, rfl⟩, .inl hj⟩
theorem all_in (n : Nat) (hn : 1 ≤ n) (A0 : Option Addr) (c0 : Nat) (l0 : List S108) (w : World) (hr0 : Kd.C k108 w A0 l0.length l0) (hc0 : l0.length ≤ c0) (hm : l0.length < 8796093022208) :
    CallsIn Fence.wide n Try.prog 148 #[.slice A0 l0.length c0] w fun e w' => ∃ (Bn : Nat) (v : Value), e = .returned (.func (.func 166) #[] #[.pointer (some ⟨Bn, 0, none⟩)]) ∧ HoldsSp w.heap.size w'.heap.size Bn v l0 w' ∧ Below w.heap.size w w' := by
  have hf : Fence.wide.fn 73 := trivial
  have HC := Aside0.mk (slices_Clone_span.calls A0 c0 l0 l0 w hr0 hc0 (by unfold slices_Clone_span.f; rw [if_pos hm]))
  clear hr0 hc0 hm
  refine callsIn_of_wp Try.func148 rfl trivial ?_ rfl
  simp only [Try.ntmps148, List.size_toArray, List.length_cons, List.length_nil, Nat.reduceAdd, Nat.reduceSub, Array.replicate_succ, Array.replicate_zero, List.push_toArray, List.append_toArray, List.nil_append, List.cons_append]
  gi_wp2_with (gi_at_call 73; refine (callsIn_wide.2 HC.out).mono ?_; rintro e w1 ⟨v, rfl, ho, hb⟩; have HO := Aside0.mk ho; have HB := Aside0.mk hb; obtain ⟨A1, c1, rfl⟩ := Kd.R_slice ho; clear ho hb)
  go_ret
  refine ⟨w1.heap.size, .slice A1 l0.length c1, rfl, ⟨⟨HB.out.size, by simp⟩, by simp, ?_, ?_⟩, below_then HB.out HB.out.size (below_alloc (Below.refl _ _) _)⟩
  · simpa using blk_new w1 (.cells #[.slice A1 l0.length c1] 34)
  · refine Kd.R_mono (Kd.R_bound (Kd.R_below HO.out (below_alloc (Below.refl _ _) _))) (fun k hk => ⟨hk.2.1, hk.2.2.1⟩)
theorem all_stops (n : Nat) (hn : 1 ≤ n) (n0 Bn : Nat) (v : Value) (l : List S108) (k : Nat) (hck : span_Check.f k l = some 0) (hN : (placesAt 0 l).length ≤ 4611686018427387904) (w : World) (hS : HoldsSp n0 w.heap.size Bn v l w) :
    SeqStopsK Fence.wide n Try.prog 166 #[.pointer (some ⟨Bn, 0, none⟩)] (fun x : Int × Int => #[Value.int .i64 x.1, .int .i64 x.2]) (KeepR n0 w.heap.size) (fun ys => ys = numd (placesAt 0 l)) (fun pre => pre <+: numd (placesAt 0 l)) (placesAt 0 l).length w := fun L J Jx W hW hJ _ hY h0 =>
  all1_in n hn L n0 w.heap.size Bn v l k hck hN J Jx (fun s A B hs hg => hJ s A B none hs hg (fun r e => by cases e)) hY W (hS.keep (KeepR.of_below hW (Nat.le_refl _))) h0
end Go.Proofs.Ytcabapilejagkaa.P
namespace Go.Proofs.Ytcabapilejagkaa.P
open Go.RowKit Go.Proofs.YtcabapilejagkaaW.PrintWords Go.Proofs.YtcabapilejagkaaW.PrintLast Go.Proofs.YtcabapilejagkaaW.PrintMore
set_option linter.unusedVariables false
set_option linter.unusedSimpArgs false
theorem wrap_id {x : Int} (h0 : -9223372036854775808 ≤ x) (h1 : x ≤ 9223372036854775807) : wrap64 x = x := by unfold wrap64; omega
theorem wrap_succ {i : Nat} (h : i < 9223372036854775807) : wrap64 ((i : Int) + 1) = ((i + 1 : Nat) : Int) := by unfold wrap64; omega
theorem wrap_range (x : Int) : -9223372036854775808 ≤ wrap64 x ∧ wrap64 x ≤ 9223372036854775807 := by unfold wrap64; omega
theorem rd_at {l : List Int} {i : Nat} (h : i < l.length) : rd l (i : Int) = l[i] := by unfold rd; simp [List.getD, h]
theorem drop_at {α : Type} {l : List α} {i : Nat} (h : i < l.length) : l.drop i = l[i] :: l.drop (i + 1) := List.drop_eq_getElem_cons h
theorem take_at {α : Type} {l : List α} {i : Nat} (h : i < l.length) : l.take (i + 1) = l.take i ++ [l[i]] := List.take_succ_eq_append_getElem h
theorem drop_end {α : Type} {l : List α} {i : Nat} (h : l.length ≤ i) : l.drop i = [] := List.drop_eq_nil_of_le h
def i64 (x : Int) : Prop := -9223372036854775808 ≤ x ∧ x ≤ 9223372036854775807
instance (x : Int) : Decidable (i64 x) := by unfold i64; exact inferInstance
def u64 (x : Int) : Prop := 0 ≤ x ∧ x ≤ 18446744073709551615
instance (x : Int) : Decidable (u64 x) := by unfold u64; exact inferInstance
theorem u64_of {x : Int} (h : inI .u64 x) : u64 x := inI_u64 h
theorem wrap_i64 (x : Int) : i64 (wrap64 x) := wrap_range x
theorem wrap_of_i64 {x : Int} (h : i64 x) : wrap64 x = x := wrap_id h.1 h.2
end Go.Proofs.Ytcabapilejagkaa.P
namespace Go.Proofs.Ytcabapilejagkaa.P
open Go.RowKit Go.Shelf Go.Proofs.YtcabapilejagkaaW.PrintWords Go.Proofs.YtcabapilejagkaaW.PrintLast Go.Proofs.YtcabapilejagkaaW.PrintMore
set_option linter.unusedVariables false
set_option linter.unusedSimpArgs false
attribute [local go_sem] Oper.semAt_some
def span_Places.f (k : Nat) (l0 : List S108) : Option (List Int × Int) :=
  (span_Check.f k l0).bind fun e => if e = 0 then (if l0.length < 8796093022208 ∧ (placesAt 0 l0).length < 17592186044416 then some (placesAt 0 l0, 0) else none) else some ([], e)
theorem numd_map (ps : List Int) : (numd ps).map (fun x => Value.int .i64 x.2) = encs (Value.int .i64) ps := by
  unfold numd encs
  rw [List.map_map]
  have : ∀ (ps : List Int) (i : Nat), (ps.zipIdx i).map ((fun x : Int × Int => Value.int .i64 x.2) ∘ fun p : Int × Nat => (((p.2 : Nat) : Int), p.1)) = ps.map (Value.int .i64) := by
    intro ps
    induction ps with
    | nil => intro i; rfl
    | cons p ps ih => intro i; simp only [List.zipIdx_cons, List.map_cons, ih, Function.comp]
  exact this ps 0
theorem keepR_appended {n0 n1 B : Nat} {W w1 : World} {e : TypeId} {size k : Nat} {v v' : Value} {xs : List Value} {tmp : Obj} (hB : B < n0) (hn : n1 ≤ W.heap.size)
    (hrow : W.ownsRow n1 e size v k xs) (hgrow : (W.alloc tmp).grownBy w1 v.ownBlock) : KeepR n0 n1 W (w1.setCell ⟨B, 0, none⟩ v') := by
  have hs := hgrow.size
  simp at hs
  refine ⟨by simp [World.setCell]; omega, fun q h0 h1 => ?_⟩
  rw [Below.heap_setCell w1 ⟨B, 0, none⟩ v' q (by show q ≠ B; omega), hgrow.block q (by simp; omega) (fun e' => ?_), Below.heap_alloc W tmp q (by omega)]
  have := own_base hrow q e'.symm
  omega
set_option maxRecDepth 100000 in
set_option maxHeartbeats 4000000 in
theorem span_Places.calls (k : Nat) (A0 : Option Addr) (c0 : Nat) (l0 : List S108) (r1 : List Int) (r2 : Int) (w : World) (hr0 : Kd.C k108 w A0 l0.length l0) (hc0 : l0.length ≤ c0) (h : span_Places.f k l0 = some (r1, r2)) :
    Calls Try.prog 120 #[.slice A0 l0.length c0] w fun e w' => ∃ v0_ : Value, e = .returned (.tuple #[v0_, .int .i64 r2]) ∧ Kd.R (Kd.int .i64) 3 w' w.heap.size (fun _ => True) v0_ r1 ∧ Below w.heap.size w w' := by
  obtain ⟨e0, hck, h2⟩ := Option.bind_eq_some_iff.1 h
  clear h
  have HCk := Aside0.mk (span_Check.calls k A0 c0 l0 e0 w hr0 hc0 hck)
  by_cases he : e0 = 0
  · subst he
    rw [if_pos rfl] at h2
    obtain ⟨hm, h3⟩ := of_ite_some h2
    injection h3 with h4 h5
    subst h4; subst h5
    clear h2
    refine (callsIn_wide (n := 5)).1 ?_
    have hf0 : Fence.wide.fn 132 := trivial
    have hf1 : Fence.wide.fn 148 := trivial
    have HR := Aside0.mk hr0
    have HM := Aside0.mk hm
    obtain ⟨i0, hi, hz0, hz1, hz2⟩ := info_parts info3
    clear hr0 hm
    refine callsIn_of_wp_marks Try.func120 rfl trivial ?_ rfl
    simp only [Try.ntmps120, List.size_toArray, List.length_cons, List.length_nil, Nat.reduceAdd, Nat.reduceSub, Array.replicate_succ, Array.replicate_zero, List.push_toArray, List.append_toArray, List.nil_append, List.cons_append]
    gi_wp2_with (first | (gi_at_call 132; refine (callsIn_wide.2 HCk.out).mono ?_; rintro e w1 ⟨rfl, hb⟩; have HB := Aside0.mk hb; clear hb HCk) | (gi_at_call 148; refine (all_in _ (by omega) A0 c0 l0 _ (Kd.C_below (Kd.C_below HR.out HB.out) (below_alloc (Below.refl _ _) _)) hc0 HM.out.1).mono ?_; rintro e w2 ⟨Bn, v, rfl, hS, hb2⟩; have HS := Aside0.mk hS; have HB2 := Aside0.mk hb2; clear hS hb2))
    have hsz : w1.heap.size + 1 ≤ w2.heap.size := by have := HB2.out.size; simpa using this
    have hB2 : w2.heap[w1.heap.size]? = some (.cells #[.slice none 0 0] 57 (0, 0)) := (HB2.out.block _ (by simp)).trans (by simpa using blk_new w1 (.cells #[.slice none 0 0] 57))
    have hBW : Below w.heap.size w w2 := below_then (below_then HB.out HB.out.size (below_alloc (Below.refl _ _) _)) (by have := HB.out.size; simp; omega) HB2.out
    have hS2 : HoldsSp (w1.heap.size + 1) w2.heap.size Bn v l0 w2 := by simpa using HS.out
    refine wpIn_rangeFunc_ownG rfl (by omega) (gf := 166) (lb := #[.pointer (some ⟨Bn, 0, none⟩)]) rfl trivial (enters_of Try.func166 (by kernel_rfl) rfl)
      (all_stops _ (by omega) (w1.heap.size + 1) Bn v l0 k hck (by have := HM.out.2; omega) w2 hS2) KeepR.trans (KeepR.put (Nat.le_refl _)) (Below.refl _ _) (fun _ => rfl)
      (fun pre W => (∃ v, Boxed W w1.heap.size 57 v ∧ W.ownsRow w2.heap.size 3 1 v pre.length (pre.map fun x => Value.int .i64 x.2) ∧ True) ∧ (Below w.heap.size w W ∧ w2.heap.size ≤ W.heap.size))
      (fun _ _ _ => False)
      (OwnFrom.and (Own.from (holdsRow_own w2.heap.size w1.heap.size 57 3 1 (fun pre : List (Int × Int) => pre.length) (fun pre => pre.map fun x => Value.int .i64 x.2) (fun pre v => True)) _) (OwnFrom.and (ownFrom_below (Nat.le_refl _) (by have := HB.out.size; omega)) (fun s A B row hs hg hr => Nat.le_trans hs hg.size)))
      (fun _ _ _ _ _ hs _ _ => hs)
      ⟨⟨_, hB2, World.ownsRow_nil _ _ _ _, trivial⟩, hBW, Nat.le_refl _⟩
      (fun x => { tmps := #[.slice A0 l0.length c0, undef, .slice none 0 0, .int .i64 0, .int .i64 0, .pointer (some ⟨w1.heap.size, 0, none⟩), undef, .int .i64 x.2, .slice A0 l0.length c0, .int .i64 0, .int .i64 0, .bool false, undef, .slice A0 l0.length c0, .func (.func 166) #[] #[.pointer (some ⟨Bn, 0, none⟩)], .int .i64 x.1, .int .i64 x.2, undef, undef, undef, undef, undef], defers := [] }) ?assign ?body ?done ?stop
    case assign =>
      intro l x W K hK
      gi_wp2
      exact hK
    case body =>
      rintro l pre x W ⟨⟨v, hv, hrow, _⟩, hB, hW2⟩ hlt
      have hc := hv.cell
      have hL := HM.out.2
      gi_wp2_with (gi_at_builtin; refine wpListIn_append_own _ rfl _ _ 57 rfl w2.heap.size 3 i0 (.int .i64 0) 1 8 Try.underlying57 hi hz0 hz1 hz2 rfl (by decide) _ _ _ rfl (hrow.alloc _) ⟨W.heap.size, 0, none⟩ 1 1 [.int .i64 x.2] rfl rfl (cell_one_new _ _ _) (by simp [Value.oneCell']) (by unfold maxLen; omega) (by omega) (by simp; omega) ?_; intro v' w3 hown' hgrow _; obtain ⟨g', cap', rfl⟩ := ownsRow_succ hown'; have hkr := keepR_appended (v' := .slice (some ⟨g', 0, none⟩) (pre.length + 1) cap') (B := w1.heap.size) (n0 := w1.heap.size + 1) (Nat.lt_succ_self _) hW2 hrow hgrow; obtain ⟨hv1, hv2, hr2, hk2, hb2⟩ := hv.appended (n₀ := w1.heap.size) (by decide) (own_weaken hrow (by omega)) (by omega) (Nat.le_refl _) (own_weaken hown' (by omega)) hgrow; have hr3 := hown'.kept (grownBy_setCell' w3 w1.heap.size (.slice (some ⟨g', 0, none⟩) (pre.length + 1) cap')) (.inr (hv1.not_row (by decide) hown').symm); have hc1 := hv1.cell; have hf1 := hv1.frozen)
      exact ⟨hk2.from _, hkr, ⟨⟨_, hv2, by simpa using hr3, trivial⟩, hB.trans (hb2.mono HB.out.size), Nat.le_trans hW2 hkr.1⟩⟩
    case done =>
      rintro D ys W hD rfl ⟨⟨v, hv, hrow, _⟩, hB, hW2⟩ hK
      have hc := hv.cell
      gi_wp2
      refine ⟨by simp, .inl ⟨_, _, rfl, run_takeDeferred hK, ?_⟩⟩
      have hr2 := ownsRow_putObj hrow (.deferred none) hK rfl
      refine ⟨_, results_tmp2 rfl _ _ _, v, rfl, ?_, hB.trans (belowK_b (w := w2) (by have := HB.out.size; omega) W D _ _ hD hK rfl rfl)⟩
      rw [numd_length, numd_map] at hr2
      exact Kd.R_lower (Kd.R_of_own (enc := Value.int .i64) (h1 := fun _ => rfl) hr2 (fun _ _ => trivial)) (by have := HB.out.size; omega)
    case stop =>
      rintro D c pre W _ _ h _
      exact h.elim
  · rw [if_neg he] at h2
    have h3 := Option.some.inj h2
    injection h3 with h4 h5
    subst h4; subst h5
    clear h2
    have he1 : (e0 == 0) = false := beq_eq_false_iff_ne.2 he
    have he2 : (e0 != 0) = true := bne_iff_ne.2 he
    go_enter Try.func120, Try.ntmps120
    go_wp2_with (go_at_call 132; refine HCk.out.mono ?_; rintro e w1 ⟨rfl, hb⟩; have HB := Aside0.mk hb; clear hb)
    go_ret2
    exact ⟨_, rfl, Kd.R_nil _ _ _ _ _, HB.out⟩
end Go.Proofs.Ytcabapilejagkaa.P
namespace Go.Proofs.Ytcabapilejagkaa.P
open Go.RowKit Go.Proofs.YtcabapilejagkaaW.PrintWords Go.Proofs.YtcabapilejagkaaW.PrintLast Go.Proofs.YtcabapilejagkaaW.PrintMore
set_option linter.unusedVariables false
set_option linter.unusedSimpArgs false
abbrev Sp := S108
abbrev Rsp := S144
def wfSp (s : Sp) : Prop := i64 s.f0 ∧ i64 s.f1
def wfSps (l : List Sp) : Prop := ∀ s ∈ l, wfSp s
theorem rdSp_at {l : List Sp} {i : Nat} (h : i < l.length) : rd_T108 l (i : Int) = l[i] := by unfold rd_T108; simp [List.getD, h]
def toR (s : Sp) : Rsp := ⟨s.f0, s.f1⟩
theorem in_eq (p : Int) : span_in.f p = some (decide (-1048576 ≤ p ∧ p ≤ 1048576)) := by
  unfold span_in.f
  by_cases h : p ≥ -1048576
  · rw [if_pos h]; congr 1; rw [decide_eq_decide]; omega
  · rw [if_neg h, decide_eq_false (by omega)]
def oneRight (first : Bool) (a n : Int) (s : Sp) : Prop :=
  0 ≤ s.f1 ∧ s.f1 ≤ 4096 ∧ s.f0 ≤ 2097152 ∧ (if first = true then -1048576 ≤ s.f0 else 0 ≤ s.f0) ∧ -1048576 ≤ a + s.f0 ∧ a + s.f0 ≤ 1048576 ∧ a + s.f0 + max (s.f1 - 1) 0 ≤ 1048576 ∧ n + s.f1 ≤ 4096
instance (f : Bool) (a n : Int) (s : Sp) : Decidable (oneRight f a n s) := by unfold oneRight; exact inferInstance
def spRight : Bool → Int → Int → List Sp → Bool
  | _, _, _, [] => true
  | f, a, n, s :: r => decide (oneRight f a n s) && spRight false (a + s.f0 + s.f1) (n + s.f1) r
theorem mx_max (a b : Int) : mx a b = max a b := by unfold mx; omega
theorem right_j1 (k : Nat) (a n x0 x1 : Int) (l : List Sp) (L i : Int) (ha : -1048576 ≤ a ∧ a ≤ 1048577) (hn : 0 ≤ n ∧ n ≤ 4096) (h0 : -1048576 ≤ x0 ∧ x0 ≤ 2097152) (h1 : 0 ≤ x1 ∧ x1 ≤ 4096) :
    span_right.j1 (k + 1) a n l L i false x0 x1 = if -1048576 ≤ a + x0 ∧ a + x0 ≤ 1048576 ∧ a + x0 + max (x1 - 1) 0 ≤ 1048576 ∧ n + x1 ≤ 4096 then span_right.l0 k (a + x0 + x1) (n + x1) l L (wrap64 (i + 1)) else some false := by
  simp only [span_right.j1]
  rw [if_neg (by decide), wrap_id (x := a + x0) (by omega) (by omega), in_eq]
  simp only [Option.bind_some]
  by_cases c1 : -1048576 ≤ a + x0 ∧ a + x0 ≤ 1048576
  · rw [if_pos (by simpa using c1), wrap_id (x := x1 - 1) (by omega) (by omega), mx_max, wrap_id (x := a + x0 + max (x1 - 1) 0) (by omega) (by omega), in_eq]
    simp only [Option.bind_some]
    by_cases c2 : a + x0 + max (x1 - 1) 0 ≤ 1048576
    · rw [if_pos (by simp; omega), wrap_id (x := n + x1) (by omega) (by omega)]
      by_cases c3 : n + x1 ≤ 4096
      · rw [if_neg (by omega), if_pos ⟨c1.1, c1.2, c2, c3⟩, wrap_id (x := a + x0 + x1) (by omega) (by omega)]
      · rw [if_pos (by omega), if_neg (by omega)]
    · rw [if_neg (by simp; omega), if_neg (by omega)]
  · rw [if_neg (by simpa using c1), if_neg (by omega)]
theorem right_loop (l : List Sp) (hw : wfSps l) (hm : l.length ≤ 4611686018427387904) : ∀ (d k i : Nat) (a n : Int), l.length - i = d → 2 * d < k → i ≤ l.length → -1048576 ≤ a ∧ a ≤ 1048577 → 0 ≤ n ∧ n ≤ 4096 →
    span_right.l0 k a n l (l.length : Int) (i : Int) = some (spRight (decide (i = 0)) a n (l.drop i)) := by
  intro d
  induction d with
  | zero =>
    intro k i a n hd hk hi ha hn
    obtain ⟨k, rfl⟩ : ∃ m, k = m + 1 := ⟨k - 1, by omega⟩
    simp only [span_right.l0]
    rw [if_neg (by omega), drop_end (by omega)]; rfl
  | succ d ih =>
    intro k i a n hd hk hi ha hn
    obtain ⟨k, rfl⟩ : ∃ m, k = m + 2 := ⟨k - 2, by omega⟩
    have hlt : i < l.length := by omega
    have hs := hw _ (List.getElem_mem hlt)
    simp only [span_right.l0]
    rw [if_pos (by omega), if_pos (by omega), if_pos (by omega), rdSp_at hlt, drop_at hlt]
    generalize l[i] = s at hs
    have hbad : ¬ oneRight (decide (i = 0)) a n s → some false = some (spRight (decide (i = 0)) a n (s :: l.drop (i + 1))) := fun h => by simp only [spRight, decide_eq_false h, Bool.false_and]
    have hf : ∀ L' : Int, span_right.j1 (k + 1) a n l (l.length : Int) (i : Int) true s.f0 s.f1 = some false := fun _ => by simp only [span_right.j1]; simp
    have hf := hf 0
    have hgo : (-1048576 ≤ s.f0 ∧ s.f0 ≤ 2097152) → (0 ≤ s.f1 ∧ s.f1 ≤ 4096) → (if decide (i = 0) = true then -1048576 ≤ s.f0 else 0 ≤ s.f0) → span_right.j1 (k + 1) a n l (l.length : Int) (i : Int) false s.f0 s.f1 = some (spRight (decide (i = 0)) a n (s :: l.drop (i + 1))) := by
      intro h0 h1 h2
      rw [right_j1 k a n s.f0 s.f1 l _ _ ha hn h0 h1]
      by_cases c : -1048576 ≤ a + s.f0 ∧ a + s.f0 ≤ 1048576 ∧ a + s.f0 + max (s.f1 - 1) 0 ≤ 1048576 ∧ n + s.f1 ≤ 4096
      · rw [if_pos c, wrap_succ (by omega), ih k (i + 1) _ _ (by omega) (by omega) (by omega) (by omega) (by omega)]
        have : oneRight (decide (i = 0)) a n s := ⟨h1.1, h1.2, h0.2, h2, c.1, c.2.1, c.2.2.1, c.2.2.2⟩
        simp only [spRight, decide_eq_true this, Bool.true_and]
        rfl
      · rw [if_neg c]; exact hbad (fun h => c ⟨h.2.2.2.2.1, h.2.2.2.2.2.1, h.2.2.2.2.2.2.1, h.2.2.2.2.2.2.2⟩)
    by_cases c1 : s.f0 > 2097152
    · rw [if_pos c1, hf]; exact hbad (fun h => by have := h.2.2.1; omega)
    rw [if_neg c1]
    by_cases c2 : s.f1 < 0
    · rw [if_pos c2, hf]; exact hbad (fun h => by have := h.1; omega)
    rw [if_neg c2]
    by_cases c3 : s.f1 > 4096
    · rw [if_pos c3, hf]; exact hbad (fun h => by have := h.2.1; omega)
    rw [if_neg c3]
    by_cases c4 : s.f0 < 0
    · rw [if_pos c4]
      by_cases c5 : i = 0
      · subst c5
        rw [if_neg (by omega), in_eq]
        simp only [Option.bind_some]
        by_cases c6 : -1048576 ≤ s.f0 ∧ s.f0 ≤ 1048576
        · rw [decide_eq_true c6, Bool.not_true]; exact hgo (by omega) (by omega) (by simp; exact c6.1)
        · rw [decide_eq_false c6, Bool.not_false, hf]; exact hbad (fun h => by have h4 := h.2.2.2.1; rw [if_pos (by simp)] at h4; omega)
      · rw [if_pos (by omega), hf]; exact hbad (fun h => by have h4 := h.2.2.2.1; rw [if_neg (by simp [c5])] at h4; omega)
    · rw [if_neg c4]; exact hgo (by omega) (by omega) (by split <;> omega)
theorem right_eq (l : List Sp) (hw : wfSps l) (hm : l.length ≤ 4611686018427387904) (k : Nat) (hk : 2 * l.length < k) : span_right.f k l = some (spRight true 0 0 l) := by
  unfold span_right.f
  have := right_loop l hw hm l.length k 0 0 0 (by omega) hk (by omega) (by omega) (by omega)
  simpa using this
def spCheck (l : List Sp) : Int := if l.length > 1024 then 12 else if spRight true 0 0 l = true then 0 else 20
theorem check_eq (l : List Sp) (hw : wfSps l) (k : Nat) (hk : 2048 < k) : span_Check.f k l = some (spCheck l) := by
  unfold span_Check.f spCheck
  by_cases h : l.length > 1024
  · rw [if_pos (by omega), if_pos h]
  · rw [if_neg (by omega), if_neg h, right_eq l hw (by omega) k (by omega)]
    simp only [Option.bind_some]
    split <;> rfl
end Go.Proofs.Ytcabapilejagkaa.P
namespace Go.Proofs.Ytcabapilejagkaa.P
open Go.RowKit Go.Proofs.YtcabapilejagkaaW.PrintWords Go.Proofs.YtcabapilejagkaaW.PrintLast Go.Proofs.YtcabapilejagkaaW.PrintMore
set_option linter.unusedVariables false
set_option linter.unusedSimpArgs false
def run : Int → Nat → List Int
  | _, 0 => []
  | a, n + 1 => a :: run (a + 1) n
theorem run_length : ∀ (n : Nat) (a : Int), (run a n).length = n
  | 0, _ => rfl
  | n + 1, a => by show (run (a + 1) n).length + 1 = n + 1; rw [run_length n]
def plN : Int → List Sp → List Int
  | _, [] => []
  | a, s :: r => run (a + s.f0) s.f1.toNat ++ plN (a + s.f0 + s.f1) r
def cntN : List Sp → Int
  | [] => 0
  | s :: r => s.f1 + cntN r
theorem cntN_snoc (s : Sp) : ∀ (l : List Sp), cntN (l ++ [s]) = cntN l + s.f1
  | [] => by simp [cntN]
  | x :: l => by simp [cntN, cntN_snoc s l]; omega
theorem spRight_pos : ∀ (l : List Sp) (f : Bool) (a n : Int), spRight f a n l = true → ∀ s ∈ l, 0 ≤ s.f1 ∧ s.f1 ≤ 4096
  | [], _, _, _, _, s, hs => by simp at hs
  | x :: l, f, a, n, h, s, hs => by
    simp only [spRight, Bool.and_eq_true, decide_eq_true_eq] at h
    rcases List.mem_cons.1 hs with rfl | hs
    · exact ⟨h.1.1, h.1.2.1⟩
    · exact spRight_pos l _ _ _ h.2 s hs
theorem plN_length : ∀ (l : List Sp) (a : Int), (∀ s ∈ l, 0 ≤ s.f1) → ((plN a l).length : Int) = cntN l
  | [], _, _ => rfl
  | s :: l, a, h => by
    have := plN_length l (a + s.f0 + s.f1) (fun x hx => h x (List.mem_cons_of_mem _ hx))
    have := h s (List.mem_cons_self ..)
    simp only [plN, cntN, List.length_append, run_length]
    omega
theorem runAt_run : ∀ (n : Nat) (a : Int), -4611686018427387904 ≤ a → a + n ≤ 4611686018427387904 → runAt a n = run a n ∧ runEnd a n = a + n
  | 0, a, _, _ => ⟨rfl, by simp [runEnd]⟩
  | n + 1, a, h0, h1 => by
    have h2 : a + 1 + (n : Int) ≤ 4611686018427387904 := by omega
    obtain ⟨e1, e2⟩ := runAt_run n (a + 1) (by omega) h2
    simp only [runAt, runEnd, run]
    rw [wrap_id (by omega) (by omega), e1, e2]
    exact ⟨rfl, by omega⟩
theorem placesAt_plN : ∀ (l : List Sp) (f : Bool) (a n : Int), spRight f a n l = true → placesAt a l = plN a l
  | [], _, _, _, _ => rfl
  | s :: l, f, a, n, h => by
    simp only [spRight, Bool.and_eq_true, decide_eq_true_eq] at h
    obtain ⟨h1, h2, h3, h4, h5, h6, h7, h8⟩ := h.1
    have he : ((s.f1.toNat : Nat) : Int) = s.f1 := by omega
    have hb := runAt_run s.f1.toNat (a + s.f0) (by omega) (by omega)
    simp only [placesAt, plN]
    rw [wrap_id (by omega) (by omega), hb.1, hb.2, he, placesAt_plN l _ _ _ h.2]
theorem cntN_le : ∀ (l : List Sp) (f : Bool) (a n : Int), spRight f a n l = true → n ≤ 4096 → n + cntN l ≤ 4096
  | [], _, _, _, _, h => by simp [cntN]; exact h
  | s :: l, f, a, n, h, _ => by
    simp only [spRight, Bool.and_eq_true, decide_eq_true_eq] at h
    have := cntN_le l _ _ _ h.2 h.1.2.2.2.2.2.2.2
    simp only [cntN]; omega
def rises : Int → List Int → Bool
  | _, [] => true
  | e, p :: r => decide (e ≤ p ∧ p ≤ 1048576) && rises (p + 1) r
def canonOne (first : Bool) (s : Sp) : Prop := s.f1 ≠ 0 ∧ (first = false → s.f0 ≠ 0)
instance (f : Bool) (s : Sp) : Decidable (canonOne f s) := by unfold canonOne; exact inferInstance
end Go.Proofs.Ytcabapilejagkaa.P
namespace Go.Proofs.Ytcabapilejagkaa.P
open Go.RowKit Go.Proofs.YtcabapilejagkaaW.PrintWords Go.Proofs.YtcabapilejagkaaW.PrintLast Go.Proofs.YtcabapilejagkaaW.PrintMore
set_option linter.unusedVariables false
set_option linter.unusedSimpArgs false
def placesRes (l : List Sp) : List Int × Int := if spCheck l = 0 then (plN 0 l, 0) else ([], spCheck l)
theorem spCheck_zero {l : List Sp} (h : spCheck l = 0) : l.length ≤ 1024 ∧ spRight true 0 0 l = true := by
  unfold spCheck at h
  split at h
  · cases h
  · split at h
    · exact ⟨by omega, by assumption⟩
    · cases h
theorem places_len {l : List Sp} (h : spCheck l = 0) : (plN 0 l).length ≤ 4096 := by
  have hr := (spCheck_zero h).2
  have h1 := plN_length l 0 (fun s hs => (spRight_pos l _ _ _ hr s hs).1)
  have h2 := cntN_le l _ _ _ hr (by omega)
  omega
theorem places_eq (l : List Sp) (hw : wfSps l) (k : Nat) (hk : 2048 < k) : span_Places.f k l = some (placesRes l) := by
  unfold span_Places.f placesRes
  rw [check_eq l hw k hk]
  simp only [Option.bind_some]
  by_cases h : spCheck l = 0
  · have h0 := spCheck_zero h
    rw [if_pos h, if_pos h, placesAt_plN l _ _ _ h0.2, if_pos ⟨by omega, by have := places_len h; omega⟩]
  · rw [if_neg h, if_neg h]
theorem rises_of_right {l : List Sp} (h : spCheck l = 0) : rises (-1048576) (plN 0 l) = true := by
  have hr := (spCheck_zero h).2
  have hrun : ∀ (m : Nat) (b e : Int), e ≤ b → (m = 0 ∨ b + m - 1 ≤ 1048576) → ∀ r, rises (b + m) r = true ∨ (m = 0 ∧ rises e r = true) → rises e (run b m ++ r) = true := by
    intro m
    induction m with
    | zero =>
      intro b e h1 h2 r h3
      rcases h3 with h3 | h3
      · simp only [run, List.nil_append]
        have hmono : ∀ (r : List Int) (e e' : Int), e ≤ e' → rises e' r = true → rises e r = true := by
          intro r
          cases r with
          | nil => intros; rfl
          | cons x r => intro e e' he h; simp only [rises, Bool.and_eq_true, decide_eq_true_eq] at h ⊢; exact ⟨⟨by omega, h.1.2⟩, h.2⟩
        exact hmono r e _ (by omega) h3
      · exact h3.2
    | succ m ih =>
      intro b e h1 h2 r h3
      simp only [run, List.cons_append, rises, Bool.and_eq_true, decide_eq_true_eq]
      refine ⟨⟨h1, by omega⟩, ih (b + 1) (b + 1) (Int.le_refl _) (by omega) r (Or.inl ?_)⟩
      rcases h3 with h3 | h3
      · rw [show b + 1 + (m : Int) = b + ((m + 1 : Nat) : Int) by omega]; exact h3
      · omega
  have : ∀ (l : List Sp) (f : Bool) (a n e : Int), spRight f a n l = true → (if f = true then a = 0 ∧ e = -1048576 else e ≤ a) → rises e (plN a l) = true := by
    intro l
    induction l with
    | nil => intros; rfl
    | cons s l ih =>
      intro f a n e h he
      simp only [spRight, Bool.and_eq_true, decide_eq_true_eq] at h
      obtain ⟨h1, h2, h3, h4, h5, h6, h7, h8⟩ := h.1
      have ee : ((s.f1.toNat : Nat) : Int) = s.f1 := by omega
      have hle : e ≤ a + s.f0 := by cases f <;> simp at he h4 <;> omega
      simp only [plN]
      refine hrun s.f1.toNat (a + s.f0) e hle (by omega) _ ?_
      rw [ee]
      exact Or.inl (ih false _ _ _ h.2 (by simp))
  exact this l true 0 0 _ hr (by simp)
theorem rises_i64 {l : List Int} (h : rises (-1048576) l = true) : ∀ x ∈ l, -1048576 ≤ x ∧ x ≤ 1048576 := by
  have : ∀ (l : List Int) (e : Int), -1048576 ≤ e → rises e l = true → ∀ x ∈ l, -1048576 ≤ x ∧ x ≤ 1048576 := by
    intro l
    induction l with
    | nil => intro e _ _ x hx; cases hx
    | cons y l ih =>
      intro e he h x hx
      simp only [rises, Bool.and_eq_true, decide_eq_true_eq] at h
      rcases List.mem_cons.1 hx with rfl | hx
      · omega
      · exact ih (y + 1) (by omega) h.2 x hx
  exact this l _ (Int.le_refl _) h
end Go.Proofs.Ytcabapilejagkaa.P
namespace Go.Proofs.Ytcabapilejagkaa.P
open Go.RowKit Go.Proofs.YtcabapilejagkaaW.PrintWords Go.Proofs.YtcabapilejagkaaW.PrintLast Go.Proofs.YtcabapilejagkaaW.PrintMore
attribute [local go_sem] max2_int min2_int max_two min_two max_three min_three max_four min_four
set_option linter.unusedVariables false
set_option linter.unusedSimpArgs false
def pairs_Zip_int64.l0 : Nat → List Int → List (S30) → List Int → Int → Int → Option ((List (S30)) × Int)
 | 0, _, _, _, _, _ => none
 | k + 1, x1, x8, x26, x27, x28 => if x28 < x27 then (if 0 ≤ x28 then (if x28 < (x26.length : Int) then (if x28 < (x1.length : Int) then (if x8.length < 8796093022208 then (pairs_Zip_int64.l0 k x1 (x8 ++ [(⟨rd x26 x28, rd x1 x28⟩ : S30)]) x26 x27 (wrap64 (x28 + 1))) else (none)) else (none)) else (none)) else (none)) else (some (x8, 0))
def pairs_Zip_int64.f (k : Nat) (l0 : List (S108)) (l1 : List Int) : Option ((List (S30)) × Int) := (span_Places.f k l0).bind fun bt101 => (if bt101.2 = 0 then (if (bt101.1.length : Int) = (l1.length : Int) then (pairs_Zip_int64.l0 k l1 ([] : List (S30)) bt101.1 (bt101.1.length : Int) 0) else (some (([] : List (S30)), 10))) else (some (([] : List (S30)), bt101.2)))
set_option maxHeartbeats 8000000 in
set_option maxRecDepth 100000 in
theorem pairs_Zip_int64.calls (k : Nat) (A0 : Option Addr) (c0 : Nat) (l0 : List (S108)) (A1 : Option Addr) (c1 : Nat) (l1 : List Int) (r1 : List (S30)) (r2 : Int) (w : World) (hr0 : Kd.C k108 w A0 l0.length l0) (hc0 : l0.length ≤ c0) (hr1 : Kd.C (Kd.int .i64) w A1 l1.length l1) (hc1 : l1.length ≤ c1) (h : pairs_Zip_int64.f k l0 l1 = some (r1, r2)) :
  Calls Try.prog 64 #[.slice A0 l0.length c0, .slice A1 l1.length c1] w fun e w' => ∃ v0_ : Value, e = .returned (.tuple #[v0_, .int .i64 r2]) ∧ Kd.R k30 30 w' w.heap.size (fun _ => True) v0_ r1 ∧ Below w.heap.size w w' := by
 have hu30 := Try.underlying30
 have HR0 := Aside0.mk hr0
 have HC0 := Aside0.mk hc0
 clear hr0 hc0
 have HR1 := Aside0.mk hr1
 have HC1 := Aside0.mk hc1
 clear hr1 hc1
 have HB := Aside0.mk (Below.refl w.heap.size w)
 have H : ((span_Places.f k l0).bind fun bt101 => (if bt101.2 = 0 then (if (bt101.1.length : Int) = (l1.length : Int) then (pairs_Zip_int64.l0 k l1 ([] : List (S30)) bt101.1 (bt101.1.length : Int) 0) else (some (([] : List (S30)), 10))) else (some (([] : List (S30)), bt101.2)))) = some (r1, r2) := h
 clear h
 replace H := Option.bind_eq_some_iff.mp H
 obtain ⟨⟨t101, t102⟩, A30, H⟩ := H
 replace H : (if t102 = 0 then (if (t101.length : Int) = (l1.length : Int) then (pairs_Zip_int64.l0 k l1 ([] : List (S30)) t101 (t101.length : Int) 0) else (some (([] : List (S30)), 10))) else (some (([] : List (S30)), t102))) = some (r1, r2) := H
 have A3 := Aside0.mk A30
 clear A30
 by_cases c4 : t102 = 0
 ·rw [if_pos c4] at H
  have c4b0 : (t102 == 0) = true := beq_iff_eq.mpr c4
  have c4b1 : (t102 != 0) = false := bne_eq_false_iff_eq.mpr c4
  clear c4
  by_cases c5 : (t101.length : Int) = (l1.length : Int)
  ·rw [if_pos c5] at H
   have c5b0 : ((t101.length : Int) == (l1.length : Int)) = true := beq_iff_eq.mpr c5
   have c5b1 : ((t101.length : Int) != (l1.length : Int)) = false := bne_eq_false_iff_eq.mpr c5
   have c5b2 : (t101.length == l1.length) = true := by first | simpa using c5 | (simp at c5 ⊢; omega)
   clear c5
   have H' := Aside0.mk H
   clear H
   go_enter Try.func64, Try.ntmps64
   go_wp2_with (first | ((with_reducible refine gate_callee (f := 120) rfl ?_); refine goesL_ (some 13) rfl rfl Try.func120 (by kernel_rfl) rfl #[.slice A0 l0.length c0] rfl (by (try simp only [List.map_toArray, List.map_cons, List.map_nil]); first | done | rfl | (simp only [List.length_drop, List.length_take]; rfl)) ?_; (with_reducible refine (span_Places.calls k _ _ l0 t101 t102 _ ?side1 ?side2 A3.out).mono ?_); (case side1 => repeat (first | exact HR0.out | (with_reducible refine Kd.C_alloc ?_ _) | (with_reducible refine Kd.C_drewN ?_ _) | (with_reducible refine Kd.C_drew ?_))); (case side2 => exact HC0.out); rintro e w6 ⟨v103, rfl, ho0, hb⟩; refine ⟨_, rfl, ?_⟩; have n0_ := Aside0.mk (Kd.R_lower ho0 (below_size (by repeat (first | (with_reducible first | exact HB.out | apply below_alloc | apply pw_below_drewN | apply below_drew1) | exact HB.out)))); have n1_ := Aside0.mk (below_step (by repeat (first | (with_reducible first | exact HB.out | apply below_alloc | apply pw_below_drewN | apply below_drew1) | exact HB.out)) hb); clear HB; have HO104 := n0_; have HB := n1_; clear n0_ n1_; (try clear hb); (try clear hb2); (try clear hk); (try clear hi); (try clear ho0); clear A3; obtain ⟨Ao7, co7, eo7⟩ := Kd.R_slice HO104.out; subst eo7))
   go_loopg [8, 28] k (fun kq v8 v28 w' => ∃ (x8_1 : List (S30)) (x28_1 : Int), v28 = .int .i64 x28_1 ∧ Aside0 (pairs_Zip_int64.l0 kq l1 x8_1 t101 (t101.length : Int) x28_1 = some (r1, r2)) ∧ Aside0 (kq ≤ k) ∧ Aside0 (Kd.R k30 30 w' w.heap.size (fun _ => True) v8 x8_1) ∧ Aside0 (Kd.R (Kd.int .i64) 3 w' w.heap.size (fun _ => True) (.slice Ao7 t101.length co7) t101) ∧ Aside0 (Below w.heap.size w w'))
   case atStart => exact ⟨(([] : List (S30))), (0), (by first | rfl | (simp; done) | (simp [*]; done)), H', ⟨Nat.le_refl _⟩, ⟨by first | exact Kd.R_nil _ _ _ _ _ | exact Kd.N_nil _ _ _ _ _ | exact Kd.V_nil _ _ _ _ _ | exact Kd.Q_nil _ _ _ _ _ | exact Kd.S_nil _ _ _ _ _⟩, ⟨by (with_reducible repeat (first | apply Kd.R_alloc | apply Kd.R_drewN | apply Kd.R_drew)); exact HO104.out⟩, ⟨by repeat (first | (with_reducible first | exact HB.out | apply below_alloc | apply pw_below_drewN | apply below_drew1) | exact HB.out)⟩⟩
   case round =>
    clear H'
    try clear c1
    try clear p2
    try clear c4
    try clear c4b0
    try clear c4b1
    try clear c5
    try clear c5b0
    try clear c5b1
    try clear c5b2
    try clear c6
    obtain ⟨x8_1, x28_1, rfl, HA, HK1, HO_8, HO_26, HB⟩ := hrel
    cases gk with
    | zero => exact absurd HA.out (by simp [pairs_Zip_int64.l0])
    | succ k1 =>
     have H := HA.out
     clear HA
     simp only [pairs_Zip_int64.l0] at H
     by_cases c8 : x28_1 < (t101.length : Int)
     ·rw [if_pos c8] at H
      have c8b0 : decide (x28_1 < (t101.length : Int)) = true := decide_eq_true c8
      clear c8
      by_cases c9 : 0 ≤ x28_1
      ·rw [if_pos c9] at H
       have c9b0 : decide (0 ≤ x28_1) = true := decide_eq_true c9
       clear c9
       by_cases c10 : x28_1 < (t101.length : Int)
       ·rw [if_pos c10] at H
        have c10b0 : decide (x28_1 < (t101.length : Int)) = true := decide_eq_true c10
        clear c10
        by_cases c11 : x28_1 < (l1.length : Int)
        ·rw [if_pos c11] at H
         have c11b0 : decide (x28_1 < (l1.length : Int)) = true := decide_eq_true c11
         clear c11
         by_cases c12 : x8_1.length < 8796093022208
         ·rw [if_pos c12] at H
          have LMc12 := Aside0.mk c12
          clear c12
          obtain ⟨y107, hy107⟩ : ∃ y_ : List (S30), y_ = (x8_1 ++ [(⟨rd t101 x28_1, rd l1 x28_1⟩ : S30)]) := ⟨_, rfl⟩
          replace H : (pairs_Zip_int64.l0 k1 l1 y107 t101 (t101.length : Int) (wrap64 (x28_1 + 1))) = some (r1, r2) := by first | (rw [hy107]; with_reducible exact H) | (have H2_ := (Option.bind_some _ _).symm.trans H; rw [hy107]; with_reducible exact H2_) | (have H2_ := (Option.bind_some _ _).symm.trans H; with_reducible exact H2_) | with_reducible exact H | (rw [hy107]; exact H) | exact H
          have Ny107 := Aside0.mk hy107
          clear hy107
          have H' := Aside0.mk H
          clear H
          have p105 : 0 ≤ (x28_1 : Int) := of_decide_eq_true (by first | (with_reducible assumption) | assumption)
          have q105 : x28_1 < (t101.length : Int) := of_decide_eq_true (by first | (with_reducible assumption) | assumption)
          obtain ⟨ad105, e105, hx105_0⟩ := Kd.at_int (Kd.R_reads' HO_26.out).2.2 x28_1 p105 q105
          cases e105
          replace p105 := eq_true p105
          replace q105 := eq_true q105
          have p106 : 0 ≤ (x28_1 : Int) := of_decide_eq_true (by first | (with_reducible assumption) | assumption)
          have q106 : x28_1 < (l1.length : Int) := of_decide_eq_true (by first | (with_reducible assumption) | assumption)
          obtain ⟨ad106, e106, hx106_0⟩ := Kd.at_int HR1.out x28_1 p106 q106
          cases e106
          replace hx106_0 := (HB.out.cell (World.block_lt_of_cell? w _ hx106_0)).trans hx106_0
          replace p106 := eq_true p106
          replace q106 := eq_true q106
          go_wp2_with (first | ((with_reducible refine gate_builtin (b := .append) (xs := #[.tmp 33, .tmp 40]) rfl ?_); at_builtin; refine Kd.R_append k30 (w0 := w) w.heap.size rfl (.tmp 33) (.tmp 40) 22 30 (.agg #[(.int .i64 0), (.int .i64 0)]) 16 rfl Try.underlying22 info30 rfl (by decide) (by omega) u8 x8_1 (⟨rd t101 x28_1, rd l1 x28_1⟩ : S30) [.int .i64 (rd t101 x28_1), .int .i64 (rd l1 x28_1)] (fun _ => True) (fun _ => False) rfl rfl ?aP (fun _ hk => hk.elim) ?aF ?aO ?aB ?aS ?aL ?_; (case aP => exact k30_mkM _ _ _ (⟨rd t101 x28_1, rd l1 x28_1⟩ : S30)); (case aB => exact (by repeat (first | (with_reducible first | exact HB.out | apply below_alloc | apply pw_below_drewN | apply below_drew1) | exact HB.out))); (case aF => exact (fun _ _ => trivial)); (case aO => exact (by (with_reducible repeat (first | apply Kd.R_alloc | apply Kd.R_drewN | apply Kd.R_drew)); exact HO_8.out)); (case aS => exact (below_size (by repeat (first | (with_reducible first | exact HB.out | apply below_alloc | apply pw_below_drewN | apply below_drew1) | exact HB.out)))); (case aL => have := LMc12.out; omega); intro v108 w13 ho hb hg hat; rw [← Ny107.out] at ho; have n0_ := Aside0.mk (Kd.R_over' (by (with_reducible repeat (first | apply Kd.R_alloc | apply Kd.R_drewN | apply Kd.R_drew)); exact HO_26.out) (Kd.R_typed (by (with_reducible repeat (first | apply Kd.R_alloc | apply Kd.R_drewN | apply Kd.R_drew)); exact HO_8.out)) (by decide) hg); have n1_ := Aside0.mk (hb); have n2_ := Aside0.mk (ho); clear HO_26; clear HB; clear HO_8; have HO_26 := n0_; have HB := n1_; have HO109 := n2_; clear n0_ n1_ n2_; clear ho hb hg hat))
          go_roundg k1
          case measure => have := HK1.out; omega
          case rel => exact ⟨(y107), (wrap64 (x28_1 + 1)), (by first | rfl | (simp; done) | (simp [*]; done)), H', ⟨by have := HK1.out; omega⟩, ⟨by (with_reducible repeat (first | apply Kd.R_alloc | apply Kd.R_drewN | apply Kd.R_drew)); exact HO109.out⟩, ⟨by (with_reducible repeat (first | apply Kd.R_alloc | apply Kd.R_drewN | apply Kd.R_drew)); exact HO_26.out⟩, ⟨by repeat (first | (with_reducible first | exact HB.out | apply below_alloc | apply pw_below_drewN | apply below_drew1) | exact HB.out)⟩⟩
         ·rw [if_neg c12] at H
          exact absurd H (by simp)
        ·rw [if_neg c11] at H
         exact absurd H (by simp)
       ·rw [if_neg c10] at H
        exact absurd H (by simp)
      ·rw [if_neg c9] at H
       exact absurd H (by simp)
     ·rw [if_neg c8] at H
      have c8b0 : decide (x28_1 < (t101.length : Int)) = false := decide_eq_false c8
      clear c8
      simp only [Option.some.injEq, Prod.mk.injEq] at H
      obtain ⟨rfl, rfl⟩ := H
      go_wp2
      go_ret2
      exact ⟨_, by first | rfl | (simp [errW_none, errW_some] <;> rfl) | (simp [*, errW_none, errW_some] <;> rfl), by (with_reducible repeat (first | apply Kd.R_alloc | apply Kd.R_drewN | apply Kd.R_drew)); exact HO_8.out, by repeat (first | (with_reducible first | exact HB.out | apply below_alloc | apply pw_below_drewN | apply below_drew1) | exact HB.out)⟩
  ·rw [if_neg c5] at H
   have c5b0 : ((t101.length : Int) == (l1.length : Int)) = false := beq_eq_false_iff_ne.mpr c5
   have c5b1 : ((t101.length : Int) != (l1.length : Int)) = true := bne_iff_ne.mpr c5
   have c5b2 : (t101.length == l1.length) = false := by first | simpa using c5 | (simp at c5 ⊢; omega)
   simp only [Option.some.injEq, Prod.mk.injEq] at H
   obtain ⟨rfl, rfl⟩ := H
   go_enter Try.func64, Try.ntmps64
   go_wp2_with (first | ((with_reducible refine gate_callee (f := 120) rfl ?_); refine goesL_ (some 13) rfl rfl Try.func120 (by kernel_rfl) rfl #[.slice A0 l0.length c0] rfl (by (try simp only [List.map_toArray, List.map_cons, List.map_nil]); first | done | rfl | (simp only [List.length_drop, List.length_take]; rfl)) ?_; (with_reducible refine (span_Places.calls k _ _ l0 t101 t102 _ ?side1 ?side2 A3.out).mono ?_); (case side1 => repeat (first | exact HR0.out | (with_reducible refine Kd.C_alloc ?_ _) | (with_reducible refine Kd.C_drewN ?_ _) | (with_reducible refine Kd.C_drew ?_))); (case side2 => exact HC0.out); rintro e w14 ⟨v103, rfl, ho0, hb⟩; refine ⟨_, rfl, ?_⟩; have n0_ := Aside0.mk (Kd.R_lower ho0 (below_size (by repeat (first | (with_reducible first | exact HB.out | apply below_alloc | apply pw_below_drewN | apply below_drew1) | exact HB.out)))); have n1_ := Aside0.mk (below_step (by repeat (first | (with_reducible first | exact HB.out | apply below_alloc | apply pw_below_drewN | apply below_drew1) | exact HB.out)) hb); clear HB; have HO104 := n0_; have HB := n1_; clear n0_ n1_; (try clear hb); (try clear hb2); (try clear hk); (try clear hi); (try clear ho0); clear A3; obtain ⟨Ao15, co15, eo15⟩ := Kd.R_slice HO104.out; subst eo15))
   go_ret2
   exact ⟨_, by first | rfl | (simp [errW_none, errW_some] <;> rfl) | (simp [*, errW_none, errW_some] <;> rfl), by first | exact Kd.R_nil _ _ _ _ _ | exact Kd.N_nil _ _ _ _ _ | exact Kd.V_nil _ _ _ _ _ | exact Kd.Q_nil _ _ _ _ _ | exact Kd.S_nil _ _ _ _ _, by repeat (first | (with_reducible first | exact HB.out | apply below_alloc | apply pw_below_drewN | apply below_drew1) | exact HB.out)⟩
 ·rw [if_neg c4] at H
  have c4b0 : (t102 == 0) = false := beq_eq_false_iff_ne.mpr c4
  have c4b1 : (t102 != 0) = true := bne_iff_ne.mpr c4
  simp only [Option.some.injEq, Prod.mk.injEq] at H
  obtain ⟨rfl, rfl⟩ := H
  go_enter Try.func64, Try.ntmps64
  go_wp2_with (first | ((with_reducible refine gate_callee (f := 120) rfl ?_); refine goesL_ (some 13) rfl rfl Try.func120 (by kernel_rfl) rfl #[.slice A0 l0.length c0] rfl (by (try simp only [List.map_toArray, List.map_cons, List.map_nil]); first | done | rfl | (simp only [List.length_drop, List.length_take]; rfl)) ?_; (with_reducible refine (span_Places.calls k _ _ l0 t101 t102 _ ?side1 ?side2 A3.out).mono ?_); (case side1 => repeat (first | exact HR0.out | (with_reducible refine Kd.C_alloc ?_ _) | (with_reducible refine Kd.C_drewN ?_ _) | (with_reducible refine Kd.C_drew ?_))); (case side2 => exact HC0.out); rintro e w16 ⟨v103, rfl, ho0, hb⟩; refine ⟨_, rfl, ?_⟩; have n0_ := Aside0.mk (Kd.R_lower ho0 (below_size (by repeat (first | (with_reducible first | exact HB.out | apply below_alloc | apply pw_below_drewN | apply below_drew1) | exact HB.out)))); have n1_ := Aside0.mk (below_step (by repeat (first | (with_reducible first | exact HB.out | apply below_alloc | apply pw_below_drewN | apply below_drew1) | exact HB.out)) hb); clear HB; have HO104 := n0_; have HB := n1_; clear n0_ n1_; (try clear hb); (try clear hb2); (try clear hk); (try clear hi); (try clear ho0); clear A3))
  go_ret2
  exact ⟨_, by first | rfl | (simp [errW_none, errW_some] <;> rfl) | (simp [*, errW_none, errW_some] <;> rfl), by first | exact Kd.R_nil _ _ _ _ _ | exact Kd.N_nil _ _ _ _ _ | exact Kd.V_nil _ _ _ _ _ | exact Kd.Q_nil _ _ _ _ _ | exact Kd.S_nil _ _ _ _ _, by repeat (first | (with_reducible first | exact HB.out | apply below_alloc | apply pw_below_drewN | apply below_drew1) | exact HB.out)⟩
def pairs_add.f (a0 : Int) (a1 : Int) : Option (Int × Bool) := some (wrap64 (a0 + a1), ((decide ((wrap64 (a0 + a1)) > a0)) == (decide (a1 > 0))))
set_option maxHeartbeats 8000000 in
set_option maxRecDepth 100000 in
theorem pairs_add.calls (a0 : Int) (a1 : Int) (r1 : Int) (r2 : Bool) (w : World) (h : pairs_add.f a0 a1 = some (r1, r2)) :
  Calls Try.prog 121 #[.int .i64 a0, .int .i64 a1] w fun e w' => e = .returned (.tuple #[.int .i64 r1, .bool r2]) ∧ Drawn0 w w' := by
 have H : (some (wrap64 (a0 + a1), ((decide ((wrap64 (a0 + a1)) > a0)) == (decide (a1 > 0))))) = some (r1, r2) := h
 clear h
 simp only [Option.some.injEq, Prod.mk.injEq] at H
 obtain ⟨rfl, rfl⟩ := H
 go_enter Try.func121, Try.ntmps121
 go_wp2
 go_ret2
 exact ⟨by first | rfl | (simp; done) | (simp [*]; done), by repeat (first | exact Drawn0.refl _ | apply Drawn0.step)⟩
def pairs_Absolute.l0 : Nat → List Int → Int → List Int → Int → Int → Option (List Int × Int)
 | 0, _, _, _, _, _ => none
 | k + 1, x4, x5, x9, x10, x11 => if x11 < x10 then (if 0 ≤ x11 then (if x11 < (x9.length : Int) then ((pairs_add.f x5 (rd x9 x11)).bind fun bt102 => (if bt102.2 = true then (if x4.length < 17592186044416 then (pairs_Absolute.l0 k (x4 ++ [bt102.1]) bt102.1 x9 x10 (wrap64 (x11 + 1))) else (none)) else (some (([] : List Int), 28)))) else (none)) else (none)) else (some (x4, 0))
def pairs_Absolute.f (k : Nat) (l0 : List Int) : Option (List Int × Int) := pairs_Absolute.l0 k ([] : List Int) 0 l0 (l0.length : Int) 0
set_option maxHeartbeats 8000000 in
set_option maxRecDepth 100000 in
theorem pairs_Absolute.calls (k : Nat) (A0 : Option Addr) (c0 : Nat) (l0 : List Int) (r1 : List Int) (r2 : Int) (w : World) (hr0 : Kd.C (Kd.int .i64) w A0 l0.length l0) (hc0 : l0.length ≤ c0) (h : pairs_Absolute.f k l0 = some (r1, r2)) :
  Calls Try.prog 65 #[.slice A0 l0.length c0] w fun e w' => ∃ v0_ : Value, e = .returned (.tuple #[v0_, .int .i64 r2]) ∧ Kd.R (Kd.int .i64) 2 w' w.heap.size (fun _ => True) v0_ r1 ∧ Below w.heap.size w w' := by
 have HR0 := Aside0.mk hr0
 have HC0 := Aside0.mk hc0
 clear hr0 hc0
 have HB := Aside0.mk (Below.refl w.heap.size w)
 have H : (pairs_Absolute.l0 k ([] : List Int) 0 l0 (l0.length : Int) 0) = some (r1, r2) := h
 clear h
 have H' := Aside0.mk H
 clear H
 go_enter Try.func65, Try.ntmps65
 go_wp2
 go_loopg [4, 5, 11] k (fun kq v4 v5 v11 w' => ∃ (x4_1 : List Int) (x5_1 : Int) (x11_1 : Int), v5 = .int .i64 x5_1 ∧ v11 = .int .i64 x11_1 ∧ Aside0 (pairs_Absolute.l0 kq x4_1 x5_1 l0 (l0.length : Int) x11_1 = some (r1, r2)) ∧ Aside0 (kq ≤ k) ∧ Aside0 (Kd.R (Kd.int .i64) 2 w' w.heap.size (fun _ => True) v4 x4_1) ∧ Aside0 (Below w.heap.size w w'))
 case atStart => exact ⟨(([] : List Int)), (0), (0), (by first | rfl | (simp; done) | (simp [*]; done)), (by first | rfl | (simp; done) | (simp [*]; done)), H', ⟨Nat.le_refl _⟩, ⟨by first | exact Kd.R_nil _ _ _ _ _ | exact Kd.N_nil _ _ _ _ _ | exact Kd.V_nil _ _ _ _ _ | exact Kd.Q_nil _ _ _ _ _ | exact Kd.S_nil _ _ _ _ _⟩, ⟨by repeat (first | (with_reducible first | exact HB.out | apply below_alloc | apply pw_below_drewN | apply below_drew1) | exact HB.out)⟩⟩
 case round =>
  clear H'
  obtain ⟨x4_1, x5_1, x11_1, rfl, rfl, HA, HK1, HO_4, HB⟩ := hrel
  cases gk with
  | zero => exact absurd HA.out (by simp [pairs_Absolute.l0])
  | succ k1 =>
   have H := HA.out
   clear HA
   simp only [pairs_Absolute.l0] at H
   by_cases c2 : x11_1 < (l0.length : Int)
   ·rw [if_pos c2] at H
    have c2b0 : decide (x11_1 < (l0.length : Int)) = true := decide_eq_true c2
    clear c2
    by_cases c3 : 0 ≤ x11_1
    ·rw [if_pos c3] at H
     have c3b0 : decide (0 ≤ x11_1) = true := decide_eq_true c3
     clear c3
     by_cases c4 : x11_1 < (l0.length : Int)
     ·rw [if_pos c4] at H
      have c4b0 : decide (x11_1 < (l0.length : Int)) = true := decide_eq_true c4
      clear c4
      replace H := Option.bind_eq_some_iff.mp H
      obtain ⟨⟨t102, t103⟩, A50, H⟩ := H
      replace H : (if t103 = true then (if x4_1.length < 17592186044416 then (pairs_Absolute.l0 k1 (x4_1 ++ [t102]) t102 l0 (l0.length : Int) (wrap64 (x11_1 + 1))) else (none)) else (some (([] : List Int), 28))) = some (r1, r2) := H
      have A5 := Aside0.mk A50
      clear A50
      by_cases c6 : t103 = true
      ·subst c6
       have H1 : (if x4_1.length < 17592186044416 then (pairs_Absolute.l0 k1 (x4_1 ++ [t102]) t102 l0 (l0.length : Int) (wrap64 (x11_1 + 1))) else (none)) = some (r1, r2) := by rw [if_pos rfl] at H; exact H
       clear H
       have H := H1
       clear H1
       by_cases c7 : x4_1.length < 17592186044416
       ·rw [if_pos c7] at H
        have LMc7 := Aside0.mk c7
        clear c7
        obtain ⟨y104, hy104⟩ : ∃ y_ : List Int, y_ = (x4_1 ++ [t102]) := ⟨_, rfl⟩
        replace H : (pairs_Absolute.l0 k1 y104 t102 l0 (l0.length : Int) (wrap64 (x11_1 + 1))) = some (r1, r2) := by first | (rw [hy104]; with_reducible exact H) | (have H2_ := (Option.bind_some _ _).symm.trans H; rw [hy104]; with_reducible exact H2_) | (have H2_ := (Option.bind_some _ _).symm.trans H; with_reducible exact H2_) | with_reducible exact H | (rw [hy104]; exact H) | exact H
        have Ny104 := Aside0.mk hy104
        clear hy104
        have H' := Aside0.mk H
        clear H
        have p101 : 0 ≤ (x11_1 : Int) := of_decide_eq_true (by first | (with_reducible assumption) | assumption)
        have q101 : x11_1 < (l0.length : Int) := of_decide_eq_true (by first | (with_reducible assumption) | assumption)
        obtain ⟨ad101, e101, hx101_0⟩ := Kd.at_int HR0.out x11_1 p101 q101
        cases e101
        replace hx101_0 := (HB.out.cell (World.block_lt_of_cell? w _ hx101_0)).trans hx101_0
        replace p101 := eq_true p101
        replace q101 := eq_true q101
        go_wp2_with (first | ((with_reducible refine gate_callee (f := 121) rfl ?_); refine goesL_ (some 18) rfl rfl Try.func121 (by kernel_rfl) rfl #[.int .i64 x5_1, .int .i64 (rd l0 x11_1)] rfl (by (try simp only [List.map_toArray, List.map_cons, List.map_nil]); first | done | rfl | (simp only [List.length_drop, List.length_take]; rfl)) ?_; (with_reducible refine (pairs_add.calls x5_1 (rd l0 x11_1) t102 true _ A5.out).mono ?_); rintro e w' ⟨rfl, ⟨nd, rfl⟩⟩; refine ⟨_, rfl, ?_⟩; clear A5) | ((with_reducible refine gate_builtin (b := .append) (xs := #[.tmp 23, .tmp 25]) rfl ?_); at_builtin; refine Kd.R_append (Kd.int .i64) (w0 := w) w.heap.size rfl (.tmp 23) (.tmp 25) 35 2 (.int .i64 0) 8 rfl Try.underlying35 info2 rfl (by decide) (by omega) u4 x4_1 t102 [.int .i64 t102] (fun _ => True) (fun _ => False) rfl rfl ?aP (fun _ hk => hk.elim) ?aF ?aO ?aB ?aS ?aL ?_; (case aP => exact rfl); (case aB => exact (by repeat (first | (with_reducible first | exact HB.out | apply below_alloc | apply pw_below_drewN | apply below_drew1) | exact HB.out))); (case aF => exact (fun _ _ => trivial)); (case aO => exact (by (with_reducible repeat (first | apply Kd.R_alloc | apply Kd.R_drewN | apply Kd.R_drew)); exact HO_4.out)); (case aS => exact (below_size (by repeat (first | (with_reducible first | exact HB.out | apply below_alloc | apply pw_below_drewN | apply below_drew1) | exact HB.out)))); (case aL => have := LMc7.out; omega); intro v105 w8 ho hb hg hat; rw [← Ny104.out] at ho; have n0_ := Aside0.mk (hb); have n1_ := Aside0.mk (ho); clear HB; clear HO_4; have HB := n0_; have HO106 := n1_; clear n0_ n1_; clear ho hb hg hat))
        go_roundg k1
        case measure => have := HK1.out; omega
        case rel => exact ⟨(y104), (t102), (wrap64 (x11_1 + 1)), (by first | rfl | (simp; done) | (simp [*]; done)), (by first | rfl | (simp; done) | (simp [*]; done)), H', ⟨by have := HK1.out; omega⟩, ⟨by (with_reducible repeat (first | apply Kd.R_alloc | apply Kd.R_drewN | apply Kd.R_drew)); exact HO106.out⟩, ⟨by repeat (first | (with_reducible first | exact HB.out | apply below_alloc | apply pw_below_drewN | apply below_drew1) | exact HB.out)⟩⟩
       ·rw [if_neg c7] at H
        exact absurd H (by simp)
      ·replace c6 := Bool.eq_false_iff.mpr c6
       subst c6
       have H1 : (some (([] : List Int), 28)) = some (r1, r2) := by rw [if_neg (show ¬ (false = true) by decide)] at H; exact H
       clear H
       have H := H1
       clear H1
       simp only [Option.some.injEq, Prod.mk.injEq] at H
       obtain ⟨rfl, rfl⟩ := H
       have p101 : 0 ≤ (x11_1 : Int) := of_decide_eq_true (by first | (with_reducible assumption) | assumption)
       have q101 : x11_1 < (l0.length : Int) := of_decide_eq_true (by first | (with_reducible assumption) | assumption)
       obtain ⟨ad101, e101, hx101_0⟩ := Kd.at_int HR0.out x11_1 p101 q101
       cases e101
       replace hx101_0 := (HB.out.cell (World.block_lt_of_cell? w _ hx101_0)).trans hx101_0
       replace p101 := eq_true p101
       replace q101 := eq_true q101
       go_wp2_with (first | ((with_reducible refine gate_callee (f := 121) rfl ?_); refine goesL_ (some 18) rfl rfl Try.func121 (by kernel_rfl) rfl #[.int .i64 x5_1, .int .i64 (rd l0 x11_1)] rfl (by (try simp only [List.map_toArray, List.map_cons, List.map_nil]); first | done | rfl | (simp only [List.length_drop, List.length_take]; rfl)) ?_; (with_reducible refine (pairs_add.calls x5_1 (rd l0 x11_1) t102 false _ A5.out).mono ?_); rintro e w' ⟨rfl, ⟨nd, rfl⟩⟩; refine ⟨_, rfl, ?_⟩; clear A5))
       go_ret2
       exact ⟨_, by first | rfl | (simp [errW_none, errW_some] <;> rfl) | (simp [*, errW_none, errW_some] <;> rfl), by first | exact Kd.R_nil _ _ _ _ _ | exact Kd.N_nil _ _ _ _ _ | exact Kd.V_nil _ _ _ _ _ | exact Kd.Q_nil _ _ _ _ _ | exact Kd.S_nil _ _ _ _ _, by repeat (first | (with_reducible first | exact HB.out | apply below_alloc | apply pw_below_drewN | apply below_drew1) | exact HB.out)⟩
     ·rw [if_neg c4] at H
      exact absurd H (by simp)
    ·rw [if_neg c3] at H
     exact absurd H (by simp)
   ·rw [if_neg c2] at H
    have c2b0 : decide (x11_1 < (l0.length : Int)) = false := decide_eq_false c2
    clear c2
    simp only [Option.some.injEq, Prod.mk.injEq] at H
    obtain ⟨rfl, rfl⟩ := H
    go_wp2
    go_ret2
    exact ⟨_, by first | rfl | (simp [errW_none, errW_some] <;> rfl) | (simp [*, errW_none, errW_some] <;> rfl), by (with_reducible repeat (first | apply Kd.R_alloc | apply Kd.R_drewN | apply Kd.R_drew)); exact HO_4.out, by repeat (first | (with_reducible first | exact HB.out | apply below_alloc | apply pw_below_drewN | apply below_drew1) | exact HB.out)⟩
end Go.Proofs.Ytcabapilejagkaa.P
namespace Go.Proofs.Ytcabapilejagkaa.P
open Go.RowKit Go.Proofs.YtcabapilejagkaaW.PrintWords Go.Proofs.YtcabapilejagkaaW.PrintLast Go.Proofs.YtcabapilejagkaaW.PrintMore
set_option linter.unusedVariables false
set_option linter.unusedSimpArgs false
abbrev Pr := S30
instance : DecidableEq Pr := fun a b => if h : a.f0 = b.f0 ∧ a.f1 = b.f1 then isTrue (by cases a; cases b; simp only at h; rw [h.1, h.2]) else isFalse (by rintro rfl; exact h ⟨rfl, rfl⟩)
theorem rdPr_at {l : List Pr} {i : Nat} (h : i < l.length) : rd_T30 l (i : Int) = l[i] := by unfold rd_T30; simp [List.getD, h]
def wfPrs (l : List Pr) : Prop := ∀ s ∈ l, i64 s.f0 ∧ i64 s.f1
def zipRes (l : List Sp) (v : List Int) : List Pr × Int := if spCheck l = 0 then (if (plN 0 l).length = v.length then (List.zipWith (fun p x => (⟨p, x⟩ : Pr)) (plN 0 l) v, 0) else ([], 10)) else ([], spCheck l)
theorem zip_loop (ps v : List Int) (hl : ps.length = v.length) (hm : ps.length < 8796093022208) : ∀ (d k i : Nat), ps.length - i = d → d < k → i ≤ ps.length →
    pairs_Zip_int64.l0 k v (List.zipWith (fun p x => (⟨p, x⟩ : Pr)) (ps.take i) (v.take i)) ps (ps.length : Int) (i : Int) = some (List.zipWith (fun p x => (⟨p, x⟩ : Pr)) ps v, 0) := by
  intro d
  induction d with
  | zero =>
    intro k i hd hk hi
    obtain ⟨k, rfl⟩ : ∃ m, k = m + 1 := ⟨k - 1, by omega⟩
    simp only [pairs_Zip_int64.l0]
    rw [if_neg (by omega), List.take_of_length_le (by omega), List.take_of_length_le (by omega)]
  | succ d ih =>
    intro k i hd hk hi
    obtain ⟨k, rfl⟩ : ∃ m, k = m + 1 := ⟨k - 1, by omega⟩
    have hlt : i < ps.length := by omega
    have hlv : i < v.length := by omega
    have hl1 : (List.zipWith (fun p x => (⟨p, x⟩ : Pr)) (ps.take i) (v.take i)).length = i := by simp; omega
    simp only [pairs_Zip_int64.l0]
    rw [if_pos (by omega), if_pos (by omega), if_pos (by omega), if_pos (by omega), hl1, rd_at hlt, rd_at hlv, if_pos (by omega), wrap_succ (by omega), ← ih k (i + 1) (by omega) (by omega) (by omega), take_at hlt, take_at hlv, List.zipWith_append (by simp; omega)]
    rfl
theorem zip_eq (l : List Sp) (v : List Int) (hw : wfSps l) (k : Nat) (hk : 4100 < k) : pairs_Zip_int64.f k l v = some (zipRes l v) := by
  unfold pairs_Zip_int64.f zipRes
  rw [places_eq l hw k (by omega)]
  simp only [Option.bind_some, placesRes]
  by_cases h : spCheck l = 0
  · have hl := places_len h
    rw [if_pos h, if_pos h]
    simp only [if_true]
    by_cases h1 : (plN 0 l).length = v.length
    · rw [if_pos (by omega), if_pos h1]
      exact zip_loop (plN 0 l) v h1 (by omega) (plN 0 l).length k 0 (by omega) (by omega) (by omega)
    · rw [if_neg (by omega), if_neg h1]
  · rw [if_neg h, if_neg h]
    simp only
    rw [if_neg h]
end Go.Proofs.Ytcabapilejagkaa.P
namespace Go.Proofs.Ytcabapilejagkaa.P
open Go.RowKit Go.Proofs.YtcabapilejagkaaW.PrintWords Go.Proofs.YtcabapilejagkaaW.PrintLast Go.Proofs.YtcabapilejagkaaW.PrintMore
set_option linter.unusedVariables false
set_option linter.unusedSimpArgs false
def sumsFrom : Int → List Int → Option (List Int)
  | _, [] => some []
  | a, d :: r => if i64 (a + d) then (sumsFrom (a + d) r).map (fun o => (a + d) :: o) else none
theorem add_flag {a d : Int} (ha : i64 a) (hd : i64 d) : ((decide ((wrap64 (a + d)) > a)) == (decide (d > 0))) = decide (i64 (a + d)) := by
  unfold i64 at *
  by_cases h : -9223372036854775808 ≤ a + d ∧ a + d ≤ 9223372036854775807
  · rw [decide_eq_true h, wrap_id h.1 h.2]
    by_cases hp : d > 0
    · have : a + d > a := by omega
      simp [hp, this]
    · have : ¬ a + d > a := by omega
      simp [hp, this]
  · rw [decide_eq_false h]
    by_cases hp : d > 0
    · have : ¬ wrap64 (a + d) > a := by unfold wrap64; omega
      simp [hp, this]
    · have : wrap64 (a + d) > a := by unfold wrap64; omega
      simp [hp, this]
theorem absolute_loop (l : List Int) (hw : ∀ x ∈ l, i64 x) (hl : l.length < 17592186044416) : ∀ (d k i : Nat) (acc : List Int) (a : Int), l.length - i = d → d < k → i ≤ l.length → acc.length = i → i64 a →
    pairs_Absolute.l0 k acc a l (l.length : Int) (i : Int) = some (match sumsFrom a (l.drop i) with | some o => (acc ++ o, 0) | none => ([], 28)) := by
  intro d
  induction d with
  | zero =>
    intro k i acc a hd hk hi ha hwa
    obtain ⟨k, rfl⟩ : ∃ m, k = m + 1 := ⟨k - 1, by omega⟩
    simp only [pairs_Absolute.l0]
    rw [if_neg (by omega), drop_end (by omega)]
    simp [sumsFrom]
  | succ d ih =>
    intro k i acc a hd hk hi ha hwa
    obtain ⟨k, rfl⟩ : ∃ m, k = m + 1 := ⟨k - 1, by omega⟩
    have hlt : i < l.length := by omega
    have hwd : i64 l[i] := hw _ (List.getElem_mem hlt)
    simp only [pairs_Absolute.l0]
    rw [if_pos (by omega), if_pos (by omega), if_pos (by omega), rd_at hlt, drop_at hlt]
    simp only [pairs_add.f, Option.bind_some]
    rw [add_flag hwa hwd]
    by_cases hs : i64 (a + l[i])
    · rw [if_pos (by simpa using hs), if_pos (by omega), wrap_of_i64 hs, wrap_succ (by omega), ih k (i + 1) _ _ (by omega) (by omega) (by omega) (by simp [ha]) hs]
      simp only [sumsFrom, if_pos hs]
      cases sumsFrom (a + l[i]) (l.drop (i + 1)) <;> simp
    · rw [if_neg (by simpa using hs)]
      simp only [sumsFrom, if_neg hs]
theorem absolute_eq (l : List Int) (hw : ∀ x ∈ l, i64 x) (hl : l.length < 17592186044416) (k : Nat) (hk : l.length < k) :
    pairs_Absolute.f k l = some (match sumsFrom 0 l with | some o => (o, 0) | none => ([], 28)) := by
  unfold pairs_Absolute.f
  have h := absolute_loop l hw hl l.length k 0 [] 0 (by omega) hk (by omega) rfl (by unfold i64; omega)
  rw [List.drop_zero] at h
  exact h
theorem sumsFrom_length : ∀ (l : List Int) (a : Int) (o : List Int), sumsFrom a l = some o → o.length = l.length
  | [], a, o, h => by simp [sumsFrom] at h; subst h; rfl
  | d :: r, a, o, h => by
    simp only [sumsFrom] at h
    split at h
    · cases h2 : sumsFrom (a + d) r with
      | none => rw [h2] at h; cases h
      | some o2 => rw [h2] at h; simp at h; subst h; simp [sumsFrom_length r _ _ h2]
    · cases h
theorem sumsFrom_i64 : ∀ (l : List Int) (a : Int) (o : List Int), sumsFrom a l = some o → ∀ x ∈ o, i64 x
  | [], a, o, h => by simp [sumsFrom] at h; subst h; simp
  | d :: r, a, o, h => by
    simp only [sumsFrom] at h
    split at h
    · rename_i hs
      cases h2 : sumsFrom (a + d) r with
      | none => rw [h2] at h; cases h
      | some o2 =>
        rw [h2] at h; simp at h; subst h
        intro x hx
        rcases List.mem_cons.1 hx with rfl | hx
        · exact hs
        · exact sumsFrom_i64 r _ _ h2 x hx
    · cases h
end Go.Proofs.Ytcabapilejagkaa.P
namespace Go.Proofs.Ytcabapilejagkaa.P
open Go.RowKit Go.Shelf Go.Proofs.YtcabapilejagkaaW.PrintWords Go.Proofs.YtcabapilejagkaaW.PrintLast Go.Proofs.YtcabapilejagkaaW.PrintMore
set_option linter.unusedVariables false
set_option linter.unusedSimpArgs false
def PredN_int64 (g : Nat) (cap : Array Value) (p : Int → Bool) (w : World) : Prop :=
  ∀ (W : World) (x : Int), Below w.heap.size w W → Calls Try.prog g (#[.int .i64 x] ++ cap) W fun e w' => e = .returned (.bool (p x)) ∧ Below W.heap.size W w'
set_option maxHeartbeats 2000000 in
theorem indexFunc_num_int64 (g : Nat) (cap : Array Value) (p : Int → Bool) (A : Option Addr) (c : Nat) (l : List Int) (w : World)
    (hr : Kd.C (Kd.int .i64) w A l.length l) (hc : l.length ≤ c) (hm : l.length ≤ 9223372036854775807) (hp : PredN_int64 g cap p w) (eg : ∀ args w, (callFunc g args).run Try.prog w = .ok (.enter g args) w) :
    Calls Try.prog 170 #[.slice A l.length c, .func (.func g) #[] cap] w fun e w' => e = .returned (.int .i64 (idxP p l)) ∧ Below w.heap.size w w' := by
  have HR := Aside0.mk hr
  have HP := Aside0.mk hp
  clear hr hp
  go_enter Try.func170, Try.ntmps170
  go_wp2
  go_loopg [5, 8] l.length (fun gg _ s8 wr => ∃ kk : Nat, kk ≤ l.length ∧ l.length - kk ≤ gg ∧ s8 = .int .i64 kk ∧ Aside0 (Below w.heap.size w wr) ∧ Aside0 (∀ j (hj : j < kk) (hj2 : j < l.length), p l[j] = false))
  case atStart => exact ⟨0, Nat.zero_le _, by omega, rfl, ⟨Below.refl _ w⟩, ⟨fun j hj => absurd hj (Nat.not_lt_zero _)⟩⟩
  case round =>
    obtain ⟨kk, hkk, hg, rfl, HB, HA⟩ := hrel
    by_cases hlt : kk < l.length
    · have hlti : (kk : Int) < (l.length : Int) := by omega
      obtain ⟨ad, e1, hx0⟩ := Kd.at_int HR.out kk (by omega) (by omega)
      cases e1
      replace hx0 := (HB.out.cell (World.block_lt_of_cell? w _ hx0)).trans hx0
      have hrd : rd l (kk : Int) = l[kk] := by unfold rd; simp [List.getD, hlt]
      rw [hrd, Int.toNat_natCast] at hx0
      have hcall := HP.out wr l[kk] HB.out
      generalize hy : l[kk] = y at hx0 hcall
      have HY := Aside0.mk hy
      clear hy hrd
      cases hq : p y with
      | true =>
        rw [hq] at hcall
        have HQ := Aside0.mk hq
        clear hq
        have HC := Aside0.mk hcall
        clear hcall
        go_wp2_with (go_at_fn g; refine HC.out.mono ?_; rintro e w' ⟨rfl, hb'⟩)
        go_ret
        refine ⟨?_, HB.out.trans (hb'.mono HB.out.size)⟩
        rw [idxP_hit p l kk hlt (by rw [HY.out]; exact HQ.out) (fun j hj => HA.out j hj (by omega))]; rfl
      | false =>
        rw [hq] at hcall
        have HQ := Aside0.mk hq
        clear hq
        have HC := Aside0.mk hcall
        clear hcall
        go_wp2_with (go_at_fn g; refine HC.out.mono ?_; rintro e w' ⟨rfl, hb'⟩)
        go_roundg (l.length - (kk + 1))
        case measure => omega
        case rel =>
          refine ⟨kk + 1, by omega, by omega, by go_num, ⟨HB.out.trans (hb'.mono HB.out.size)⟩, ⟨fun j hj hj2 => ?_⟩⟩
          by_cases e : j = kk
          · subst e
            rw [HY.out]; exact HQ.out
          · exact HA.out j (by omega) hj2
    · have hlti : ¬ (kk : Int) < (l.length : Int) := by omega
      have hk : kk = l.length := by omega
      go_wp2
      go_ret
      refine ⟨?_, HB.out⟩
      rw [idxP_miss p l (fun j hj => HA.out j (by omega) hj)]; rfl
theorem idxP_any_int64 (p : Int → Bool) (l : List Int) : decide (idxP p l ≥ 0) = l.any p := by
  rcases find_idx p l with ⟨h1, h2⟩ | ⟨i, h, h1, h2⟩
  · rw [h1, Bool.eq_iff_iff, decide_eq_true_iff]
    constructor
    · intro h; omega
    · intro h
      obtain ⟨x, hx, hp⟩ := List.any_eq_true.1 h
      rw [List.find?_eq_none] at h2
      exact absurd hp (h2 x hx)
  · rw [h1, Bool.eq_iff_iff, decide_eq_true_iff]
    constructor
    · intro _; exact List.any_eq_true.2 ⟨_, List.getElem_mem h, by have := List.find?_some h2; exact this⟩
    · intro _; omega
set_option maxHeartbeats 2000000 in
theorem containsFunc_num_int64 (g : Nat) (cap : Array Value) (p : Int → Bool) (A : Option Addr) (c : Nat) (l : List Int) (w : World)
    (hr : Kd.C (Kd.int .i64) w A l.length l) (hc : l.length ≤ c) (hm : l.length ≤ 9223372036854775807) (hp : PredN_int64 g cap p w) (eg : ∀ args w, (callFunc g args).run Try.prog w = .ok (.enter g args) w) :
    Calls Try.prog 155 #[.slice A l.length c, .func (.func g) #[] cap] w fun e w' => e = .returned (.bool (l.any p)) ∧ Below w.heap.size w w' := by
  have H := Aside0.mk (indexFunc_num_int64 g cap p A c l w hr hc hm hp eg)
  have HE := Aside0.mk (idxP_any_int64 p l)
  clear hr hp
  generalize idxP p l = ix at H HE
  go_enter Try.func155, Try.ntmps155
  go_wp2_with (go_at_call 170; refine H.out.mono ?_; rintro e w' ⟨rfl, hb'⟩)
  go_ret
  exact ⟨by rw [← HE.out]; rfl, hb'⟩
end Go.Proofs.Ytcabapilejagkaa.P
namespace Go.Proofs.Ytcabapilejagkaa.P
open Go.RowKit Go.Shelf Go.Proofs.YtcabapilejagkaaW.PrintWords Go.Proofs.YtcabapilejagkaaW.PrintLast Go.Proofs.YtcabapilejagkaaW.PrintMore
set_option linter.unusedVariables false
set_option linter.unusedSimpArgs false
theorem count_loop (l : List Sp) (hm : l.length ≤ 1024) (hp : ∀ s ∈ l, 0 ≤ s.f1 ∧ s.f1 ≤ 4096) : ∀ (d k i : Nat), l.length - i = d → d < k → i ≤ l.length → 0 ≤ cntN (l.take i) → cntN (l.take i) ≤ 4096 * i →
    span_Count.l0 k (cntN (l.take i)) l (l.length : Int) (i : Int) = some (cntN l) := by
  intro d
  induction d with
  | zero =>
    intro k i hd hk hi h0 h1
    obtain ⟨k, rfl⟩ : ∃ m, k = m + 1 := ⟨k - 1, by omega⟩
    rw [span_Count.l0, if_neg (by omega), List.take_of_length_le (by omega)]
  | succ d ih =>
    intro k i hd hk hi h0 h1
    obtain ⟨k, rfl⟩ : ∃ m, k = m + 1 := ⟨k - 1, by omega⟩
    have hlt : i < l.length := by omega
    have hs := hp _ (List.getElem_mem hlt)
    have e : cntN (l.take (i + 1)) = cntN (l.take i) + l[i].f1 := by rw [take_at hlt, cntN_snoc]
    rw [span_Count.l0, if_pos (by omega), if_pos (by omega), if_pos (by omega), rdSp_at hlt, wrap_succ (by omega), wrap_id (by omega) (by omega), ← e]
    exact ih k (i + 1) (by omega) (by omega) (by omega) (by omega) (by omega)
theorem count_eq (l : List Sp) (hw : wfSps l) (k : Nat) (hk : 2048 < k) : span_Count.f k l = some (if spCheck l = 0 then cntN l else 0) := by
  unfold span_Count.f
  rw [check_eq l hw k hk, Option.bind_some]
  by_cases h : spCheck l = 0
  · have h0 := spCheck_zero h
    rw [if_pos h, if_pos h]
    exact count_loop l h0.1 (fun s hs => spRight_pos l _ _ _ h0.2 s hs) l.length k 0 (by omega) (by omega) (by omega) (by simp [cntN]) (by simp [cntN])
  · rw [if_neg h, if_neg h]
def sideRes (l : List Sp) (d : List Int) : List Pr × Int :=
  if spCheck l = 0 then (if cntN l = d.length then (match sumsFrom 0 d with | none => ([], 28) | some c => if c.any (fun x => decide (x < 0)) = true then ([], 22) else (List.zipWith (fun p x => (⟨p, x⟩ : Pr)) (plN 0 l) c, 0)) else ([], 23)) else ([], spCheck l)
instance (l : List Sp) : Decidable (wfSps l) := by unfold wfSps wfSp; exact inferInstance
def i64s (l : List Int) : Prop := ∀ x ∈ l, i64 x
instance (l : List Int) : Decidable (i64s l) := by unfold i64s; exact inferInstance
def hist_side.f (l0 : List Sp) (l1 : List Int) : Option (List Pr × Int) := if wfSps l0 ∧ i64s l1 ∧ l1.length < 4398046511104 then some (sideRes l0 l1) else none
set_option maxRecDepth 100000 in
theorem neg_any (W : World) (x : Int) :
    Calls Try.prog 156 (#[.int .i64 x] ++ #[]) W fun e w' => e = .returned (.bool (decide (x < 0))) ∧ Below W.heap.size W w' := by
  show Calls Try.prog 156 #[.int .i64 x] W _
  go_enter Try.func156, Try.ntmps156
  go_wp2
  go_ret
  exact ⟨rfl, Below.refl _ _⟩
set_option maxHeartbeats 8000000 in
set_option maxRecDepth 100000 in
theorem hist_side.calls (A0 : Option Addr) (c0 : Nat) (l0 : List Sp) (A1 : Option Addr) (c1 : Nat) (l1 : List Int) (r1 : List Pr) (r2 : Int) (w : World) (hr0 : Kd.C k108 w A0 l0.length l0) (hc0 : l0.length ≤ c0) (hr1 : Kd.C (Kd.int .i64) w A1 l1.length l1) (hc1 : l1.length ≤ c1) (h : hist_side.f l0 l1 = some (r1, r2)) :
    Calls Try.prog 135 #[.slice A0 l0.length c0, .slice A1 l1.length c1] w fun e w' => ∃ v0_ : Value, e = .returned (.tuple #[v0_, .int .i64 r2]) ∧ Kd.R k30 30 w' w.heap.size (fun _ => True) v0_ r1 ∧ Below w.heap.size w w' := by
  obtain ⟨⟨hw, hi, hm⟩, h2⟩ := of_ite_some h
  clear h
  obtain ⟨K, hK⟩ : ∃ K, K = l1.length + 5200 := ⟨_, rfl⟩
  have HRA := Aside0.mk (And.intro hr0 hr1)
  have HCA := Aside0.mk (And.intro hc0 hc1)
  have HCk := Aside0.mk (check_eq l0 hw K (by omega))
  have HCt := Aside0.mk (count_eq l0 hw K (by omega))
  have HAb := Aside0.mk (absolute_eq l1 hi (by omega) K (by omega))
  have HW := Aside0.mk hw
  have HM := Aside0.mk (And.intro hm hK)
  have H := Aside0.mk h2
  clear hr0 hr1 hc0 hc1 hw hi h2 hm hK
  unfold sideRes at H
  by_cases he : spCheck l0 = 0
  rotate_left
  · have H := H.out
    rw [if_neg he] at H
    injection H with h4 h5
    subst h4; subst h5
    have he1 : (spCheck l0 == 0) = false := beq_eq_false_iff_ne.2 he
    have he2 : (spCheck l0 != 0) = true := bne_iff_ne.2 he
    clear he
    generalize spCheck l0 = e0 at *
    go_enter Try.func135, Try.ntmps135
    go_wp2_with (go_at_call 132; (with_reducible refine (span_Check.calls K _ _ l0 e0 _ HRA.out.1 HCA.out.1 HCk.out).mono ?_); rintro e w1 ⟨rfl, hb⟩; have HB := Aside0.mk hb; clear hb)
    go_ret2
    exact ⟨_, rfl, Kd.R_nil _ _ _ _ _, HB.out⟩
  · rw [if_pos he] at H
    rw [he] at HCk
    rw [if_pos he] at HCt
    have HP := Aside0.mk he
    clear he
    generalize hn : cntN l0 = n at H HCt
    have HN := Aside0.mk hn
    clear hn
    by_cases hc : n = (l1.length : Int)
    rotate_left
    · have H := H.out
      rw [if_neg hc] at H
      injection H with h4 h5
      subst h4; subst h5
      have hc1 : (n == (l1.length : Int)) = false := beq_eq_false_iff_ne.2 hc
      have hc2 : (n != (l1.length : Int)) = true := bne_iff_ne.2 hc
      clear hc
      go_enter Try.func135, Try.ntmps135
      go_wp2_with (first | (go_at_call 132; (with_reducible refine (span_Check.calls K _ _ l0 0 _ HRA.out.1 HCA.out.1 HCk.out).mono ?_); rintro e w1 ⟨rfl, hb⟩; have HB := Aside0.mk hb; clear hb) | (go_at_call 154; (with_reducible refine (span_Count.calls K _ _ l0 n _ (Kd.C_below HRA.out.1 HB.out) HCA.out.1 HCt.out).mono ?_); rintro e w2 ⟨rfl, hb⟩; have HB2 := Aside0.mk (below_then HB.out HB.out.size hb); clear hb))
      go_ret2
      exact ⟨_, rfl, Kd.R_nil _ _ _ _ _, HB2.out⟩
    · rw [if_pos hc] at H
      have hc1 : (n == (l1.length : Int)) = true := beq_iff_eq.2 hc
      have hc2 : (n != (l1.length : Int)) = false := by rw [bne, hc1]; rfl
      have HNL := Aside0.mk hc
      clear hc
      have HSL := Aside0.mk (sumsFrom_length l1 0)
      cases hs : sumsFrom 0 l1 with
      | none =>
        rw [hs] at H HAb
        have H := H.out
        injection H with h4 h5
        subst h4; subst h5
        clear hs
        obtain ⟨cs, hcs⟩ : ∃ cs : List Int, cs = [] := ⟨_, rfl⟩
        obtain ⟨e3, he3⟩ : ∃ e : Int, e = 28 := ⟨_, rfl⟩
        replace HAb := Aside0.mk (show pairs_Absolute.f K l1 = some (cs, e3) by rw [hcs, he3]; exact HAb.out)
        subst he3
        clear hcs
        go_enter Try.func135, Try.ntmps135
        go_wp2_with (first | (go_at_call 132; (with_reducible refine (span_Check.calls K _ _ l0 0 _ HRA.out.1 HCA.out.1 HCk.out).mono ?_); rintro e w1 ⟨rfl, hb⟩; have HB := Aside0.mk hb; clear hb) | (go_at_call 154; (with_reducible refine (span_Count.calls K _ _ l0 n _ (Kd.C_below HRA.out.1 HB.out) HCA.out.1 HCt.out).mono ?_); rintro e w2 ⟨rfl, hb⟩; have HB2 := Aside0.mk (below_then HB.out HB.out.size hb); clear hb) | (go_at_call 65; (with_reducible refine (pairs_Absolute.calls K _ _ l1 cs _ _ (Kd.C_below HRA.out.2 HB2.out) HCA.out.2 HAb.out).mono ?_); rintro e w3 ⟨v3, rfl, ho3, hb⟩; have HB3 := Aside0.mk (below_then HB2.out HB2.out.size hb); obtain ⟨A3, c3, rfl, hc3, hC3⟩ := Kd.R_reads ho3; have HC3 := Aside0.mk (And.intro hc3 hC3); clear ho3 hC3 hc3 hb))
        go_ret2
        exact ⟨_, rfl, Kd.R_nil _ _ _ _ _, HB3.out⟩
      | some cs =>
        rw [hs] at H HAb
        have hlen := HSL.out cs hs
        have HL := Aside0.mk hlen
        have HL3 := Aside0.mk (show cs.length ≤ 9223372036854775807 by have := HM.out.1; omega)
        clear hs hlen
        obtain ⟨e3, he3⟩ : ∃ e : Int, e = 0 := ⟨_, rfl⟩
        replace HAb := Aside0.mk (show pairs_Absolute.f K l1 = some (cs, e3) by rw [he3]; exact HAb.out)
        subst he3
        cases hany : cs.any (fun x => decide (x < 0)) with
        | true =>
          have H := H.out
          simp only [hany, if_true] at H
          injection H with h4 h5
          subst h4; subst h5
          go_enter Try.func135, Try.ntmps135
          go_wp2_with (first | (go_at_call 132; (with_reducible refine (span_Check.calls K _ _ l0 0 _ HRA.out.1 HCA.out.1 HCk.out).mono ?_); rintro e w1 ⟨rfl, hb⟩; have HB := Aside0.mk hb; clear hb) | (go_at_call 154; (with_reducible refine (span_Count.calls K _ _ l0 n _ (Kd.C_below HRA.out.1 HB.out) HCA.out.1 HCt.out).mono ?_); rintro e w2 ⟨rfl, hb⟩; have HB2 := Aside0.mk (below_then HB.out HB.out.size hb); clear hb) | (go_at_call 65; (with_reducible refine (pairs_Absolute.calls K _ _ l1 cs _ _ (Kd.C_below HRA.out.2 HB2.out) HCA.out.2 HAb.out).mono ?_); rintro e w3 ⟨v3, rfl, ho3, hb⟩; have HB3 := Aside0.mk (below_then HB2.out HB2.out.size hb); obtain ⟨A3, c3, rfl, hc3, hC3⟩ := Kd.R_reads ho3; have HC3 := Aside0.mk (And.intro hc3 hC3); clear ho3 hC3 hc3 hb) | (go_at_call 155; (refine (containsFunc_num_int64 156 #[] (fun x => decide (x < 0)) _ _ cs _ HC3.out.2 HC3.out.1 HL3.out (fun W x _ => neg_any W x) (enters_of Try.func156 (by kernel_rfl) rfl)).mono ?_); rintro e w4 ⟨rfl, hb⟩; rw [hany]; have HB4 := Aside0.mk (below_then HB3.out HB3.out.size hb); have HC4 := Aside0.mk (Kd.C_below HC3.out.2 hb); clear hb))
          go_ret2
          exact ⟨_, rfl, Kd.R_nil _ _ _ _ _, HB4.out⟩
        | false =>
          have H := H.out
          simp only [hany, Bool.false_eq_true, if_false] at H
          injection H with h4 h5
          obtain ⟨zs, hz⟩ : ∃ zs, zs = List.zipWith (fun p x => (⟨p, x⟩ : Pr)) (plN 0 l0) cs := ⟨_, rfl⟩
          have HZ := Aside0.mk (show pairs_Zip_int64.f K l0 cs = some (zs, 0) by
            rw [zip_eq l0 cs HW.out K (by have := HM.out.2; omega)]
            unfold zipRes
            have hpl : (plN 0 l0).length = cs.length := by
              have h1 := plN_length l0 0 (fun s hs => (spRight_pos l0 _ _ _ (spCheck_zero HP.out).2 s hs).1)
              have := HN.out; have := HNL.out; have := HL.out
              omega
            rw [if_pos HP.out, if_pos hpl, hz])
          rw [← hz] at h4
          subst h4; subst h5
          clear hz
          go_enter Try.func135, Try.ntmps135
          go_wp2_with (first | (go_at_call 132; (with_reducible refine (span_Check.calls K _ _ l0 0 _ HRA.out.1 HCA.out.1 HCk.out).mono ?_); rintro e w1 ⟨rfl, hb⟩; have HB := Aside0.mk hb; clear hb) | (go_at_call 154; (with_reducible refine (span_Count.calls K _ _ l0 n _ (Kd.C_below HRA.out.1 HB.out) HCA.out.1 HCt.out).mono ?_); rintro e w2 ⟨rfl, hb⟩; have HB2 := Aside0.mk (below_then HB.out HB.out.size hb); clear hb) | (go_at_call 65; (with_reducible refine (pairs_Absolute.calls K _ _ l1 cs _ _ (Kd.C_below HRA.out.2 HB2.out) HCA.out.2 HAb.out).mono ?_); rintro e w3 ⟨v3, rfl, ho3, hb⟩; have HB3 := Aside0.mk (below_then HB2.out HB2.out.size hb); obtain ⟨A3, c3, rfl, hc3, hC3⟩ := Kd.R_reads ho3; have HC3 := Aside0.mk (And.intro hc3 hC3); clear ho3 hC3 hc3 hb) | (go_at_call 155; (refine (containsFunc_num_int64 156 #[] (fun x => decide (x < 0)) _ _ cs _ HC3.out.2 HC3.out.1 HL3.out (fun W x _ => neg_any W x) (enters_of Try.func156 (by kernel_rfl) rfl)).mono ?_); rintro e w4 ⟨rfl, hb⟩; rw [hany]; have HB4 := Aside0.mk (below_then HB3.out HB3.out.size hb); have HC4 := Aside0.mk (Kd.C_below HC3.out.2 hb); clear hb) | (go_at_call 64; (with_reducible refine (pairs_Zip_int64.calls K _ _ l0 _ _ cs zs 0 _ (Kd.C_below HRA.out.1 HB4.out) HCA.out.1 HC4.out HC3.out.1 HZ.out).mono ?_); rintro e w5 ⟨v5, rfl, ho5, hb⟩; have HB5 := Aside0.mk (below_then HB4.out HB4.out.size hb); have HO5 := Aside0.mk (Kd.R_lower ho5 HB4.out.size); clear ho5 hb))
          go_ret2
          exact ⟨_, rfl, HO5.out, HB5.out⟩
end Go.Proofs.Ytcabapilejagkaa.P
namespace Go.Proofs.Ytcabapilejagkaa.P
open Go.RowKit Go.Shelf Go.Proofs.YtcabapilejagkaaW.PrintWords Go.Proofs.YtcabapilejagkaaW.PrintLast Go.Proofs.YtcabapilejagkaaW.PrintMore
set_option linter.unusedVariables false
set_option linter.unusedSimpArgs false
theorem add64_run (x y : Int) (hx : 0 ≤ x) (hy : 0 ≤ y) (w : World) : (callFunc 157 #[.int .u64 x, .int .u64 y, .int .u64 0]).run Try.prog w =
    .ok (.value (.tuple #[.int .u64 ((x + y) % 18446744073709551616), .int .u64 ((x + y) / 18446744073709551616)])) w := by
  rw [run_callFunc_extern Try.func157 (by kernel_rfl) (by kernel_rfl) (by kernel_rfl) (e := add64Entry) (by kernel_rfl), run_add64 x y 0 hx hy (by decide) (by decide)]
  simp only [Result.andThen, Int.add_zero]
def sumV (l : List Pr) : Int := (l.map (·.f1)).sum
def sumR (rs : List (List Pr)) : Int := (rs.map sumV).sum
theorem sumV_take {l : List Pr} {i : Nat} (h : i < l.length) : sumV (l.take (i + 1)) = sumV (l.take i) + l[i].f1 := by
  unfold sumV; rw [take_at h, List.map_append, List.sum_append]; simp only [List.map_cons, List.map_nil, List.sum_cons, List.sum_nil, Int.add_zero]
theorem sumR_take {l : List (List Pr)} {i : Nat} (h : i < l.length) : sumR (l.take (i + 1)) = sumR (l.take i) + sumV l[i] := by
  unfold sumR; rw [take_at h, List.map_append, List.sum_append]; simp only [List.map_cons, List.map_nil, List.sum_cons, List.sum_nil, Int.add_zero]
theorem sum_nonneg {l : List Int} (h : ∀ x ∈ l, 0 ≤ x) : 0 ≤ l.sum := by
  induction l with
  | nil => simp
  | cons x l ih => have := ih (fun y hy => h y (List.mem_cons_of_mem _ hy)); have := h x (List.mem_cons_self ..); simp; omega
theorem sumV_nonneg {l : List Pr} (h : ∀ p ∈ l, 0 ≤ p.f1) : 0 ≤ sumV l := sum_nonneg (by intro x hx; obtain ⟨p, hp, rfl⟩ := List.mem_map.1 hx; exact h p hp)
theorem sumV_take_le {l : List Pr} (h : ∀ p ∈ l, 0 ≤ p.f1) (i : Nat) : 0 ≤ sumV (l.take i) ∧ sumV (l.take i) ≤ sumV l := by
  have e : sumV l = sumV (l.take i) + sumV (l.drop i) := by
    have : l = l.take i ++ l.drop i := (List.take_append_drop i l).symm
    conv => lhs; rw [this]
    unfold sumV; rw [List.map_append, List.sum_append]
  have h1 := sumV_nonneg (l := l.take i) (fun p hp => h p (List.mem_of_mem_take hp))
  have h2 := sumV_nonneg (l := l.drop i) (fun p hp => h p (List.mem_of_mem_drop hp))
  omega
theorem sumR_take_le {l : List (List Pr)} (h : ∀ r ∈ l, ∀ p ∈ r, 0 ≤ p.f1) (i : Nat) : 0 ≤ sumR (l.take i) ∧ sumR (l.take i) ≤ sumR l := by
  have hn : ∀ (l : List (List Pr)), (∀ r ∈ l, ∀ p ∈ r, 0 ≤ p.f1) → 0 ≤ sumR l := fun l h => sum_nonneg (by intro x hx; obtain ⟨p, hp, rfl⟩ := List.mem_map.1 hx; exact sumV_nonneg (h p hp))
  have e : sumR l = sumR (l.take i) + sumR (l.drop i) := by
    have : l = l.take i ++ l.drop i := (List.take_append_drop i l).symm
    conv => lhs; rw [this]
    unfold sumR; rw [List.map_append, List.sum_append]
  have h1 := hn (l.take i) (fun p hp => h p (List.mem_of_mem_take hp))
  have h2 := hn (l.drop i) (fun p hp => h p (List.mem_of_mem_drop hp))
  omega
def totalRes (zc : Int) (rows : List (List Pr)) : Int × Bool := if zc + sumR rows ≤ 18446744073709551615 then (zc + sumR rows, true) else (0, false)
def RowsAt (w : World) (B : Nat) (rows : List (List Pr)) : Prop :=
  ∀ i (h : i < rows.length), ∃ A c, w.cell? ⟨B, i, none⟩ = some (.slice A rows[i].length c) ∧ rows[i].length ≤ c ∧ Kd.C k30 w A rows[i].length rows[i]
set_option maxHeartbeats 8000000 in
set_option maxRecDepth 100000 in
theorem hist_total (s z zc ct sm : Int) (a5 a6 a7 a8 : Option Addr) (n5 n6 n7 n8 c5 c6 c7 c8 : Nat) (B cp : Nat) (rows : List (List Pr)) (w : World)
    (hzc : u64 zc) (hp : ∀ r ∈ rows, ∀ p ∈ r, 0 ≤ p.f1 ∧ p.f1 ≤ 9223372036854775807) (hl : ∀ r ∈ rows, r.length ≤ 4611686018427387904) (hl2 : rows.length ≤ 4611686018427387904) (hcp : rows.length ≤ cp) (hr : RowsAt w B rows) :
    Calls Try.prog 136 #[.agg #[.int .i64 s, .int .u64 z, .int .u64 zc, .int .u64 ct, .int .u64 sm, .slice a5 n5 c5, .slice a6 n6 c6, .slice a7 n7 c7, .slice a8 n8 c8], .slice (some ⟨B, 0, none⟩) rows.length cp] w fun e w' => e = .returned (.tuple #[.int .u64 (totalRes zc rows).1, .bool (totalRes zc rows).2]) ∧ Below w.heap.size w w' := by
  have hu := Try.underlying37
  have hpu := Try.underlying30
  have HZ := Aside0.mk hzc
  have HP := Aside0.mk hp
  have HL := Aside0.mk hl
  have HL2 := Aside0.mk (And.intro hl2 hcp)
  have HR := Aside0.mk hr
  have HT := Aside0.mk (fun i => sumR_take_le (l := rows) (fun r hr p hp2 => (hp r hr p hp2).1) i)
  clear hzc hp hl hl2 hcp hr
  go_enter Try.func136, Try.ntmps136
  go_wp2
  go_loopg [6, 16] rows.length (fun gg v6 v16 wr => ∃ i : Nat, v6 = .int .u64 (zc + sumR (rows.take i)) ∧ v16 = .int .i64 (i : Int) ∧ Aside0 (i + gg = rows.length) ∧ Aside0 (Below w.heap.size w wr) ∧ Aside0 (zc + sumR (rows.take i) ≤ 18446744073709551615))
  case atStart => exact ⟨0, by simp [sumR], rfl, ⟨by omega⟩, ⟨below_alloc (Below.refl _ _) _⟩, ⟨by have := HZ.out.2; simpa [sumR] using this⟩⟩
  case round =>
    obtain ⟨i, rfl, rfl, HI, HB, HS⟩ := hrel
    by_cases hlt : i < rows.length
    · have hlti : (i : Int) < (rows.length : Int) := by omega
      have hi0 : (0 : Int) ≤ (i : Int) := by omega
      obtain ⟨A, c, hc, hcl, hC⟩ := HR.out i hlt
      replace hc := (HB.out.cell (World.block_lt_of_cell? w _ hc)).trans hc
      have HC := Aside0.mk (And.intro hcl hC)
      have hmem : rows[i] ∈ rows := List.getElem_mem hlt
      have HP2 := Aside0.mk (And.intro (HP.out _ hmem) (HL.out _ hmem))
      have HSR := Aside0.mk (sumR_take hlt)
      generalize rows[i] = row at hc HC HP2 HSR
      clear hmem hcl hC
      obtain ⟨ko, rfl⟩ : ∃ ko, gk = ko + 1 := ⟨gk - 1, by have := HI.out; omega⟩
      go_wp2
      go_loopg [6, 22] row.length (fun gj v6 v22 wj => ∃ j : Nat, v6 = .int .u64 (zc + sumR (rows.take i) + sumV (row.take j)) ∧ v22 = .int .i64 (j : Int) ∧ Aside0 (j + gj = row.length) ∧ Aside0 (Below w.heap.size w wj) ∧ Aside0 (zc + sumR (rows.take i) + sumV (row.take j) ≤ 18446744073709551615))
      case atStart => exact ⟨0, by simp [sumV], rfl, ⟨by omega⟩, HB, ⟨by have := HS.out; simpa [sumV] using this⟩⟩
      case round =>
        obtain ⟨j, rfl, rfl, HJ, HBj, HSj⟩ := hrel
        by_cases hltj : j < row.length
        · have hltji : (j : Int) < (row.length : Int) := by omega
          have hj0 : (0 : Int) ≤ (j : Int) := by omega
          obtain ⟨k1, rfl⟩ : ∃ k1, gk = k1 + 1 := ⟨gk - 1, by have := HJ.out; omega⟩
          obtain ⟨ad, e1, hx0, hx1⟩ := at_T30 (Kd.C_below HC.out.2 HBj.out) (j : Int) hj0 hltji
          cases e1
          rw [rdPr_at hltj, Int.toNat_natCast] at hx0 hx1
          have hq := HP2.out.1 _ (List.getElem_mem hltj)
          have HV := Aside0.mk (sumV_take hltj)
          have hT := HT.out (i + 1)
          have hTi := HT.out i
          have hV := sumV_take_le (l := row) (fun p hp => (HP2.out.1 p hp).1) (j + 1)
          have hV0 := sumV_take_le (l := row) (fun p hp => (HP2.out.1 p hp).1) j
          have hz := HZ.out
          generalize row[j] = x at hx0 hx1 HV hq
          have hcv : IntKind.u64.wrap x.f1 = x.f1 := by
            have : IntKind.u64.wrap x.f1 = x.f1 % 18446744073709551616 := rfl
            rw [this]; omega
          obtain ⟨acc, hacc⟩ : ∃ acc, acc = zc + sumR (rows.take i) + sumV (row.take j) := ⟨_, rfl⟩
          rw [← hacc]
          have hs := HSj.out
          rw [← hacc] at hs
          have ha0 : 0 ≤ acc := by have := hz.1; omega
          have hadd := fun w => add64_run acc x.f1 ha0 hq.1 w
          by_cases hov : acc + x.f1 ≤ 18446744073709551615
          · have e1 : (acc + x.f1) % 18446744073709551616 = acc + x.f1 := by omega
            have e2 : (acc + x.f1) / 18446744073709551616 = 0 := by omega
            simp only [e1, e2] at hadd
            have HA := Aside0.mk (And.intro hacc hov)
            clear e1 e2 hacc hov ha0 hs hz hV hV0 hT hTi hq
            go_wp2_with (simp only [hcv, hadd])
            go_roundg k1
            case measure => omega
            case rel =>
              refine ⟨j + 1, ?_, by rw [wrap_succ (by have := HP2.out.2; omega)], ⟨by have := HJ.out; omega⟩, ⟨below_alloc HBj.out _⟩, ⟨?_⟩⟩
              · rw [HV.out, HA.out.1]; congr 1; omega
              · have h1 := HA.out.1; have h2 := HA.out.2; have h3 := HV.out; omega
          · have e1 : (acc + x.f1) / 18446744073709551616 = 1 := by omega
            simp only [e1] at hadd
            have HF := Aside0.mk (show totalRes zc rows = (0, false) by
              unfold totalRes
              rw [if_neg]
              have h3 := HV.out
              have h4 := HSR.out
              omega)
            clear e1 hacc hov ha0 hs hz hV hV0 hT hTi hq
            go_wp2_with (simp only [hcv, hadd])
            go_ret2
            exact ⟨by rw [HF.out]; rfl, below_alloc HBj.out _⟩
        · have hltji : ¬ (j : Int) < (row.length : Int) := by omega
          have HE := Aside0.mk (show zc + sumR (rows.take i) + sumV (row.take j) = zc + sumR (rows.take (i + 1)) by rw [HSR.out, List.take_of_length_le (l := row) (i := j) (by omega)]; omega)
          go_wp2
          go_roundg ko
          case measure => omega
          case rel =>
            refine ⟨i + 1, by rw [HE.out], by rw [wrap_succ (by have := HL2.out.1; omega)], ⟨by have := HI.out; omega⟩, ⟨HBj.out⟩, ⟨by rw [← HE.out]; exact HSj.out⟩⟩
    · have hlti : ¬ (i : Int) < (rows.length : Int) := by omega
      have HF := Aside0.mk (show totalRes zc rows = (zc + sumR (rows.take i), true) by
        unfold totalRes
        have := HS.out
        rw [List.take_of_length_le (l := rows) (i := i) (by omega)] at this ⊢
        rw [if_pos this])
      go_wp2
      go_ret2
      exact ⟨by rw [HF.out]; rfl, HB.out⟩
end Go.Proofs.Ytcabapilejagkaa.P
namespace Go.Proofs.Ytcabapilejagkaa.P
open Go.RowKit Go.Proofs.YtcabapilejagkaaW.PrintWords Go.Proofs.YtcabapilejagkaaW.PrintLast Go.Proofs.YtcabapilejagkaaW.PrintMore
attribute [local go_sem] max2_int min2_int max_two min_two max_three min_three max_four min_four
set_option linter.unusedVariables false
set_option linter.unusedSimpArgs false
def hist_NaN.f (a0 : Int) : Option (Bool) := some (decide ((Go.bits .andNot .u64 a0 9223372036854775808) > 9218868437227405312))
set_option maxHeartbeats 8000000 in
set_option maxRecDepth 100000 in
theorem hist_NaN.calls (a0 : Int) (r : Bool) (w : World) (h : hist_NaN.f a0 = some r) :
  Calls Try.prog 87 #[.int .u64 a0] w fun e w' => e = .returned (.bool r) ∧ Drawn0 w w' := by
 have H : (some (decide ((Go.bits .andNot .u64 a0 9223372036854775808) > 9218868437227405312))) = some r := h
 clear h
 obtain rfl := Option.some.inj H
 go_enter Try.func87, Try.ntmps87
 go_wp2
 go_ret
 exact ⟨by first | rfl | (simp; done) | (simp [*]; done), by repeat (first | exact Drawn0.refl _ | apply Drawn0.step)⟩
def hist_Threshold.f (a0 : Int) : Option (Bool) := some (decide (a0 < 9218868437227405312))
set_option maxHeartbeats 8000000 in
set_option maxRecDepth 100000 in
theorem hist_Threshold.calls (a0 : Int) (r : Bool) (w : World) (h : hist_Threshold.f a0 = some r) :
  Calls Try.prog 88 #[.int .u64 a0] w fun e w' => e = .returned (.bool r) ∧ Drawn0 w w' := by
 have H : (some (decide (a0 < 9218868437227405312))) = some r := h
 clear h
 obtain rfl := Option.some.inj H
 go_enter Try.func88, Try.ntmps88
 go_wp2
 go_ret
 exact ⟨by first | rfl | (simp; done) | (simp [*]; done), by repeat (first | exact Drawn0.refl _ | apply Drawn0.step)⟩
end Go.Proofs.Ytcabapilejagkaa.P
namespace Go.Proofs.Ytcabapilejagkaa.P
open Go.RowKit Go.Shelf Go.Proofs.YtcabapilejagkaaW.PrintWords Go.Proofs.YtcabapilejagkaaW.PrintLast Go.Proofs.YtcabapilejagkaaW.PrintMore
set_option linter.unusedVariables false
set_option linter.unusedSimpArgs false
def nan (v : Int) : Bool := decide ((Go.bits .andNot .u64 v 9223372036854775808) > 9218868437227405312)
def fits (zc ct sm : Int) (p n : List Pr) : Bool := (totalRes zc [p, n]).2 && decide ((totalRes zc [p, n]).1 ≤ ct) && (decide (¬ (totalRes zc [p, n]).1 < ct) || nan sm)
def openRes (s z zc ct sm : Int) (l5 l6 : List Sp) (l7 l8 : List Int) : List Pr × List Pr × Int :=
  if s < -4 ∨ s > 8 then ([], [], 21) else if ¬ z < 9218868437227405312 then ([], [], 11)
  else if (sideRes l5 l7).2 ≠ 0 then ([], [], (sideRes l5 l7).2) else if (sideRes l6 l8).2 ≠ 0 then ([], [], (sideRes l6 l8).2)
  else if fits zc ct sm (sideRes l5 l7).1 (sideRes l6 l8).1 = true then ((sideRes l5 l7).1, (sideRes l6 l8).1, 0) else ([], [], 22)
def wfHi (s z zc ct sm : Int) (l5 l6 : List Sp) (l7 l8 : List Int) : Prop := i64 s ∧ u64 z ∧ u64 zc ∧ u64 ct ∧ u64 sm ∧ wfSps l5 ∧ wfSps l6 ∧ i64s l7 ∧ i64s l8 ∧ l7.length < 4398046511104 ∧ l8.length < 4398046511104
instance (s z zc ct sm : Int) (l5 l6 : List Sp) (l7 l8 : List Int) : Decidable (wfHi s z zc ct sm l5 l6 l7 l8) := by unfold wfHi; exact inferInstance
def hist_open.f (s z zc ct sm : Int) (l5 l6 : List Sp) (l7 l8 : List Int) : Option (List Pr × List Pr × Int) := if wfHi s z zc ct sm l5 l6 l7 l8 then some (openRes s z zc ct sm l5 l6 l7 l8) else none
theorem sideRes_ok {l : List Sp} {d : List Int} (hd : i64s d) (h : (sideRes l d).2 = 0) : (∀ p ∈ (sideRes l d).1, 0 ≤ p.f1 ∧ p.f1 ≤ 9223372036854775807) ∧ (sideRes l d).1.length ≤ 4096 := by
  unfold sideRes at h ⊢
  by_cases c1 : spCheck l = 0
  rotate_left
  · rw [if_neg c1] at h; exact absurd h c1
  rw [if_pos c1] at h ⊢
  by_cases c2 : cntN l = d.length
  rotate_left
  · rw [if_neg c2] at h; cases h
  rw [if_pos c2] at h ⊢
  cases hs : sumsFrom 0 d with
  | none => rw [hs] at h; cases h
  | some c =>
    rw [hs] at h
    simp only at h ⊢
    by_cases c3 : c.any (fun x => decide (x < 0)) = true
    · rw [if_pos c3] at h; cases h
    rw [if_neg c3]
    have hi := sumsFrom_i64 d 0 c hs
    refine ⟨fun p hp => ?_, by have := places_len c1; simp; omega⟩
    have : p.f1 ∈ c := by
      obtain ⟨i, hi2, rfl⟩ := List.mem_iff_getElem.1 hp
      simp only [List.getElem_zipWith]
      exact List.getElem_mem _
    have h1 := hi _ this
    refine ⟨?_, h1.2⟩
    by_cases hneg : p.f1 < 0
    · exact absurd (List.any_eq_true.2 ⟨_, this, decide_eq_true hneg⟩) c3
    · omega
theorem rowsAt_two {w : World} {b1 b2 : Nat} {ok1 ok2 : Nat → Prop} {A B : Option Addr} {c d : Nat} {p n : List Pr} (h1 : Kd.R k30 30 w b1 ok1 (.slice A p.length c) p) (h2 : Kd.R k30 30 w b2 ok2 (.slice B n.length d) n) :
    RowsAt (w.alloc (.cells #[.slice A p.length c, .slice B n.length d] 22)) w.heap.size [p, n] := by
  have hb := blk_new w (.cells #[.slice A p.length c, .slice B n.length d] 22)
  intro i hi
  match i, hi with
  | 0, _ => exact ⟨A, c, (blk_cell hb 0).trans rfl, (Kd.R_reads' h1).2.1, Kd.C_below (Kd.R_reads' h1).2.2 (below_alloc (Below.refl _ _) _)⟩
  | 1, _ => exact ⟨B, d, (blk_cell hb 1).trans rfl, (Kd.R_reads' h2).2.1, Kd.C_below (Kd.R_reads' h2).2.2 (below_alloc (Below.refl _ _) _)⟩
theorem R_apart_two {w : World} {b1 b2 m b0 : Nat} {v1 v2 : Value} {p n : List Pr} (h1 : Kd.R k30 30 w b1 (fun k => k < m ∧ b0 ≤ k) v1 p) (h2 : Kd.R k30 30 w b2 (fun k => m ≤ k ∧ b0 ≤ k) v2 n) :
    Kd.R k30 30 w b1 (fun k_ => (b0 ≤ k_) ∧ some k_ ≠ v2.ownBlock) v1 p ∧ Kd.R k30 30 w b2 (fun k_ => (b0 ≤ k_) ∧ some k_ ≠ v1.ownBlock) v2 n := by
  refine ⟨Kd.R_mono h1 (fun k hk => ⟨hk.2, fun e => ?_⟩), Kd.R_mono h2 (fun k hk => ⟨hk.2, fun e => ?_⟩)⟩
  · have := h2.1 k e.symm; omega
  · have := h1.1 k e.symm; omega
set_option maxHeartbeats 8000000 in
set_option maxRecDepth 100000 in
theorem hist_open.calls (s z zc ct sm : Int) (A5 : Option Addr) (c5 : Nat) (l5 : List Sp) (A6 : Option Addr) (c6 : Nat) (l6 : List Sp) (A7 : Option Addr) (c7 : Nat) (l7 : List Int) (A8 : Option Addr) (c8 : Nat) (l8 : List Int) (r1 r2 : List Pr) (r3 : Int) (w : World)
    (hr5 : Kd.C k108 w A5 l5.length l5) (hc5 : l5.length ≤ c5) (hr6 : Kd.C k108 w A6 l6.length l6) (hc6 : l6.length ≤ c6) (hr7 : Kd.C (Kd.int .i64) w A7 l7.length l7) (hc7 : l7.length ≤ c7) (hr8 : Kd.C (Kd.int .i64) w A8 l8.length l8) (hc8 : l8.length ≤ c8)
    (h : hist_open.f s z zc ct sm l5 l6 l7 l8 = some (r1, r2, r3)) :
    Calls Try.prog 93 #[.agg #[.int .i64 s, .int .u64 z, .int .u64 zc, .int .u64 ct, .int .u64 sm, .slice A5 l5.length c5, .slice A6 l6.length c6, .slice A7 l7.length c7, .slice A8 l8.length c8]] w fun e w' => ∃ v0_ v1_ : Value, e = .returned (.tuple #[v0_, v1_, .int .i64 r3]) ∧ Kd.R k30 30 w' w.heap.size (fun k_ => (w.heap.size ≤ k_) ∧ some k_ ≠ (v1_ : Value).ownBlock) v0_ r1 ∧ Kd.R k30 30 w' w.heap.size (fun k_ => (w.heap.size ≤ k_) ∧ some k_ ≠ (v0_ : Value).ownBlock) v1_ r2 ∧ Below w.heap.size w w' := by
  obtain ⟨hw, h2⟩ := of_ite_some h
  clear h
  obtain ⟨hs, hz, hzc, hct, hsm, hw5, hw6, hi7, hi8, hm7, hm8⟩ := hw
  have hu := Try.underlying37
  have HRA := Aside0.mk (And.intro hr5 (And.intro hr6 (And.intro hr7 hr8)))
  have HCA := Aside0.mk (And.intro hc5 (And.intro hc6 (And.intro hc7 hc8)))
  have H := Aside0.mk h2
  have hs5 : hist_side.f l5 l7 = some (sideRes l5 l7) := if_pos ⟨hw5, hi7, hm7⟩
  have hs6 : hist_side.f l6 l8 = some (sideRes l6 l8) := if_pos ⟨hw6, hi8, hm8⟩
  have hok5 := sideRes_ok (l := l5) hi7
  have hok6 := sideRes_ok (l := l6) hi8
  clear h2 hr5 hr6 hr7 hr8 hc5 hc6 hc7 hc8 hw5 hw6 hi7 hi8 hm7 hm8
  unfold openRes at H
  generalize sideRes l5 l7 = q5 at H hs5 hok5
  generalize sideRes l6 l8 = q6 at H hs6 hok6
  obtain ⟨p, e5⟩ := q5
  obtain ⟨n, e6⟩ := q6
  simp only at H hok5 hok6
  have HS5 := Aside0.mk hs5
  have HS6 := Aside0.mk hs6
  have HOK := Aside0.mk (And.intro hok5 hok6)
  have HU := Aside0.mk (And.intro hzc (And.intro hct hsm))
  clear hs5 hs6 hok5 hok6 hzc hct hsm hs hz
  by_cases c1 : s < -4
  · have H := H.out
    rw [if_pos (Or.inl c1)] at H
    injection H with h4 h5; injection h5 with h5 h6
    subst h4; subst h5; subst h6
    have c1b : decide (s < -4) = true := decide_eq_true c1
    clear c1
    go_enter Try.func93, Try.ntmps93
    go_wp2
    go_ret3
    exact ⟨_, _, rfl, Kd.R_nil _ _ _ _ _, Kd.R_nil _ _ _ _ _, below_alloc (Below.refl _ _) _⟩
  by_cases c2 : s > 8
  · have H := H.out
    rw [if_pos (Or.inr c2)] at H
    injection H with h4 h5; injection h5 with h5 h6
    subst h4; subst h5; subst h6
    have c1b : decide (s < -4) = false := decide_eq_false c1
    have c2b : decide (8 < s) = true := decide_eq_true c2
    clear c1 c2
    go_enter Try.func93, Try.ntmps93
    go_wp2
    go_ret3
    exact ⟨_, _, rfl, Kd.R_nil _ _ _ _ _, Kd.R_nil _ _ _ _ _, below_alloc (Below.refl _ _) _⟩
  have c1b : decide (s < -4) = false := decide_eq_false c1
  have c2b : decide (8 < s) = false := decide_eq_false c2
  rw [if_neg (by omega)] at H
  clear c1 c2
  obtain ⟨tz, htz⟩ : ∃ b, b = decide (z < 9218868437227405312) := ⟨_, rfl⟩
  have HTh := Aside0.mk (show hist_Threshold.f z = some tz by rw [htz]; rfl)
  by_cases c3 : z < 9218868437227405312
  rotate_left
  · have H := H.out
    rw [if_pos c3] at H
    injection H with h4 h5; injection h5 with h5 h6
    subst h4; subst h5; subst h6
    rw [decide_eq_false c3] at htz
    subst htz
    clear c3
    go_enter Try.func93, Try.ntmps93
    go_wp2_with (first | (go_at_call 88; (with_reducible refine (hist_Threshold.calls z _ _ HTh.out).mono ?_); rintro e w1 ⟨rfl, hb⟩; have HB1 := Aside0.mk (below_then (below_alloc (Below.refl w.heap.size w) (.cells #[.int .i64 s, .int .u64 z, .int .u64 zc, .int .u64 ct, .int .u64 sm, .slice A5 l5.length c5, .slice A6 l6.length c6, .slice A7 l7.length c7, .slice A8 l8.length c8] 37)) (by simp) hb.below); have HX1 := Aside0.mk (blk_below (blk_new w (.cells #[.int .i64 s, .int .u64 z, .int .u64 zc, .int .u64 ct, .int .u64 sm, .slice A5 l5.length c5, .slice A6 l6.length c6, .slice A7 l7.length c7, .slice A8 l8.length c8] 37)) hb.below); have hf := fun i => blk_cell HX1.out i; clear hb))
    go_ret3
    exact ⟨_, _, rfl, Kd.R_nil _ _ _ _ _, Kd.R_nil _ _ _ _ _, HB1.out⟩
  rw [decide_eq_true c3] at htz
  subst htz
  rw [if_neg (by omega)] at H
  clear c3
  by_cases c4 : e5 = 0
  rotate_left
  · have H := H.out
    rw [if_pos c4] at H
    injection H with h4 h5; injection h5 with h5 h6
    subst h4; subst h5; subst h6
    have c4b : (e5 == 0) = false := beq_eq_false_iff_ne.2 c4
    have c4c : (e5 != 0) = true := bne_iff_ne.2 c4
    clear c4
    go_enter Try.func93, Try.ntmps93
    go_wp2_with (first | (go_at_call 88; (with_reducible refine (hist_Threshold.calls z _ _ HTh.out).mono ?_); rintro e w1 ⟨rfl, hb⟩; have HB1 := Aside0.mk (below_then (below_alloc (Below.refl w.heap.size w) (.cells #[.int .i64 s, .int .u64 z, .int .u64 zc, .int .u64 ct, .int .u64 sm, .slice A5 l5.length c5, .slice A6 l6.length c6, .slice A7 l7.length c7, .slice A8 l8.length c8] 37)) (by simp) hb.below); have HX1 := Aside0.mk (blk_below (blk_new w (.cells #[.int .i64 s, .int .u64 z, .int .u64 zc, .int .u64 ct, .int .u64 sm, .slice A5 l5.length c5, .slice A6 l6.length c6, .slice A7 l7.length c7, .slice A8 l8.length c8] 37)) hb.below); have hf := fun i => blk_cell HX1.out i; clear hb) | (go_at_call 135; (with_reducible refine (hist_side.calls _ _ l5 _ _ l7 p _ _ (Kd.C_below HRA.out.1 HB1.out) HCA.out.1 (Kd.C_below HRA.out.2.2.1 HB1.out) HCA.out.2.2.1 HS5.out).mono ?_); rintro e w2 ⟨v2, rfl, ho2, hb⟩; have HB2 := Aside0.mk (below_then HB1.out HB1.out.size hb); have HX2 := Aside0.mk (blk_below HX1.out hb); have hf2 := fun i => blk_cell HX2.out i; have HO2 := Aside0.mk (Kd.R_mono (ok' := fun k => k < w2.heap.size ∧ w.heap.size ≤ k) (Kd.R_lower (Kd.R_bound ho2) HB1.out.size) (fun k hk => ⟨hk.2.2.1, Nat.le_trans HB1.out.size hk.2.1⟩)); obtain ⟨B2, d2, eo2⟩ := Kd.R_slice ho2; subst eo2; clear ho2 hb))
    go_ret3
    exact ⟨_, _, rfl, Kd.R_nil _ _ _ _ _, Kd.R_nil _ _ _ _ _, HB2.out⟩
  subst c4
  rw [if_neg (by simp)] at H
  by_cases c5' : e6 = 0
  rotate_left
  · have H := H.out
    rw [if_pos c5'] at H
    injection H with h4 h5; injection h5 with h5 h6
    subst h4; subst h5; subst h6
    have c4b : (e6 == 0) = false := beq_eq_false_iff_ne.2 c5'
    have c4c : (e6 != 0) = true := bne_iff_ne.2 c5'
    clear c5'
    go_enter Try.func93, Try.ntmps93
    go_wp2_with (first | (go_at_call 88; (with_reducible refine (hist_Threshold.calls z _ _ HTh.out).mono ?_); rintro e w1 ⟨rfl, hb⟩; have HB1 := Aside0.mk (below_then (below_alloc (Below.refl w.heap.size w) (.cells #[.int .i64 s, .int .u64 z, .int .u64 zc, .int .u64 ct, .int .u64 sm, .slice A5 l5.length c5, .slice A6 l6.length c6, .slice A7 l7.length c7, .slice A8 l8.length c8] 37)) (by simp) hb.below); have HX1 := Aside0.mk (blk_below (blk_new w (.cells #[.int .i64 s, .int .u64 z, .int .u64 zc, .int .u64 ct, .int .u64 sm, .slice A5 l5.length c5, .slice A6 l6.length c6, .slice A7 l7.length c7, .slice A8 l8.length c8] 37)) hb.below); have hf := fun i => blk_cell HX1.out i; clear hb) | (go_at_call 135; (with_reducible refine (hist_side.calls _ _ l5 _ _ l7 p _ _ (Kd.C_below HRA.out.1 HB1.out) HCA.out.1 (Kd.C_below HRA.out.2.2.1 HB1.out) HCA.out.2.2.1 HS5.out).mono ?_); rintro e w2 ⟨v2, rfl, ho2, hb⟩; have HB2 := Aside0.mk (below_then HB1.out HB1.out.size hb); have HX2 := Aside0.mk (blk_below HX1.out hb); have hf2 := fun i => blk_cell HX2.out i; have HO2 := Aside0.mk (Kd.R_mono (ok' := fun k => k < w2.heap.size ∧ w.heap.size ≤ k) (Kd.R_lower (Kd.R_bound ho2) HB1.out.size) (fun k hk => ⟨hk.2.2.1, Nat.le_trans HB1.out.size hk.2.1⟩)); obtain ⟨B2, d2, eo2⟩ := Kd.R_slice ho2; subst eo2; clear ho2 hb) | (go_at_call 135; (with_reducible refine (hist_side.calls _ _ l6 _ _ l8 n _ _ (Kd.C_below HRA.out.2.1 HB2.out) HCA.out.2.1 (Kd.C_below HRA.out.2.2.2 HB2.out) HCA.out.2.2.2 HS6.out).mono ?_); rintro e w3 ⟨v3, rfl, ho3, hb⟩; have HB3 := Aside0.mk (below_then HB2.out HB2.out.size hb); have HX3 := Aside0.mk (blk_below HX2.out hb); have hf3 := fun i => blk_cell HX3.out i; have HO3 := Aside0.mk (And.intro (Kd.R_below HO2.out hb) (Kd.R_mono (ok' := fun k => w2.heap.size ≤ k ∧ w.heap.size ≤ k) (Kd.R_lower (Kd.R_bound ho3) HB2.out.size) (fun k hk => ⟨hk.2.1, Nat.le_trans HB2.out.size hk.2.1⟩))); obtain ⟨B3, d3, eo3⟩ := Kd.R_slice ho3; subst eo3; clear ho3 hb))
    go_ret3
    exact ⟨_, _, rfl, Kd.R_nil _ _ _ _ _, Kd.R_nil _ _ _ _ _, HB3.out⟩
  subst c5'
  rw [if_neg (by simp)] at H
  have HV := Aside0.mk (show u64 zc ∧ (∀ r ∈ [p, n], ∀ q ∈ r, 0 ≤ q.f1 ∧ q.f1 ≤ 9223372036854775807) ∧ (∀ r ∈ [p, n], r.length ≤ 4611686018427387904) by
    have h1 := HOK.out.1 rfl
    have h2 := HOK.out.2 rfl
    refine ⟨HU.out.1, fun r hr => ?_, fun r hr => ?_⟩
    · simp at hr; rcases hr with rfl | rfl
      · exact h1.1
      · exact h2.1
    · simp at hr; rcases hr with rfl | rfl <;> omega)
  obtain ⟨⟨tt, tb⟩, htt⟩ : ∃ t, t = totalRes zc [p, n] := ⟨_, rfl⟩
  have HTot := Aside0.mk htt.symm
  obtain ⟨bn, hbn⟩ : ∃ b, b = nan sm := ⟨_, rfl⟩
  have HNa := Aside0.mk (show hist_NaN.f sm = some bn by rw [hbn]; rfl)
  unfold fits at H
  rw [← htt, ← hbn] at H
  simp only at H
  clear htt hbn
  cases tb with
  | false =>
    have H := H.out
    rw [if_neg (by simp)] at H
    injection H with h4 h5; injection h5 with h5 h6
    subst h4; subst h5; subst h6
    go_enter Try.func93, Try.ntmps93
    go_wp2_with (first | (go_at_call 88; (with_reducible refine (hist_Threshold.calls z _ _ HTh.out).mono ?_); rintro e w1 ⟨rfl, hb⟩; have HB1 := Aside0.mk (below_then (below_alloc (Below.refl w.heap.size w) (.cells #[.int .i64 s, .int .u64 z, .int .u64 zc, .int .u64 ct, .int .u64 sm, .slice A5 l5.length c5, .slice A6 l6.length c6, .slice A7 l7.length c7, .slice A8 l8.length c8] 37)) (by simp) hb.below); have HX1 := Aside0.mk (blk_below (blk_new w (.cells #[.int .i64 s, .int .u64 z, .int .u64 zc, .int .u64 ct, .int .u64 sm, .slice A5 l5.length c5, .slice A6 l6.length c6, .slice A7 l7.length c7, .slice A8 l8.length c8] 37)) hb.below); have hf := fun i => blk_cell HX1.out i; clear hb) | (go_at_call 135; (with_reducible refine (hist_side.calls _ _ l5 _ _ l7 p _ _ (Kd.C_below HRA.out.1 HB1.out) HCA.out.1 (Kd.C_below HRA.out.2.2.1 HB1.out) HCA.out.2.2.1 HS5.out).mono ?_); rintro e w2 ⟨v2, rfl, ho2, hb⟩; have HB2 := Aside0.mk (below_then HB1.out HB1.out.size hb); have HX2 := Aside0.mk (blk_below HX1.out hb); have hf2 := fun i => blk_cell HX2.out i; have HO2 := Aside0.mk (Kd.R_mono (ok' := fun k => k < w2.heap.size ∧ w.heap.size ≤ k) (Kd.R_lower (Kd.R_bound ho2) HB1.out.size) (fun k hk => ⟨hk.2.2.1, Nat.le_trans HB1.out.size hk.2.1⟩)); obtain ⟨B2, d2, eo2⟩ := Kd.R_slice ho2; subst eo2; clear ho2 hb) | (go_at_call 135; (with_reducible refine (hist_side.calls _ _ l6 _ _ l8 n _ _ (Kd.C_below HRA.out.2.1 HB2.out) HCA.out.2.1 (Kd.C_below HRA.out.2.2.2 HB2.out) HCA.out.2.2.2 HS6.out).mono ?_); rintro e w3 ⟨v3, rfl, ho3, hb⟩; have HB3 := Aside0.mk (below_then HB2.out HB2.out.size hb); have HX3 := Aside0.mk (blk_below HX2.out hb); have hf3 := fun i => blk_cell HX3.out i; have HO3 := Aside0.mk (And.intro (Kd.R_below HO2.out hb) (Kd.R_mono (ok' := fun k => w2.heap.size ≤ k ∧ w.heap.size ≤ k) (Kd.R_lower (Kd.R_bound ho3) HB2.out.size) (fun k hk => ⟨hk.2.1, Nat.le_trans HB2.out.size hk.2.1⟩))); obtain ⟨B3, d3, eo3⟩ := Kd.R_slice ho3; subst eo3; clear ho3 hb) | (go_at_call 136; refine (hist_total s z zc ct sm _ _ _ _ _ _ _ _ _ _ _ _ w3.heap.size _ [p, n] _ HV.out.1 HV.out.2.1 HV.out.2.2 (by simp) (by simp) (rowsAt_two HO3.out.1 HO3.out.2)).mono ?_; rintro e w4 ⟨rfl, hb⟩; rw [HTot.out]; have HB4 := Aside0.mk (below_then HB3.out HB3.out.size (below_then (below_alloc (Below.refl _ _) _) (by simp) hb)); have HX4 := Aside0.mk (blk_below HX3.out (below_then (below_alloc (Below.refl _ _) _) (by simp) hb)); have hf4 := fun i => blk_cell HX4.out i; have HO4 := Aside0.mk (And.intro (Kd.R_below HO3.out.1 (below_then (below_alloc (Below.refl _ _) _) (by simp) hb)) (Kd.R_below HO3.out.2 (below_then (below_alloc (Below.refl _ _) _) (by simp) hb))); clear hb))
    go_ret3
    exact ⟨_, _, rfl, Kd.R_nil _ _ _ _ _, Kd.R_nil _ _ _ _ _, HB4.out⟩
  | true =>
    by_cases d1 : ct < tt
    · have d1b : decide (ct < tt) = true := decide_eq_true d1
      have H := H.out
      rw [if_neg (by simp; omega)] at H
      injection H with h4 h5; injection h5 with h5 h6
      subst h4; subst h5; subst h6
      clear d1
      go_enter Try.func93, Try.ntmps93
      go_wp2_with (first | (go_at_call 88; (with_reducible refine (hist_Threshold.calls z _ _ HTh.out).mono ?_); rintro e w1 ⟨rfl, hb⟩; have HB1 := Aside0.mk (below_then (below_alloc (Below.refl w.heap.size w) (.cells #[.int .i64 s, .int .u64 z, .int .u64 zc, .int .u64 ct, .int .u64 sm, .slice A5 l5.length c5, .slice A6 l6.length c6, .slice A7 l7.length c7, .slice A8 l8.length c8] 37)) (by simp) hb.below); have HX1 := Aside0.mk (blk_below (blk_new w (.cells #[.int .i64 s, .int .u64 z, .int .u64 zc, .int .u64 ct, .int .u64 sm, .slice A5 l5.length c5, .slice A6 l6.length c6, .slice A7 l7.length c7, .slice A8 l8.length c8] 37)) hb.below); have hf := fun i => blk_cell HX1.out i; clear hb) | (go_at_call 135; (with_reducible refine (hist_side.calls _ _ l5 _ _ l7 p _ _ (Kd.C_below HRA.out.1 HB1.out) HCA.out.1 (Kd.C_below HRA.out.2.2.1 HB1.out) HCA.out.2.2.1 HS5.out).mono ?_); rintro e w2 ⟨v2, rfl, ho2, hb⟩; have HB2 := Aside0.mk (below_then HB1.out HB1.out.size hb); have HX2 := Aside0.mk (blk_below HX1.out hb); have hf2 := fun i => blk_cell HX2.out i; have HO2 := Aside0.mk (Kd.R_mono (ok' := fun k => k < w2.heap.size ∧ w.heap.size ≤ k) (Kd.R_lower (Kd.R_bound ho2) HB1.out.size) (fun k hk => ⟨hk.2.2.1, Nat.le_trans HB1.out.size hk.2.1⟩)); obtain ⟨B2, d2, eo2⟩ := Kd.R_slice ho2; subst eo2; clear ho2 hb) | (go_at_call 135; (with_reducible refine (hist_side.calls _ _ l6 _ _ l8 n _ _ (Kd.C_below HRA.out.2.1 HB2.out) HCA.out.2.1 (Kd.C_below HRA.out.2.2.2 HB2.out) HCA.out.2.2.2 HS6.out).mono ?_); rintro e w3 ⟨v3, rfl, ho3, hb⟩; have HB3 := Aside0.mk (below_then HB2.out HB2.out.size hb); have HX3 := Aside0.mk (blk_below HX2.out hb); have hf3 := fun i => blk_cell HX3.out i; have HO3 := Aside0.mk (And.intro (Kd.R_below HO2.out hb) (Kd.R_mono (ok' := fun k => w2.heap.size ≤ k ∧ w.heap.size ≤ k) (Kd.R_lower (Kd.R_bound ho3) HB2.out.size) (fun k hk => ⟨hk.2.1, Nat.le_trans HB2.out.size hk.2.1⟩))); obtain ⟨B3, d3, eo3⟩ := Kd.R_slice ho3; subst eo3; clear ho3 hb) | (go_at_call 136; refine (hist_total s z zc ct sm _ _ _ _ _ _ _ _ _ _ _ _ w3.heap.size _ [p, n] _ HV.out.1 HV.out.2.1 HV.out.2.2 (by simp) (by simp) (rowsAt_two HO3.out.1 HO3.out.2)).mono ?_; rintro e w4 ⟨rfl, hb⟩; rw [HTot.out]; have HB4 := Aside0.mk (below_then HB3.out HB3.out.size (below_then (below_alloc (Below.refl _ _) _) (by simp) hb)); have HX4 := Aside0.mk (blk_below HX3.out (below_then (below_alloc (Below.refl _ _) _) (by simp) hb)); have hf4 := fun i => blk_cell HX4.out i; have HO4 := Aside0.mk (And.intro (Kd.R_below HO3.out.1 (below_then (below_alloc (Below.refl _ _) _) (by simp) hb)) (Kd.R_below HO3.out.2 (below_then (below_alloc (Below.refl _ _) _) (by simp) hb))); clear hb))
      go_ret3
      exact ⟨_, _, rfl, Kd.R_nil _ _ _ _ _, Kd.R_nil _ _ _ _ _, HB4.out⟩
    have d1b : decide (ct < tt) = false := decide_eq_false d1
    by_cases d2 : tt < ct
    · have d2b : decide (tt < ct) = true := decide_eq_true d2
      cases bn with
      | false =>
        have H := H.out
        rw [if_neg (by simp; omega)] at H
        injection H with h4 h5; injection h5 with h5 h6
        subst h4; subst h5; subst h6
        clear d1 d2
        go_enter Try.func93, Try.ntmps93
        go_wp2_with (first | (go_at_call 88; (with_reducible refine (hist_Threshold.calls z _ _ HTh.out).mono ?_); rintro e w1 ⟨rfl, hb⟩; have HB1 := Aside0.mk (below_then (below_alloc (Below.refl w.heap.size w) (.cells #[.int .i64 s, .int .u64 z, .int .u64 zc, .int .u64 ct, .int .u64 sm, .slice A5 l5.length c5, .slice A6 l6.length c6, .slice A7 l7.length c7, .slice A8 l8.length c8] 37)) (by simp) hb.below); have HX1 := Aside0.mk (blk_below (blk_new w (.cells #[.int .i64 s, .int .u64 z, .int .u64 zc, .int .u64 ct, .int .u64 sm, .slice A5 l5.length c5, .slice A6 l6.length c6, .slice A7 l7.length c7, .slice A8 l8.length c8] 37)) hb.below); have hf := fun i => blk_cell HX1.out i; clear hb) | (go_at_call 135; (with_reducible refine (hist_side.calls _ _ l5 _ _ l7 p _ _ (Kd.C_below HRA.out.1 HB1.out) HCA.out.1 (Kd.C_below HRA.out.2.2.1 HB1.out) HCA.out.2.2.1 HS5.out).mono ?_); rintro e w2 ⟨v2, rfl, ho2, hb⟩; have HB2 := Aside0.mk (below_then HB1.out HB1.out.size hb); have HX2 := Aside0.mk (blk_below HX1.out hb); have hf2 := fun i => blk_cell HX2.out i; have HO2 := Aside0.mk (Kd.R_mono (ok' := fun k => k < w2.heap.size ∧ w.heap.size ≤ k) (Kd.R_lower (Kd.R_bound ho2) HB1.out.size) (fun k hk => ⟨hk.2.2.1, Nat.le_trans HB1.out.size hk.2.1⟩)); obtain ⟨B2, d2, eo2⟩ := Kd.R_slice ho2; subst eo2; clear ho2 hb) | (go_at_call 135; (with_reducible refine (hist_side.calls _ _ l6 _ _ l8 n _ _ (Kd.C_below HRA.out.2.1 HB2.out) HCA.out.2.1 (Kd.C_below HRA.out.2.2.2 HB2.out) HCA.out.2.2.2 HS6.out).mono ?_); rintro e w3 ⟨v3, rfl, ho3, hb⟩; have HB3 := Aside0.mk (below_then HB2.out HB2.out.size hb); have HX3 := Aside0.mk (blk_below HX2.out hb); have hf3 := fun i => blk_cell HX3.out i; have HO3 := Aside0.mk (And.intro (Kd.R_below HO2.out hb) (Kd.R_mono (ok' := fun k => w2.heap.size ≤ k ∧ w.heap.size ≤ k) (Kd.R_lower (Kd.R_bound ho3) HB2.out.size) (fun k hk => ⟨hk.2.1, Nat.le_trans HB2.out.size hk.2.1⟩))); obtain ⟨B3, d3, eo3⟩ := Kd.R_slice ho3; subst eo3; clear ho3 hb) | (go_at_call 136; refine (hist_total s z zc ct sm _ _ _ _ _ _ _ _ _ _ _ _ w3.heap.size _ [p, n] _ HV.out.1 HV.out.2.1 HV.out.2.2 (by simp) (by simp) (rowsAt_two HO3.out.1 HO3.out.2)).mono ?_; rintro e w4 ⟨rfl, hb⟩; rw [HTot.out]; have HB4 := Aside0.mk (below_then HB3.out HB3.out.size (below_then (below_alloc (Below.refl _ _) _) (by simp) hb)); have HX4 := Aside0.mk (blk_below HX3.out (below_then (below_alloc (Below.refl _ _) _) (by simp) hb)); have hf4 := fun i => blk_cell HX4.out i; have HO4 := Aside0.mk (And.intro (Kd.R_below HO3.out.1 (below_then (below_alloc (Below.refl _ _) _) (by simp) hb)) (Kd.R_below HO3.out.2 (below_then (below_alloc (Below.refl _ _) _) (by simp) hb))); clear hb) | (go_at_call 87; (with_reducible refine (hist_NaN.calls sm _ _ HNa.out).mono ?_); rintro e w5 ⟨rfl, hb⟩; have HB5 := Aside0.mk (below_then HB4.out HB4.out.size hb.below); have HX5 := Aside0.mk (blk_below HX4.out hb.below); have hf5 := fun i => blk_cell HX5.out i; have HO5 := Aside0.mk (And.intro (Kd.R_below HO4.out.1 hb.below) (Kd.R_below HO4.out.2 hb.below)); clear hb))
        go_ret3
        exact ⟨_, _, rfl, Kd.R_nil _ _ _ _ _, Kd.R_nil _ _ _ _ _, HB5.out⟩
      | true =>
        have H := H.out
        rw [if_pos (by simp; omega)] at H
        injection H with h4 h5; injection h5 with h5 h6
        subst h4; subst h5; subst h6
        clear d1 d2
        go_enter Try.func93, Try.ntmps93
        go_wp2_with (first | (go_at_call 88; (with_reducible refine (hist_Threshold.calls z _ _ HTh.out).mono ?_); rintro e w1 ⟨rfl, hb⟩; have HB1 := Aside0.mk (below_then (below_alloc (Below.refl w.heap.size w) (.cells #[.int .i64 s, .int .u64 z, .int .u64 zc, .int .u64 ct, .int .u64 sm, .slice A5 l5.length c5, .slice A6 l6.length c6, .slice A7 l7.length c7, .slice A8 l8.length c8] 37)) (by simp) hb.below); have HX1 := Aside0.mk (blk_below (blk_new w (.cells #[.int .i64 s, .int .u64 z, .int .u64 zc, .int .u64 ct, .int .u64 sm, .slice A5 l5.length c5, .slice A6 l6.length c6, .slice A7 l7.length c7, .slice A8 l8.length c8] 37)) hb.below); have hf := fun i => blk_cell HX1.out i; clear hb) | (go_at_call 135; (with_reducible refine (hist_side.calls _ _ l5 _ _ l7 p _ _ (Kd.C_below HRA.out.1 HB1.out) HCA.out.1 (Kd.C_below HRA.out.2.2.1 HB1.out) HCA.out.2.2.1 HS5.out).mono ?_); rintro e w2 ⟨v2, rfl, ho2, hb⟩; have HB2 := Aside0.mk (below_then HB1.out HB1.out.size hb); have HX2 := Aside0.mk (blk_below HX1.out hb); have hf2 := fun i => blk_cell HX2.out i; have HO2 := Aside0.mk (Kd.R_mono (ok' := fun k => k < w2.heap.size ∧ w.heap.size ≤ k) (Kd.R_lower (Kd.R_bound ho2) HB1.out.size) (fun k hk => ⟨hk.2.2.1, Nat.le_trans HB1.out.size hk.2.1⟩)); obtain ⟨B2, d2, eo2⟩ := Kd.R_slice ho2; subst eo2; clear ho2 hb) | (go_at_call 135; (with_reducible refine (hist_side.calls _ _ l6 _ _ l8 n _ _ (Kd.C_below HRA.out.2.1 HB2.out) HCA.out.2.1 (Kd.C_below HRA.out.2.2.2 HB2.out) HCA.out.2.2.2 HS6.out).mono ?_); rintro e w3 ⟨v3, rfl, ho3, hb⟩; have HB3 := Aside0.mk (below_then HB2.out HB2.out.size hb); have HX3 := Aside0.mk (blk_below HX2.out hb); have hf3 := fun i => blk_cell HX3.out i; have HO3 := Aside0.mk (And.intro (Kd.R_below HO2.out hb) (Kd.R_mono (ok' := fun k => w2.heap.size ≤ k ∧ w.heap.size ≤ k) (Kd.R_lower (Kd.R_bound ho3) HB2.out.size) (fun k hk => ⟨hk.2.1, Nat.le_trans HB2.out.size hk.2.1⟩))); obtain ⟨B3, d3, eo3⟩ := Kd.R_slice ho3; subst eo3; clear ho3 hb) | (go_at_call 136; refine (hist_total s z zc ct sm _ _ _ _ _ _ _ _ _ _ _ _ w3.heap.size _ [p, n] _ HV.out.1 HV.out.2.1 HV.out.2.2 (by simp) (by simp) (rowsAt_two HO3.out.1 HO3.out.2)).mono ?_; rintro e w4 ⟨rfl, hb⟩; rw [HTot.out]; have HB4 := Aside0.mk (below_then HB3.out HB3.out.size (below_then (below_alloc (Below.refl _ _) _) (by simp) hb)); have HX4 := Aside0.mk (blk_below HX3.out (below_then (below_alloc (Below.refl _ _) _) (by simp) hb)); have hf4 := fun i => blk_cell HX4.out i; have HO4 := Aside0.mk (And.intro (Kd.R_below HO3.out.1 (below_then (below_alloc (Below.refl _ _) _) (by simp) hb)) (Kd.R_below HO3.out.2 (below_then (below_alloc (Below.refl _ _) _) (by simp) hb))); clear hb) | (go_at_call 87; (with_reducible refine (hist_NaN.calls sm _ _ HNa.out).mono ?_); rintro e w5 ⟨rfl, hb⟩; have HB5 := Aside0.mk (below_then HB4.out HB4.out.size hb.below); have HX5 := Aside0.mk (blk_below HX4.out hb.below); have hf5 := fun i => blk_cell HX5.out i; have HO5 := Aside0.mk (And.intro (Kd.R_below HO4.out.1 hb.below) (Kd.R_below HO4.out.2 hb.below)); clear hb))
        go_ret3
        exact ⟨_, _, rfl, (R_apart_two HO5.out.1 HO5.out.2).1, (R_apart_two HO5.out.1 HO5.out.2).2, HB5.out⟩
    · have d2b : decide (tt < ct) = false := decide_eq_false d2
      have H := H.out
      rw [if_pos (by simp; omega)] at H
      injection H with h4 h5; injection h5 with h5 h6
      subst h4; subst h5; subst h6
      clear d1 d2
      go_enter Try.func93, Try.ntmps93
      go_wp2_with (first | (go_at_call 88; (with_reducible refine (hist_Threshold.calls z _ _ HTh.out).mono ?_); rintro e w1 ⟨rfl, hb⟩; have HB1 := Aside0.mk (below_then (below_alloc (Below.refl w.heap.size w) (.cells #[.int .i64 s, .int .u64 z, .int .u64 zc, .int .u64 ct, .int .u64 sm, .slice A5 l5.length c5, .slice A6 l6.length c6, .slice A7 l7.length c7, .slice A8 l8.length c8] 37)) (by simp) hb.below); have HX1 := Aside0.mk (blk_below (blk_new w (.cells #[.int .i64 s, .int .u64 z, .int .u64 zc, .int .u64 ct, .int .u64 sm, .slice A5 l5.length c5, .slice A6 l6.length c6, .slice A7 l7.length c7, .slice A8 l8.length c8] 37)) hb.below); have hf := fun i => blk_cell HX1.out i; clear hb) | (go_at_call 135; (with_reducible refine (hist_side.calls _ _ l5 _ _ l7 p _ _ (Kd.C_below HRA.out.1 HB1.out) HCA.out.1 (Kd.C_below HRA.out.2.2.1 HB1.out) HCA.out.2.2.1 HS5.out).mono ?_); rintro e w2 ⟨v2, rfl, ho2, hb⟩; have HB2 := Aside0.mk (below_then HB1.out HB1.out.size hb); have HX2 := Aside0.mk (blk_below HX1.out hb); have hf2 := fun i => blk_cell HX2.out i; have HO2 := Aside0.mk (Kd.R_mono (ok' := fun k => k < w2.heap.size ∧ w.heap.size ≤ k) (Kd.R_lower (Kd.R_bound ho2) HB1.out.size) (fun k hk => ⟨hk.2.2.1, Nat.le_trans HB1.out.size hk.2.1⟩)); obtain ⟨B2, d2, eo2⟩ := Kd.R_slice ho2; subst eo2; clear ho2 hb) | (go_at_call 135; (with_reducible refine (hist_side.calls _ _ l6 _ _ l8 n _ _ (Kd.C_below HRA.out.2.1 HB2.out) HCA.out.2.1 (Kd.C_below HRA.out.2.2.2 HB2.out) HCA.out.2.2.2 HS6.out).mono ?_); rintro e w3 ⟨v3, rfl, ho3, hb⟩; have HB3 := Aside0.mk (below_then HB2.out HB2.out.size hb); have HX3 := Aside0.mk (blk_below HX2.out hb); have hf3 := fun i => blk_cell HX3.out i; have HO3 := Aside0.mk (And.intro (Kd.R_below HO2.out hb) (Kd.R_mono (ok' := fun k => w2.heap.size ≤ k ∧ w.heap.size ≤ k) (Kd.R_lower (Kd.R_bound ho3) HB2.out.size) (fun k hk => ⟨hk.2.1, Nat.le_trans HB2.out.size hk.2.1⟩))); obtain ⟨B3, d3, eo3⟩ := Kd.R_slice ho3; subst eo3; clear ho3 hb) | (go_at_call 136; refine (hist_total s z zc ct sm _ _ _ _ _ _ _ _ _ _ _ _ w3.heap.size _ [p, n] _ HV.out.1 HV.out.2.1 HV.out.2.2 (by simp) (by simp) (rowsAt_two HO3.out.1 HO3.out.2)).mono ?_; rintro e w4 ⟨rfl, hb⟩; rw [HTot.out]; have HB4 := Aside0.mk (below_then HB3.out HB3.out.size (below_then (below_alloc (Below.refl _ _) _) (by simp) hb)); have HX4 := Aside0.mk (blk_below HX3.out (below_then (below_alloc (Below.refl _ _) _) (by simp) hb)); have hf4 := fun i => blk_cell HX4.out i; have HO4 := Aside0.mk (And.intro (Kd.R_below HO3.out.1 (below_then (below_alloc (Below.refl _ _) _) (by simp) hb)) (Kd.R_below HO3.out.2 (below_then (below_alloc (Below.refl _ _) _) (by simp) hb))); clear hb))
      go_ret3
      exact ⟨_, _, rfl, (R_apart_two HO4.out.1 HO4.out.2).1, (R_apart_two HO4.out.1 HO4.out.2).2, HB4.out⟩
end Go.Proofs.Ytcabapilejagkaa.P
namespace Go.Proofs.Ytcabapilejagkaa.P
set_option linter.unusedVariables false
set_option linter.unusedSimpArgs false
section
variable {α : Type} (key val : α → Int)
def Ups (l : List α) : Prop := l.Pairwise (fun a b => key a < key b)
variable {key val}
theorem Ups.nil : Ups key ([] : List α) := List.Pairwise.nil
theorem Ups.tail {x : α} {l : List α} (h : Ups key (x :: l)) : Ups key l := (List.pairwise_cons.1 h).2
theorem Ups.head {x : α} {l : List α} (h : Ups key (x :: l)) : ∀ y ∈ l, key x < key y := (List.pairwise_cons.1 h).1
theorem Ups.filter {l : List α} (p : α → Bool) (h : Ups key l) : Ups key (l.filter p) := List.Pairwise.filter p h
theorem Ups.inj {l : List α} (hu : Ups key l) {x y : α} (hx : x ∈ l) (hy : y ∈ l) (h : key x = key y) : x = y := by
  induction l with
  | nil => cases hx
  | cons z l ih =>
    rcases List.mem_cons.1 hx with e1 | hx1
    · rcases List.mem_cons.1 hy with e2 | hy1
      · rw [e1, e2]
      · have := hu.head y hy1; rw [e1] at h; omega
    · rcases List.mem_cons.1 hy with e2 | hy1
      · have := hu.head x hx1; rw [e2] at h; omega
      · exact ih hu.tail hx1 hy1
end
section
variable {β α ρ : Type}
end
section
variable {α : Type} {key val : α → Int}
end
section
variable {α : Type}
variable {key : α → Int} {join : α → α → α}
end
end Go.Proofs.Ytcabapilejagkaa.P
namespace Go.Proofs.Ytcabapilejagkaa.P
open Go.RowKit Go.Shelf Go.Proofs.YtcabapilejagkaaW.PrintWords Go.Proofs.YtcabapilejagkaaW.PrintLast Go.Proofs.YtcabapilejagkaaW.PrintMore
set_option linter.unusedVariables false
set_option linter.unusedSimpArgs false
def SI {α : Type} (d : Kd α) (w : World) (v : Value) (l : List α) : Prop := ∃ A c, v = .slice A l.length c ∧ l.length ≤ c ∧ d.C w A l.length l
theorem SI.below {α : Type} {d : Kd α} {w w' : World} {v : Value} {l : List α} (h : SI d w v l) (hb : Below w.heap.size w w') : SI d w' v l := by
  obtain ⟨A, c, e, h1, h2⟩ := h
  exact ⟨A, c, e, h1, Kd.C_below h2 hb⟩
theorem SI.of {α : Type} {d : Kd α} {w : World} {A : Option Addr} {c : Nat} {l : List α} (h2 : d.C w A l.length l) (h1 : l.length ≤ c) : SI d w (.slice A l.length c) l := ⟨A, c, rfl, h1, h2⟩
theorem SI.of_R {α : Type} {d : Kd α} {e : Nat} {w : World} {base : Nat} {ok : Nat → Prop} {v : Value} {l : List α} (h : d.R e w base ok v l) : SI d w v l := Kd.R_reads h
theorem SI.nil {α : Type} (d : Kd α) (w : World) : SI d w (.slice none 0 0) [] := ⟨none, 0, rfl, Nat.le_refl _, Kd.C_nil d w⟩
abbrev Hi := S37
abbrev kSp := k108
abbrev kPr := k30
def HI (w : World) (v : Value) (h : Hi) : Prop :=
  ∃ v5 v6 v7 v8, v = .agg #[.int .i64 h.f0, .int .u64 h.f1, .int .u64 h.f2, .int .u64 h.f3, .int .u64 h.f4, v5, v6, v7, v8] ∧ SI kSp w v5 h.f5 ∧ SI kSp w v6 h.f6 ∧ SI (Kd.int .i64) w v7 h.f7 ∧ SI (Kd.int .i64) w v8 h.f8
theorem HI.below {w w' : World} {v : Value} {h : Hi} (x : HI w v h) (hb : Below w.heap.size w w') : HI w' v h := by
  obtain ⟨v5, v6, v7, v8, e, h5, h6, h7, h8⟩ := x
  exact ⟨v5, v6, v7, v8, e, h5.below hb, h6.below hb, h7.below hb, h8.below hb⟩
theorem HI.open_ {w : World} {v : Value} {h : Hi} (x : HI w v h) : ∃ A5 c5 A6 c6 A7 c7 A8 c8, v = .agg #[.int .i64 h.f0, .int .u64 h.f1, .int .u64 h.f2, .int .u64 h.f3, .int .u64 h.f4, .slice A5 h.f5.length c5, .slice A6 h.f6.length c6, .slice A7 h.f7.length c7, .slice A8 h.f8.length c8] ∧
    SI kSp w (.slice A5 h.f5.length c5) h.f5 ∧ SI kSp w (.slice A6 h.f6.length c6) h.f6 ∧ SI (Kd.int .i64) w (.slice A7 h.f7.length c7) h.f7 ∧ SI (Kd.int .i64) w (.slice A8 h.f8.length c8) h.f8 := by
  obtain ⟨v5, v6, v7, v8, rfl, h5, h6, h7, h8⟩ := x
  obtain ⟨A5, c5, rfl, h51, h52⟩ := h5
  obtain ⟨A6, c6, rfl, h61, h62⟩ := h6
  obtain ⟨A7, c7, rfl, h71, h72⟩ := h7
  obtain ⟨A8, c8, rfl, h81, h82⟩ := h8
  exact ⟨A5, c5, A6, c6, A7, c7, A8, c8, rfl, .of h52 h51, .of h62 h61, .of h72 h71, .of h82 h81⟩
theorem HI.mk {w : World} {h : Hi} {v5 v6 v7 v8 : Value} (h5 : SI kSp w v5 h.f5) (h6 : SI kSp w v6 h.f6) (h7 : SI (Kd.int .i64) w v7 h.f7) (h8 : SI (Kd.int .i64) w v8 h.f8) :
    HI w (.agg #[.int .i64 h.f0, .int .u64 h.f1, .int .u64 h.f2, .int .u64 h.f3, .int .u64 h.f4, v5, v6, v7, v8]) h := ⟨v5, v6, v7, v8, rfl, h5, h6, h7, h8⟩
def wfH (h : Hi) : Prop := wfHi h.f0 h.f1 h.f2 h.f3 h.f4 h.f5 h.f6 h.f7 h.f8
def openR (h : Hi) : List Pr × List Pr × Int := openRes h.f0 h.f1 h.f2 h.f3 h.f4 h.f5 h.f6 h.f7 h.f8
def checkR (h : Hi) : Int := (openR h).2.2
theorem open_c (h : Hi) (hw : wfH h) (w : World) (v : Value) (hv : HI w v h) : Calls Try.prog 93 #[v] w fun e w' =>
    ∃ v0 v1 : Value, e = .returned (.tuple #[v0, v1, .int .i64 (openR h).2.2]) ∧ SI kPr w' v0 (openR h).1 ∧ SI kPr w' v1 (openR h).2.1 ∧ Below w.heap.size w w' := by
  obtain ⟨A5, c5, A6, c6, A7, c7, A8, c8, rfl, ⟨_, _, e5, h51, h52⟩, ⟨_, _, e6, h61, h62⟩, ⟨_, _, e7, h71, h72⟩, ⟨_, _, e8, h81, h82⟩⟩ := hv.open_
  cases e5; cases e6; cases e7; cases e8
  refine (hist_open.calls h.f0 h.f1 h.f2 h.f3 h.f4 A5 c5 h.f5 A6 c6 h.f6 A7 c7 h.f7 A8 c8 h.f8 (openR h).1 (openR h).2.1 (openR h).2.2 w h52 h51 h62 h61 h72 h71 h82 h81 (if_pos hw)).mono ?_
  rintro e w1 ⟨v0, v1, rfl, h0, h1, hb⟩
  exact ⟨v0, v1, rfl, .of_R h0, .of_R h1, hb⟩
set_option maxHeartbeats 4000000 in
set_option maxRecDepth 100000 in
theorem check_c (h : Hi) (hw : wfH h) (w : World) (v : Value) (hv : HI w v h) : Calls Try.prog 72 #[v] w fun e w' =>
    e = .returned (.int .i64 (checkR h)) ∧ Below w.heap.size w w' := by
  have hu := Try.underlying37
  obtain ⟨A5, c5, A6, c6, A7, c7, A8, c8, e, -⟩ := hv.open_
  subst e
  have HV := Aside0.mk hv
  have HW := Aside0.mk hw
  clear hv hw
  go_enter Try.func72, Try.ntmps72
  go_wp2_with (go_at_call 93; (with_reducible refine (open_c h HW.out _ _ (HV.out.below (below_alloc (Below.refl _ _) _))).mono ?_); rintro e w1 ⟨v0, v1, rfl, h0, h1, hb⟩; have HB := Aside0.mk (below_then (below_alloc (Below.refl w.heap.size w) _) (by simp) hb); clear h0 h1 hb)
  go_ret
  exact ⟨rfl, HB.out⟩
end Go.Proofs.Ytcabapilejagkaa.P
namespace Go.Proofs.Ytcabapilejagkaa.P
open Go.RowKit Go.Shelf Go.Proofs.YtcabapilejagkaaW.PrintWords Go.Proofs.YtcabapilejagkaaW.PrintLast Go.Proofs.YtcabapilejagkaaW.PrintMore
set_option linter.unusedVariables false
set_option linter.unusedSimpArgs false
def KA (base : Nat) (w w' : World) : Prop := w.heap.size ≤ w'.heap.size ∧ ∀ k, base ≤ k → k < w.heap.size → w'.heap[k]? = w.heap[k]?
theorem KA.refl (base : Nat) (w : World) : KA base w w := ⟨Nat.le_refl _, fun _ _ _ => rfl⟩
theorem KA.trans {base : Nat} {a b c : World} (h : KA base a b) (k : KA base b c) : KA base a c := ⟨Nat.le_trans h.1 k.1, fun i h0 h1 => (k.2 i h0 (Nat.lt_of_lt_of_le h1 h.1)).trans (h.2 i h0 h1)⟩
theorem KA.below {base : Nat} {w w' : World} (h : Below w.heap.size w w') : KA base w w' := ⟨h.size, fun k _ h1 => h.block k h1⟩
theorem KA.set {base b i : Nat} (w : World) (hb : b < base) (u : Value) : KA base w (w.setCell ⟨b, i, none⟩ u) := ⟨by simp [World.setCell], fun k h0 _ => Below.heap_setCell w ⟨b, i, none⟩ u k (by show k ≠ b; omega)⟩
def FI {α : Type} (d : Kd α) (base : Nat) (w : World) (v : Value) (l : List α) : Prop := ∀ w', KA base w w' → SI d w' v l
theorem FI.now {α : Type} {d : Kd α} {base : Nat} {w : World} {v : Value} {l : List α} (h : FI d base w v l) : SI d w v l := h w (KA.refl _ _)
theorem FI.at_ {α : Type} {d : Kd α} {base : Nat} {w w' : World} {v : Value} {l : List α} (h : FI d base w v l) (k : KA base w w') : SI d w' v l := h w' k
theorem FI.step {α : Type} {d : Kd α} {base : Nat} {w w' : World} {v : Value} {l : List α} (h : FI d base w v l) (k : KA base w w') : FI d base w' v l := fun w2 h2 => h w2 (k.trans h2)
theorem FI.of_R {α : Type} {d : Kd α} {e : Nat} {w : World} {base b : Nat} {ok : Nat → Prop} {v : Value} {l : List α} (h : d.R e w b ok v l) (hb : base ≤ b) : FI d base w v l := fun w' hk =>
  .of_R (Kd.R_step (Kd.R_bound h) (fun k ho hlt => hk.2 k (Nat.le_trans hb ho.2.1) hlt))
theorem FI.slice {α : Type} {d : Kd α} {base : Nat} {w : World} {v : Value} {l : List α} (h : FI d base w v l) : ∃ A c, v = .slice A l.length c := by obtain ⟨A, c, e, _⟩ := h.now; exact ⟨A, c, e⟩
def wfRow (l : List Pr) : Prop := wfPrs l ∧ l.length < 4398046511104
def HF (base : Nat) (w : World) (v : Value) (h : Hi) : Prop :=
  ∃ v5 v6 v7 v8, v = .agg #[.int .i64 h.f0, .int .u64 h.f1, .int .u64 h.f2, .int .u64 h.f3, .int .u64 h.f4, v5, v6, v7, v8] ∧ FI kSp base w v5 h.f5 ∧ FI kSp base w v6 h.f6 ∧ FI (Kd.int .i64) base w v7 h.f7 ∧ FI (Kd.int .i64) base w v8 h.f8
theorem HF.now {base : Nat} {w : World} {v : Value} {h : Hi} (x : HF base w v h) : HI w v h := by
  obtain ⟨v5, v6, v7, v8, e, h5, h6, h7, h8⟩ := x
  exact ⟨v5, v6, v7, v8, e, h5.now, h6.now, h7.now, h8.now⟩
theorem HF.step {base : Nat} {w w' : World} {v : Value} {h : Hi} (x : HF base w v h) (k : KA base w w') : HF base w' v h := by
  obtain ⟨v5, v6, v7, v8, e, h5, h6, h7, h8⟩ := x
  exact ⟨v5, v6, v7, v8, e, h5.step k, h6.step k, h7.step k, h8.step k⟩
theorem HF.mk {base : Nat} {w : World} {h : Hi} {v5 v6 v7 v8 : Value} (h5 : FI kSp base w v5 h.f5) (h6 : FI kSp base w v6 h.f6) (h7 : FI (Kd.int .i64) base w v7 h.f7) (h8 : FI (Kd.int .i64) base w v8 h.f8) :
    HF base w (.agg #[.int .i64 h.f0, .int .u64 h.f1, .int .u64 h.f2, .int .u64 h.f3, .int .u64 h.f4, v5, v6, v7, v8]) h := ⟨v5, v6, v7, v8, rfl, h5, h6, h7, h8⟩
theorem HF.open_ {base : Nat} {w : World} {v : Value} {h : Hi} (x : HF base w v h) : ∃ A5 c5 A6 c6 A7 c7 A8 c8, v = .agg #[.int .i64 h.f0, .int .u64 h.f1, .int .u64 h.f2, .int .u64 h.f3, .int .u64 h.f4, .slice A5 h.f5.length c5, .slice A6 h.f6.length c6, .slice A7 h.f7.length c7, .slice A8 h.f8.length c8] := by
  obtain ⟨A5, c5, A6, c6, A7, c7, A8, c8, e, -⟩ := x.now.open_
  exact ⟨A5, c5, A6, c6, A7, c7, A8, c8, e⟩
end Go.Proofs.Ytcabapilejagkaa.P
namespace Go.Proofs.Ytcabapilejagkaa.P
open Go.RowKit Go.Shelf Go.Proofs.YtcabapilejagkaaW.PrintWords Go.Proofs.YtcabapilejagkaaW.PrintLast Go.Proofs.YtcabapilejagkaaW.PrintMore
set_option linter.unusedVariables false
set_option linter.unusedSimpArgs false
attribute [local go_sem] Oper.semAt_some
def cnts (l : List Pr) : Prop := ∀ p ∈ l, i64 p.f0 ∧ 0 ≤ p.f1 ∧ p.f1 ≤ 9223372036854775807
instance (l : List Pr) : Decidable (cnts l) := by unfold cnts; exact inferInstance
end Go.Proofs.Ytcabapilejagkaa.P
namespace Go.Proofs.Ytcabapilejagkaa.P
open Go.RowKit Go.Shelf Go.Proofs.YtcabapilejagkaaW.PrintWords Go.Proofs.YtcabapilejagkaaW.PrintLast Go.Proofs.YtcabapilejagkaaW.PrintMore
set_option linter.unusedVariables false
set_option linter.unusedSimpArgs false
structure RowOK (l : List Pr) : Prop where
  wf : wfRow l
  len : l.length ≤ 4096
  cnt : cnts l
  ups : Ups (fun p : Pr => p.f0) l
theorem rises_ups : ∀ (l : List Int) (e : Int), rises e l = true → l.Pairwise (· < ·) ∧ ∀ x ∈ l, e ≤ x
  | [], _, _ => ⟨List.Pairwise.nil, fun x hx => by simp at hx⟩
  | p :: l, e, h => by
    simp only [rises, Bool.and_eq_true, decide_eq_true_eq] at h
    obtain ⟨h1, h2⟩ := rises_ups l (p + 1) h.2
    refine ⟨List.pairwise_cons.2 ⟨fun x hx => by have := h2 x hx; omega, h1⟩, fun x hx => ?_⟩
    rcases List.mem_cons.1 hx with rfl | hx
    · exact h.1.1
    · have := h2 x hx; omega
theorem zip_ups : ∀ (ps v : List Int), ps.Pairwise (· < ·) → Ups (fun p : Pr => p.f0) (List.zipWith (fun p x => (⟨p, x⟩ : Pr)) ps v)
  | [], _, _ => by simp [Ups]
  | p :: ps, [], _ => by simp [Ups]
  | p :: ps, x :: v, h => by
    have h1 := List.pairwise_cons.1 h
    refine List.pairwise_cons.2 ⟨fun y hy => ?_, zip_ups ps v h1.2⟩
    have : y.f0 ∈ ps := by
      obtain ⟨i, hi, rfl⟩ := List.mem_iff_getElem.1 hy
      simp only [List.getElem_zipWith]; exact List.getElem_mem _
    exact h1.1 _ this
theorem RowOK.nil : RowOK [] := ⟨⟨fun s hs => by simp at hs, by simp⟩, by simp, fun s hs => by simp at hs, Ups.nil⟩
theorem sideRes_row {l : List Sp} {d : List Int} (hd : i64s d) : RowOK (sideRes l d).1 := by
  by_cases h0 : (sideRes l d).2 = 0
  · obtain ⟨hc, hl⟩ := sideRes_ok hd h0
    unfold sideRes at h0 hc hl ⊢
    by_cases c1 : spCheck l = 0
    rotate_left
    · rw [if_neg c1] at h0; exact absurd h0 c1
    rw [if_pos c1] at h0 hc hl ⊢
    by_cases c2 : cntN l = d.length
    rotate_left
    · rw [if_neg c2] at h0; cases h0
    rw [if_pos c2] at h0 hc hl ⊢
    cases hs : sumsFrom 0 d with
    | none => rw [hs] at h0; cases h0
    | some c =>
      rw [hs] at h0 hc hl
      simp only at h0 hc hl ⊢
      by_cases c3 : c.any (fun x => decide (x < 0)) = true
      · rw [if_pos c3] at h0; cases h0
      rw [if_neg c3] at hc hl ⊢
      have hr := rises_of_right c1
      have hf : ∀ p ∈ List.zipWith (fun p x => (⟨p, x⟩ : Pr)) (plN 0 l) c, -1048576 ≤ p.f0 ∧ p.f0 ≤ 1048576 := by
        intro y hy
        have : y.f0 ∈ plN 0 l := by
          obtain ⟨i, hi, rfl⟩ := List.mem_iff_getElem.1 hy
          simp only [List.getElem_zipWith]; exact List.getElem_mem _
        exact rises_i64 hr _ this
      refine ⟨⟨fun p hp => ?_, by omega⟩, hl, fun p hp => ?_, zip_ups _ _ (rises_ups _ _ hr).1⟩
      · have h1 := hf p hp; have h2 := hc p hp; exact ⟨⟨by omega, by omega⟩, ⟨by omega, by omega⟩⟩
      · have h1 := hf p hp; have h2 := hc p hp; exact ⟨⟨by omega, by omega⟩, h2⟩
  · have : (sideRes l d).1 = [] := by
      unfold sideRes at h0 ⊢
      by_cases c1 : spCheck l = 0
      · rw [if_pos c1] at h0 ⊢
        by_cases c2 : cntN l = d.length
        · rw [if_pos c2] at h0 ⊢
          cases hs : sumsFrom 0 d with
          | none => rfl
          | some c =>
            rw [hs] at h0
            simp only at h0 ⊢
            by_cases c3 : c.any (fun x => decide (x < 0)) = true
            · rw [if_pos c3]
            · rw [if_neg c3] at h0; exact absurd rfl h0
        · rw [if_neg c2]
      · rw [if_neg c1]
    rw [this]; exact RowOK.nil
theorem openR_row {h : Hi} (hw : wfH h) : RowOK (openR h).1 ∧ RowOK (openR h).2.1 := by
  obtain ⟨-, -, -, -, -, -, -, h7, h8, -⟩ := hw
  have a := sideRes_row (l := h.f5) h7
  have b := sideRes_row (l := h.f6) h8
  unfold openR openRes
  repeat' split
  all_goals first | exact ⟨a, b⟩ | exact ⟨RowOK.nil, RowOK.nil⟩
end Go.Proofs.Ytcabapilejagkaa.P
namespace Go.Proofs.Ytcabapilejagkaa.P
open Go.RowKit Go.Proofs.YtcabapilejagkaaW.PrintWords Go.Proofs.YtcabapilejagkaaW.PrintLast Go.Proofs.YtcabapilejagkaaW.PrintMore
set_option linter.unusedVariables false
set_option linter.unusedSimpArgs false
theorem u64_wrap {x : Int} (h : u64 x) : IntKind.u64.wrap x = x := by
  have := h.1; have := h.2
  show x % 18446744073709551616 = x; omega
end Go.Proofs.Ytcabapilejagkaa.P
namespace Go.Proofs.Ytcabapilejagkaa.P
open Go.RowKit Go.Shelf Go.Proofs.YtcabapilejagkaaW.PrintWords Go.Proofs.YtcabapilejagkaaW.PrintLast Go.Proofs.YtcabapilejagkaaW.PrintMore
set_option linter.unusedVariables false
set_option linter.unusedSimpArgs false
def sameNums (a b : Hi) : Prop := a.f0 = b.f0 ∧ a.f1 = b.f1 ∧ a.f2 = b.f2 ∧ a.f3 = b.f3 ∧ a.f4 = b.f4
instance (a b : Hi) : Decidable (sameNums a b) := by unfold sameNums; exact inferInstance
end Go.Proofs.Ytcabapilejagkaa.P
namespace Go.Proofs.Ytcabapilejagkaa.P
open Go.RowKit Go.Shelf Go.Proofs.YtcabapilejagkaaW.PrintWords Go.Proofs.YtcabapilejagkaaW.PrintLast Go.Proofs.YtcabapilejagkaaW.PrintMore
set_option linter.unusedVariables false
set_option linter.unusedSimpArgs false
def Blk (w : World) (g : Nat) (cs : Array Value) (t : TypeId) : Prop := w.heap[g]? = some (.cells cs t (0, 0))
theorem Blk.below {w w' : World} {g : Nat} {cs : Array Value} {t : TypeId} (h : Blk w g cs t) (hb : Below w.heap.size w w') : Blk w' g cs t := blk_below h hb
theorem Blk.cell {w : World} {g : Nat} {cs : Array Value} {t : TypeId} (h : Blk w g cs t) (i : Nat) : w.cell? ⟨g, i, none⟩ = cs[i]? := blk_cell h i
theorem Blk.new (w : World) (cs : Array Value) (t : TypeId) : Blk (w.alloc (.cells cs t)) w.heap.size cs t := blk_new w _
theorem Blk.alloc {w : World} {g : Nat} {cs : Array Value} {t : TypeId} (h : Blk w g cs t) (o : Obj) : Blk (w.alloc o) g cs t := blk_alloc h o
theorem Blk.at1 {w : World} (o : Obj) (cs : Array Value) (t : TypeId) : Blk ((w.alloc o).alloc (.cells cs t)) (w.heap.size + 1) cs t := by have := Blk.new (w.alloc o) cs t; simpa using this
abbrev kRsp := k144
def HR (w : World) (v : Value) (h : Hi) : Prop :=
  ∃ v5 v6 v7 v8, v = .agg #[.int .i64 h.f0, .int .u64 h.f1, .int .u64 h.f2, .int .u64 h.f3, .int .u64 h.f4, v5, v6, v7, v8] ∧ SI kRsp w v5 (h.f5.map toR) ∧ SI kRsp w v6 (h.f6.map toR) ∧ SI (Kd.int .i64) w v7 h.f7 ∧ SI (Kd.int .i64) w v8 h.f8
theorem HR.below {w w' : World} {v : Value} {h : Hi} (x : HR w v h) (hb : Below w.heap.size w w') : HR w' v h := by
  obtain ⟨v5, v6, v7, v8, e, h5, h6, h7, h8⟩ := x
  exact ⟨v5, v6, v7, v8, e, h5.below hb, h6.below hb, h7.below hb, h8.below hb⟩
theorem HR.open_ {w : World} {v : Value} {h : Hi} (x : HR w v h) : ∃ A5 c5 A6 c6 A7 c7 A8 c8, v = .agg #[.int .i64 h.f0, .int .u64 h.f1, .int .u64 h.f2, .int .u64 h.f3, .int .u64 h.f4, .slice A5 h.f5.length c5, .slice A6 h.f6.length c6, .slice A7 h.f7.length c7, .slice A8 h.f8.length c8] ∧
    SI kRsp w (.slice A5 h.f5.length c5) (h.f5.map toR) ∧ SI kRsp w (.slice A6 h.f6.length c6) (h.f6.map toR) ∧ SI (Kd.int .i64) w (.slice A7 h.f7.length c7) h.f7 ∧ SI (Kd.int .i64) w (.slice A8 h.f8.length c8) h.f8 := by
  obtain ⟨v5, v6, v7, v8, rfl, h5, h6, h7, h8⟩ := x
  obtain ⟨A5, c5, rfl, h51, h52⟩ := h5
  obtain ⟨A6, c6, rfl, h61, h62⟩ := h6
  obtain ⟨A7, c7, rfl, h71, h72⟩ := h7
  obtain ⟨A8, c8, rfl, h81, h82⟩ := h8
  rw [List.length_map]
  rw [List.length_map]
  refine ⟨A5, c5, A6, c6, A7, c7, A8, c8, rfl, ⟨A5, c5, by rw [List.length_map], h51, h52⟩, ⟨A6, c6, by rw [List.length_map], h61, h62⟩, .of h72 h71, .of h82 h81⟩
end Go.Proofs.Ytcabapilejagkaa.P
namespace Go.Proofs.Ytcabapilejagkaa.P
open Go.RowKit Go.Proofs.YtcabapilejagkaaW.PrintWords Go.Proofs.YtcabapilejagkaaW.PrintLast Go.Proofs.YtcabapilejagkaaW.PrintMore
attribute [local go_sem] max2_int min2_int max_two min_two max_three min_three max_four min_four
set_option linter.unusedVariables false
set_option linter.unusedSimpArgs false
def pairs_Pair_int64_94.l0 : Nat → List (S30) → Int → Int → Option ((List (S30)))
 | 0, _, _, _ => none
 | k + 1, x0, x2, x3 => if x2 < x3 then (if 0 ≤ x3 then (if x3 < (x0.length : Int) then (if 0 ≤ x2 then (if x2 < (x0.length : Int) then (pairs_Pair_int64_94.l0 k ((x0.set (x2 : Int).toNat (⟨(rd_T30 x0 x3).f0, (rd_T30 x0 x3).f1⟩ : S30)).set (x3 : Int).toNat (⟨(rd_T30 x0 x2).f0, (rd_T30 x0 x2).f1⟩ : S30)) (wrap64 (x2 + 1)) (wrap64 (x3 - 1))) else (none)) else (none)) else (none)) else (none)) else (some x0)
def pairs_Pair_int64_94.f (k : Nat) (l0 : List (S30)) : Option ((List (S30))) := pairs_Pair_int64_94.l0 k l0 0 (wrap64 ((l0.length : Int) - 1))
def pairs_Pair_int64_94.T3 : Bool × List (List Nat × List Nat) := (true, [([], []), ([], []), ([], []), ([], []), ([], []), ([], []), ([4, 5], [4, 5]), ([6], [6]), ([], []), ([], []), ([8, 9], [8, 9]), ([10], [10]), ([0, 1, 0, 1, 4, 5, 6, 7, 11], [0, 1]), ([12, 7, 0, 1, 4, 5, 6, 7, 11], [7, 12]), ([2, 3, 0, 1, 2, 3, 4, 5, 6, 7, 8, 9, 10, 11, 12, 13], [2, 3]), ([14, 11, 13, 0, 1, 2, 3, 4, 5, 6, 7, 8, 9, 10, 11, 12, 13], [11, 14])])
def pairs_Pair_int64_94.B3 : List Nat := [0, 0, 0, 0, 0, 0, 48, 112, 0, 0, 768, 1792, 4083, 8179, 16383, 32767]
theorem pairs_Pair_int64_94.tab3 : rtab .any (opsOf Try.f94 3) = pairs_Pair_int64_94.T3 := by kernel_rfl
theorem pairs_Pair_int64_94.bits3 : waitsOk pairs_Pair_int64_94.T3.2 pairs_Pair_int64_94.B3 = true := by kernel_rfl
set_option maxHeartbeats 8000000 in
set_option maxRecDepth 100000 in
theorem pairs_Pair_int64_94.calls (k : Nat) (P0_ : Nat → Prop) (u9000_ : Value) (l0 : List (S30)) (r : List (S30)) (w0 w : World) (hB : Below w0.heap.size w0 w) (ho0 : Kd.R k30 30 w w0.heap.size P0_ u9000_ l0) (h : pairs_Pair_int64_94.f k l0 = some r) :
  Calls Try.prog 94 #[u9000_] w fun e w' => e = .returned (.tuple #[]) ∧ Kd.R k30 30 w' w0.heap.size (fun k_ => (P0_ k_ ∨ w.heap.size ≤ k_)) u9000_ r ∧ Below w0.heap.size w0 w' ∧ Kept w w' (fun k_ => P0_ k_) := by
 have hu30 := Try.underlying30
 have HO0 := Aside0.mk (show Kd.R k30 30 w w0.heap.size (fun k_ => (P0_ k_ ∨ w.heap.size ≤ k_)) u9000_ l0 from Kd.R_mono ho0 (fun k_ hk => (.inl hk)))
 have HK := Aside0.mk (Kept.refl w (fun k_ => P0_ k_))
 have HW0 := Aside0.mk hB.size
 have HB := Aside0.mk hB
 clear hB
 have H : (pairs_Pair_int64_94.l0 k l0 0 (wrap64 ((l0.length : Int) - 1))) = some r := h
 clear h
 have H' := Aside0.mk H
 clear H
 obtain ⟨Ao2, co2, eo2⟩ := Kd.R_slice HO0.out
 subst eo2
 go_enter Try.func94, Try.ntmps94
 go_wp2
 go_loopg [2, 3] k (fun kq v2 v3 w' => ∃ (x0_1 : List (S30)) (x2_1 : Int) (x3_1 : Int), v2 = .int .i64 x2_1 ∧ v3 = .int .i64 x3_1 ∧ Aside0 (pairs_Pair_int64_94.l0 kq x0_1 x2_1 x3_1 = some r) ∧ Aside0 (kq ≤ k) ∧ Aside0 (Kd.R k30 30 w' w0.heap.size (fun k_ => (P0_ k_ ∨ w.heap.size ≤ k_)) (.slice Ao2 l0.length co2) x0_1) ∧ Aside0 (Kept w w' (fun k_ => P0_ k_)) ∧ Aside0 (Below w0.heap.size w0 w'))
 case atStart => exact ⟨(l0), (0), (wrap64 ((l0.length : Int) - 1)), (by first | rfl | (simp; done) | (simp [*]; done)), (by first | rfl | (simp; done) | (simp [*]; done)), H', ⟨Nat.le_refl _⟩, ⟨by (with_reducible repeat (first | apply Kd.R_alloc | apply Kd.R_drewN | apply Kd.R_drew)); exact HO0.out⟩, ⟨by repeat (first | (with_reducible first | exact HK.out | apply Kept.alloc | apply Kept.drewN | apply Kept.drew) | exact HK.out)⟩, ⟨by repeat (first | (with_reducible first | exact HB.out | apply below_alloc | apply pw_below_drewN | apply below_drew1) | exact HB.out)⟩⟩
 case round =>
  clear H'
  try clear p2
  obtain ⟨x0_1, x2_1, x3_1, rfl, rfl, HA, HK1, HO_0, HK, HB⟩ := hrel
  have hl0_1 := (Kd.R_reads' HO_0.out).1
  rw [hl0_1] at HO_0
  (try simp only [hl0_1])
  cases gk with
  | zero => exact absurd HA.out (by simp [pairs_Pair_int64_94.l0])
  | succ k1 =>
   have H := HA.out
   clear HA
   simp only [pairs_Pair_int64_94.l0] at H
   by_cases c3 : x2_1 < x3_1
   ·rw [if_pos c3] at H
    have c3b0 : decide (x2_1 < x3_1) = true := decide_eq_true c3
    clear c3
    by_cases c4 : 0 ≤ x3_1
    ·rw [if_pos c4] at H
     have c4b0 : decide (0 ≤ x3_1) = true := decide_eq_true c4
     clear c4
     by_cases c5 : x3_1 < (x0_1.length : Int)
     ·rw [if_pos c5] at H
      have c5b0 : decide (x3_1 < (x0_1.length : Int)) = true := decide_eq_true c5
      clear c5
      by_cases c6 : 0 ≤ x2_1
      ·rw [if_pos c6] at H
       have c6b0 : decide (0 ≤ x2_1) = true := decide_eq_true c6
       clear c6
       by_cases c7 : x2_1 < (x0_1.length : Int)
       ·rw [if_pos c7] at H
        have c7b0 : decide (x2_1 < (x0_1.length : Int)) = true := decide_eq_true c7
        clear c7
        obtain ⟨y103, hy103⟩ : ∃ y_ : List (S30), y_ = (x0_1.set (x2_1 : Int).toNat (⟨(rd_T30 x0_1 x3_1).f0, (rd_T30 x0_1 x3_1).f1⟩ : S30)) := ⟨_, rfl⟩
        replace H : (pairs_Pair_int64_94.l0 k1 (y103.set (x3_1 : Int).toNat (⟨(rd_T30 x0_1 x2_1).f0, (rd_T30 x0_1 x2_1).f1⟩ : S30)) (wrap64 (x2_1 + 1)) (wrap64 (x3_1 - 1))) = some r := by first | (rw [hy103]; with_reducible exact H) | (have H2_ := (Option.bind_some _ _).symm.trans H; rw [hy103]; with_reducible exact H2_) | (have H2_ := (Option.bind_some _ _).symm.trans H; with_reducible exact H2_) | with_reducible exact H | (rw [hy103]; exact H) | exact H
        have Ny103 := Aside0.mk hy103
        clear hy103
        obtain ⟨y104, hy104⟩ : ∃ y_ : List (S30), y_ = (y103.set (x3_1 : Int).toNat (⟨(rd_T30 x0_1 x2_1).f0, (rd_T30 x0_1 x2_1).f1⟩ : S30)) := ⟨_, rfl⟩
        replace H : (pairs_Pair_int64_94.l0 k1 y104 (wrap64 (x2_1 + 1)) (wrap64 (x3_1 - 1))) = some r := by first | (rw [hy104]; with_reducible exact H) | (have H2_ := (Option.bind_some _ _).symm.trans H; rw [hy104]; with_reducible exact H2_) | (have H2_ := (Option.bind_some _ _).symm.trans H; with_reducible exact H2_) | with_reducible exact H | (rw [hy104]; exact H) | exact H
        have Ny104 := Aside0.mk hy104
        clear hy104
        have H' := Aside0.mk H
        clear H
        have hne1_ : ¬ (x2_1.toNat * 2 = x3_1.toNat * 2) := by have h1_ := of_decide_eq_true c3b0; have h2_ := of_decide_eq_true c6b0; omega
        have hne2_ : ¬ (x3_1.toNat * 2 = x2_1.toNat * 2) := by have h1_ := of_decide_eq_true c3b0; have h2_ := of_decide_eq_true c6b0; omega
        have hne3_ : ¬ (x3_1.toNat = x2_1.toNat) := by have h1_ := of_decide_eq_true c3b0; have h2_ := of_decide_eq_true c6b0; omega
        have hne4_ : ¬ (x2_1.toNat = x3_1.toNat) := by have h1_ := of_decide_eq_true c3b0; have h2_ := of_decide_eq_true c6b0; omega
        try go_wp2
        have n0_ := Aside0.mk (Kd.R_drew HO_0.out)
        have n1_ := Aside0.mk (Kept.drew HK.out)
        have n2_ := Aside0.mk (below_drew1 HB.out)
        clear HO_0
        clear HK
        clear HB
        have HO_0 := n0_
        have HK := n1_
        have HB := n2_
        clear n0_ n1_ n2_
        have p101 : 0 ≤ (x3_1 : Int) := of_decide_eq_true (by first | (with_reducible assumption) | assumption)
        have q101 : x3_1 < (x0_1.length : Int) := of_decide_eq_true (by first | (with_reducible assumption) | assumption)
        obtain ⟨ad101, e101, hx101_0, hx101_1⟩ := at_T30 (Kd.R_reads' HO_0.out).2.2 x3_1 p101 q101
        cases e101
        replace p101 := eq_true p101
        replace q101 := eq_true q101
        have p102 : 0 ≤ (x2_1 : Int) := of_decide_eq_true (by first | (with_reducible assumption) | assumption)
        have q102 : x2_1 < (x0_1.length : Int) := of_decide_eq_true (by first | (with_reducible assumption) | assumption)
        obtain ⟨ad102, e102, hx102_0, hx102_1⟩ := at_T30 (Kd.R_reads' HO_0.out).2.2 x2_1 p102 q102
        obtain rfl : ad101 = ad102 := (by injection e102)
        replace p102 := eq_true p102
        replace q102 := eq_true q102
        have p8 : 0 ≤ (x2_1 : Int) := of_decide_eq_true (by first | (with_reducible assumption) | assumption)
        have q8 : (x2_1 : Int) < ((x0_1.length : Int) : Int) := of_decide_eq_true (by first | (with_reducible assumption) | assumption)
        obtain ⟨go8, co8, eo8, gb8, gl8, cl8, HG8⟩ := Kd.R_form HO_0.out (by omega)
        (first | cases eo8 | (injection eo8 with ea_ en_ ec_; (first | subst ea_ | (injection ea_ with ea_; subst ea_)); subst ec_; clear en_))
        have GB8 := Aside0.mk gb8
        have GG8 := Aside0.mk HG8
        clear gb8 gl8 HG8
        have HMgo8 := Aside0.mk (show (P0_ go8 ∨ w.heap.size ≤ go8) from (HO_0.out.1 _ rfl))
        (first | simp only [add_plain] at hx101_0 | skip)
        (first | simp only [add_plain] at hx101_1 | skip)
        (first | simp only [add_plain] at hx102_0 | skip)
        (first | simp only [add_plain] at hx102_1 | skip)
        obtain ⟨ce8, hcl8, hM8, hcc8, hfr8⟩ := Kd.R_elem HO_0.out z30 (x2_1 : Int) p8 q8
        obtain rfl := k30_openM hM8
        have hx8_0 : World.cell? _ ⟨go8, (x2_1 : Int).toNat * 2, none⟩ = some (.int .i64 ((rd_T30 x0_1 x2_1).f0)) := hcc8 0 _ rfl
        have hx8_1 : World.cell? _ ⟨go8, (x2_1 : Int).toNat * 2 + 1, none⟩ = some (.int .i64 ((rd_T30 x0_1 x2_1).f1)) := hcc8 1 _ rfl
        have hf8_0 : World.frozen? _ ⟨go8, (x2_1 : Int).toNat * 2, none⟩ = false := hfr8 0
        have hf8_1 : World.frozen? _ ⟨go8, (x2_1 : Int).toNat * 2 + 1, none⟩ = false := hfr8 1
        clear hcl8 hcc8 hfr8 hM8
        replace p8 := eq_true p8
        replace q8 := eq_true q8
        obtain ⟨ce7_, -, -, -, hfr7_⟩ := Kd.R_elem HO_0.out z30 (x3_1 : Int) (of_decide_eq_true c4b0) (of_decide_eq_true c5b0)
        have hf7_0 : World.frozen? _ ⟨go8, (x3_1 : Int).toNat * 2, none⟩ = false := hfr7_ 0
        have hf7_1 : World.frozen? _ ⟨go8, (x3_1 : Int).toNat * 2 + 1, none⟩ = false := hfr7_ 1
        clear hfr7_
        obtain ⟨ce11, hcl11, hM11, hcc11, hfr11⟩ := Kd.R_elem HO_0.out z30 (x2_1 : Int) (of_decide_eq_true (by first | (with_reducible assumption) | assumption)) (by have h_ : (x2_1 : Int) < ((x0_1.length : Int) : Int) := of_decide_eq_true (by first | (with_reducible assumption) | assumption); first | exact h_ | (have e_ := (Kd.R_reads' HO_0.out).1; omega) | simpa using h_)
        obtain rfl := k30_openM hM11
        have HP11 := (Kd.R_seg HO_0.out (x2_1 : Int) (of_decide_eq_true (by first | (with_reducible assumption) | assumption)) (by have h_ : (x2_1 : Int) < ((x0_1.length : Int) : Int) := of_decide_eq_true (by first | (with_reducible assumption) | assumption); first | exact h_ | (have e_ := (Kd.R_reads' HO_0.out).1; omega) | simpa using h_) (seg := [.int .i64 ((rd_T30 x0_1 x3_1).f0), .int .i64 ((rd_T30 x0_1 x3_1).f1)]) (j := 0) hcl11 hcc11 (show 2 ≤ 2 from by decide) (x' := (⟨(rd_T30 x0_1 x3_1).f0, (rd_T30 x0_1 x3_1).f1⟩ : S30)) (k30_mkM _ _ _ (⟨(rd_T30 x0_1 x3_1).f0, (rd_T30 x0_1 x3_1).f1⟩ : S30) ) (fun _ hk => hk)).1
        rw [← Ny103.out] at HP11
        have HQ11 := Aside0.mk HP11
        clear hcl11 hcc11 hfr11 hM11 HP11
        have p9 : 0 ≤ (x3_1 : Int) := of_decide_eq_true (by first | (with_reducible assumption) | assumption)
        have q9 : (x3_1 : Int) < ((x0_1.length : Int) : Int) := of_decide_eq_true (by first | (with_reducible assumption) | assumption)
        obtain ⟨ce9, hcl9, hM9, hcc9, hfr9⟩ := Kd.R_elem HQ11.out z30 (x3_1 : Int) p9 q9
        obtain rfl := k30_openM hM9
        have hx9_0 : World.cell? _ ⟨go8, (x3_1 : Int).toNat * 2, none⟩ = some (.int .i64 ((rd_T30 y103 x3_1).f0)) := hcc9 0 _ rfl
        have hx9_1 : World.cell? _ ⟨go8, (x3_1 : Int).toNat * 2 + 1, none⟩ = some (.int .i64 ((rd_T30 y103 x3_1).f1)) := hcc9 1 _ rfl
        have hf9_0 : World.frozen? _ ⟨go8, (x3_1 : Int).toNat * 2, none⟩ = false := hfr9 0
        have hf9_1 : World.frozen? _ ⟨go8, (x3_1 : Int).toNat * 2 + 1, none⟩ = false := hfr9 1
        clear hcl9 hcc9 hfr9 hM9
        replace p9 := eq_true p9
        replace q9 := eq_true q9
        obtain ⟨ce12, hcl12, hM12, hcc12, hfr12⟩ := Kd.R_elem HQ11.out z30 (x3_1 : Int) (of_decide_eq_true (by first | (with_reducible assumption) | assumption)) (by have h_ : (x3_1 : Int) < ((x0_1.length : Int) : Int) := of_decide_eq_true (by first | (with_reducible assumption) | assumption); first | exact h_ | (have e_ := (Kd.R_reads' HO_0.out).1; omega) | simpa using h_)
        obtain rfl := k30_openM hM12
        have HP12 := (Kd.R_seg HQ11.out (x3_1 : Int) (of_decide_eq_true (by first | (with_reducible assumption) | assumption)) (by have h_ : (x3_1 : Int) < ((x0_1.length : Int) : Int) := of_decide_eq_true (by first | (with_reducible assumption) | assumption); first | exact h_ | (have e_ := (Kd.R_reads' HO_0.out).1; omega) | simpa using h_) (seg := [.int .i64 ((rd_T30 x0_1 x2_1).f0), .int .i64 ((rd_T30 x0_1 x2_1).f1)]) (j := 0) hcl12 hcc12 (show 2 ≤ 2 from by decide) (x' := (⟨(rd_T30 x0_1 x2_1).f0, (rd_T30 x0_1 x2_1).f1⟩ : S30)) (k30_mkM _ _ _ (⟨(rd_T30 x0_1 x2_1).f0, (rd_T30 x0_1 x2_1).f1⟩ : S30) ) (fun _ hk => hk)).1
        rw [← Ny104.out] at HP12
        have HQ12 := Aside0.mk HP12
        clear hcl12 hcc12 hfr12 hM12 HP12
        refine start_ (n := 16) (S := fun w' => w'.cell? ⟨go8, ((x3_1).toNat * 2), none⟩ = some (.int .i64 ((rd_T30 x0_1 x3_1).f0)) ∧ w'.cell? ⟨go8, ((x3_1).toNat * 2) + 1, none⟩ = some (.int .i64 ((rd_T30 x0_1 x3_1).f1)) ∧ w'.cell? ⟨go8, ((x2_1).toNat * 2), none⟩ = some (.int .i64 ((rd_T30 x0_1 x2_1).f0)) ∧ w'.cell? ⟨go8, ((x2_1).toNat * 2) + 1, none⟩ = some (.int .i64 ((rd_T30 x0_1 x2_1).f1))) (ds := [13, 15]) #[false, false, false, false, false, false, false, false, false, false, false, false, false, false, false, false] (by kernel_rfl) rfl rfl ⟨hx101_0, hx101_1, hx102_0, hx102_1⟩ (fun hHeld => ?_); refine with_tabW pairs_Pair_int64_94.tab3 pairs_Pair_int64_94.bits3 (fun HT_ HW_ => ?_)
        generalize wr.drew = w10 at HO_0 HK HB GG8 HQ11 HQ12 hf8_0 hf8_1 hf9_0 hf9_1 hf7_0 hf7_1 hx101_0 hx101_1 hx102_0 hx102_1 hx8_0 hx8_1 hx9_0 hx9_1 hHeld ⊢
        refine pure_ (i := 0) (N := some 14) (v := ?_) (a' := ?_) #[true, false, false, false, false, false, false, false, false, false, false, false, false, false, false, false] rfl rfl (any_of HT_.out (by kernel_rfl)) (fun _ _ _ h => h) (Or.inl ⟨by rfl, ?_⟩) ?_ ?_
        rotate_left
        ·intro w'
         go_simp
         with_reducible rfl
        rotate_left
        ·simp only [Act.put, List.setIfInBounds_toArray, List.set_cons_zero, List.set_cons_succ, i64_w, i32_w]
         rfl
        refine pure_ (i := 1) (N := some 15) (v := ?_) (a' := ?_) #[true, true, false, false, false, false, false, false, false, false, false, false, false, false, false, false] rfl rfl (any_of HT_.out (by kernel_rfl)) (fun _ _ _ h => h) (Or.inl ⟨by rfl, ?_⟩) ?_ ?_
        rotate_left
        ·intro w'
         go_simp
         with_reducible rfl
        rotate_left
        ·simp only [Act.put, List.setIfInBounds_toArray, List.set_cons_zero, List.set_cons_succ, i64_w, i32_w]
         rfl
        refine pure_ (i := 2) (N := some 16) (v := ?_) (a' := ?_) #[true, true, true, false, false, false, false, false, false, false, false, false, false, false, false, false] rfl rfl (any_of HT_.out (by kernel_rfl)) (fun _ _ _ h => h) (Or.inl ⟨by rfl, ?_⟩) ?_ ?_
        rotate_left
        ·intro w'
         go_simp
         with_reducible rfl
        rotate_left
        ·simp only [Act.put, List.setIfInBounds_toArray, List.set_cons_zero, List.set_cons_succ, i64_w, i32_w]
         rfl
        refine pure_ (i := 3) (N := some 17) (v := ?_) (a' := ?_) #[true, true, true, true, false, false, false, false, false, false, false, false, false, false, false, false] rfl rfl (any_of HT_.out (by kernel_rfl)) (fun _ _ _ h => h) (Or.inl ⟨by rfl, ?_⟩) ?_ ?_
        rotate_left
        ·intro w'
         go_simp
         with_reducible rfl
        rotate_left
        ·simp only [Act.put, List.setIfInBounds_toArray, List.set_cons_zero, List.set_cons_succ, i64_w, i32_w]
         rfl
        refine pure_ (i := 4) (N := some 18) (v := ?_) (a' := ?_) #[true, true, true, true, true, false, false, false, false, false, false, false, false, false, false, false] rfl rfl (any_of HT_.out (by kernel_rfl)) (fun _ _ _ h => h) (Or.inl ⟨by rfl, ?_⟩) ?_ ?_
        rotate_left
        ·intro w'
         go_simp
         with_reducible rfl
        rotate_left
        ·simp only [Act.put, List.setIfInBounds_toArray, List.set_cons_zero, List.set_cons_succ, i64_w, i32_w]
         rfl
        refine pure_ (i := 5) (N := some 19) (v := ?_) (a' := ?_) #[true, true, true, true, true, true, false, false, false, false, false, false, false, false, false, false] rfl rfl (any_of HT_.out (by kernel_rfl)) (fun _ _ _ h => h) (Or.inl ⟨by rfl, ?_⟩) ?_ ?_
        rotate_left
        ·intro w'
         go_simp
         with_reducible rfl
        rotate_left
        ·simp only [Act.put, List.setIfInBounds_toArray, List.set_cons_zero, List.set_cons_succ, i64_w, i32_w]
         rfl
        refine pure_ (i := 6) (N := some 20) (v := ?_) (a' := ?_) #[true, true, true, true, true, true, true, false, false, false, false, false, false, false, false, false] rfl rfl (any_of HT_.out (by kernel_rfl)) (fun _ _ _ h => h) (Or.inl ⟨by rfl, ?_⟩) ?_ ?_
        rotate_left
        ·intro w'
         go_simp
         with_reducible rfl
        rotate_left
        ·simp only [Act.put, List.setIfInBounds_toArray, List.set_cons_zero, List.set_cons_succ, i64_w, i32_w]
         rfl
        refine pure_ (i := 8) (N := some 22) (v := ?_) (a' := ?_) #[true, true, true, true, true, true, true, false, true, false, false, false, false, false, false, false] rfl rfl (any_of HT_.out (by kernel_rfl)) (fun _ _ _ h => h) (Or.inl ⟨by rfl, ?_⟩) ?_ ?_
        rotate_left
        ·intro w'
         go_simp
         with_reducible rfl
        rotate_left
        ·simp only [Act.put, List.setIfInBounds_toArray, List.set_cons_zero, List.set_cons_succ, i64_w, i32_w]
         rfl
        refine pure_ (i := 9) (N := some 23) (v := ?_) (a' := ?_) #[true, true, true, true, true, true, true, false, true, true, false, false, false, false, false, false] rfl rfl (any_of HT_.out (by kernel_rfl)) (fun _ _ _ h => h) (Or.inl ⟨by rfl, ?_⟩) ?_ ?_
        rotate_left
        ·intro w'
         go_simp
         with_reducible rfl
        rotate_left
        ·simp only [Act.put, List.setIfInBounds_toArray, List.set_cons_zero, List.set_cons_succ, i64_w, i32_w]
         rfl
        refine pure_ (i := 10) (N := some 24) (v := ?_) (a' := ?_) #[true, true, true, true, true, true, true, false, true, true, true, false, false, false, false, false] rfl rfl (any_of HT_.out (by kernel_rfl)) (fun _ _ _ h => h) (Or.inl ⟨by rfl, ?_⟩) ?_ ?_
        rotate_left
        ·intro w'
         go_simp
         with_reducible rfl
        rotate_left
        ·simp only [Act.put, List.setIfInBounds_toArray, List.set_cons_zero, List.set_cons_succ, i64_w, i32_w]
         rfl
        refine take_ (i := 7) (N := some 21) (v := ?_) (a' := ?_) #[true, true, true, true, true, true, true, true, true, true, true, false, false, false, false, false] rfl rfl (take_ofW HT_.out HW_.out (by kernel_rfl)) (fun _ _ _ h => h) (Or.inl ⟨by rfl, ?_⟩) hHeld ?_ ?_
        rotate_left
        ·rintro w' ⟨s0, s1, s2, s3⟩
         go_simp
         with_reducible rfl
        rotate_left
        ·simp only [Act.put, List.setIfInBounds_toArray, List.set_cons_zero, List.set_cons_succ, i64_w, i32_w]
         rfl
        refine take_ (i := 11) (N := some 25) (v := ?_) (a' := ?_) #[true, true, true, true, true, true, true, true, true, true, true, true, false, false, false, false] rfl rfl (take_ofW HT_.out HW_.out (by kernel_rfl)) (fun _ _ _ h => h) (Or.inl ⟨by rfl, ?_⟩) hHeld ?_ ?_
        rotate_left
        ·rintro w' ⟨s0, s1, s2, s3⟩
         go_simp
         with_reducible rfl
        rotate_left
        ·simp only [Act.put, List.setIfInBounds_toArray, List.set_cons_zero, List.set_cons_succ, i64_w, i32_w]
         rfl
        refine pure_ (i := 12) (N := some 26) (v := ?_) (a' := ?_) #[true, true, true, true, true, true, true, true, true, true, true, true, true, false, false, false] rfl rfl (any_of HT_.out (by kernel_rfl)) (fun _ _ _ h => h) (Or.inl ⟨by rfl, ?_⟩) ?_ ?_
        rotate_left
        ·intro w'
         go_simp
         with_reducible rfl
        rotate_left
        ·simp only [Act.put, List.setIfInBounds_toArray, List.set_cons_zero, List.set_cons_succ, i64_w, i32_w]
         rfl
        refine last_ (i := 13) (N := none) #[true, true, true, true, true, true, true, true, true, true, true, true, true, true, false, false] rfl rfl (one_of HT_.out (by kernel_rfl)) (by decide) (fun K hK => ?_)
        refine skip_ (w1 := ?_) (by rfl) rfl ?_ ?_
        rotate_left
        ·go_simp
         rfl
        refine hK.out _ _ ?_
        clear hK K
        refine pure_ (i := 14) (N := some 27) (v := ?_) (a' := ?_) #[true, true, true, true, true, true, true, true, true, true, true, true, true, true, true, false] rfl rfl (any_of HT_.out (by kernel_rfl)) (fun _ _ _ h => h) (Or.inl ⟨by rfl, ?_⟩) ?_ ?_
        rotate_left
        ·intro w'
         go_simp
         with_reducible rfl
        rotate_left
        ·simp only [Act.put, List.setIfInBounds_toArray, List.set_cons_zero, List.set_cons_succ, i64_w, i32_w]
         rfl
        refine last_ (i := 15) (N := none) #[true, true, true, true, true, true, true, true, true, true, true, true, true, true, true, true] rfl rfl (one_of HT_.out (by kernel_rfl)) (by decide) (fun K hK => ?_)
        refine skip_ (w1 := ?_) (by rfl) rfl ?_ ?_
        rotate_left
        ·go_simp
         rfl
        refine hK.out _ _ ?_
        clear hK K
        refine done_ (done_of HT_.out (by kernel_rfl)) ?_
        try go_wp2
        (try simp only [← hl0_1])
        go_roundg k1
        case measure => have := HK1.out; omega
        case rel => exact ⟨(y104), (wrap64 (x2_1 + 1)), (wrap64 (x3_1 - 1)), (by first | rfl | (simp; done) | (simp [*]; done)), (by first | rfl | (simp; done) | (simp [*]; done)), H', ⟨by have := HK1.out; omega⟩, ⟨by (try simp only [hl0_1]); (with_reducible repeat (first | apply Kd.R_alloc | apply Kd.R_drewN | apply Kd.R_drew)); exact HQ12.out⟩, ⟨by repeat (first | (with_reducible first | exact HK.out | apply Kept.alloc | apply Kept.drewN | apply Kept.drew | refine Kept.setCell ?_ HMgo8.out _ | refine Kept.setCell ?_ HMgo8.out _ | refine Kept.setCell ?_ HMgo8.out _ | refine Kept.setCell ?_ HMgo8.out _) | exact HK.out)⟩, ⟨by repeat (first | (with_reducible first | exact HB.out | apply below_alloc | apply pw_below_drewN | apply below_drew1 | refine below_set ?_ GB8.out | refine below_set ?_ GB8.out | refine below_set ?_ GB8.out | refine below_set ?_ GB8.out) | exact HB.out)⟩⟩
       ·rw [if_neg c7] at H
        exact absurd H (by simp)
      ·rw [if_neg c6] at H
       exact absurd H (by simp)
     ·rw [if_neg c5] at H
      exact absurd H (by simp)
    ·rw [if_neg c4] at H
     exact absurd H (by simp)
   ·rw [if_neg c3] at H
    have c3b0 : decide (x2_1 < x3_1) = false := decide_eq_false c3
    clear c3
    obtain rfl := Option.some.inj H
    go_wp2
    first | go_end0 | ((try simp only [Exit.inBlock, Exit.then]); refine bodyPost_ret (results_none rfl _ _ _) rfl ?_)
    exact ⟨by first | rfl | (simp [errW_none, errW_some] <;> rfl) | (simp [*, errW_none, errW_some] <;> rfl), (by first | exact (by (with_reducible repeat (first | apply Kd.R_alloc | apply Kd.R_drewN | apply Kd.R_drew)); exact HO_0.out) | (simp only [hl0_1]; exact (by (with_reducible repeat (first | apply Kd.R_alloc | apply Kd.R_drewN | apply Kd.R_drew)); exact HO_0.out))), by repeat (first | (with_reducible first | exact HB.out | apply below_alloc | apply pw_below_drewN | apply below_drew1) | exact HB.out), by repeat (first | (with_reducible first | exact HK.out | apply Kept.alloc | apply Kept.drewN | apply Kept.drew) | exact HK.out)⟩
end Go.Proofs.Ytcabapilejagkaa.P
namespace Go.Proofs.Ytcabapilejagkaa.P
open Go.RowKit Go.Shelf Go.Proofs.YtcabapilejagkaaW.PrintWords Go.Proofs.YtcabapilejagkaaW.PrintLast Go.Proofs.YtcabapilejagkaaW.PrintMore
set_option linter.unusedVariables false
set_option linter.unusedSimpArgs false
attribute [local go_sem] Oper.semAt_some
structure Bk where
  s : Int
  p : Int
  n : Int
  deriving DecidableEq
def encB (b : Bk) : Value := .agg #[.int .i64 b.s, .int .i64 b.p, .int .u64 b.n]
def segW (side : Int) (l : List Pr) : List Bk := (l.filter (fun q : Pr => decide (0 < q.f1))).map (fun q : Pr => ⟨side, q.f0, q.f1⟩)
theorem segW_snoc (side : Int) (l : List Pr) (q : Pr) : segW side (l ++ [q]) = segW side l ++ (if 0 < q.f1 then [⟨side, q.f0, q.f1⟩] else []) := by
  unfold segW
  rw [List.filter_append, List.map_append]
  by_cases h : 0 < q.f1
  · rw [if_pos h, List.filter_cons, if_pos (by simpa using h)]; rfl
  · rw [if_neg h, List.filter_cons, if_neg (by simpa using h)]; rfl
def toldW (h : Hi) : List Bk := if checkR h = 0 then segW 1 (openR h).2.1.reverse ++ ((if h.f2 = 0 then [] else [⟨2, 0, h.f2⟩]) ++ segW 0 (openR h).1) else []
def KeepC (n0 : Nat) (A B : World) : Prop := A.heap.size ≤ B.heap.size ∧ ∀ q cs t fr, n0 ≤ q → A.heap[q]? = some (.cells cs t fr) → B.heap[q]? = some (.cells cs t fr)
theorem KeepC.refl (n0 : Nat) (A : World) : KeepC n0 A A := ⟨Nat.le_refl _, fun _ _ _ _ _ h => h⟩
theorem KeepC.trans {n0 : Nat} {A B C : World} (h : KeepC n0 A B) (k : KeepC n0 B C) : KeepC n0 A C := ⟨Nat.le_trans h.1 k.1, fun q cs t fr h0 h1 => k.2 q cs t fr h0 (h.2 q cs t fr h0 h1)⟩
theorem KeepC.of_below {n0 : Nat} {A B : World} (h : Below A.heap.size A B) : KeepC n0 A B := ⟨h.size, fun q cs t fr _ h1 => (h.block q (Array.getElem?_eq_some_iff.1 h1).1).trans h1⟩
theorem KeepC.put {n0 : Nat} (W : World) (l : Nat) (o o' : Obj) (h : W.heap[l]? = some o) (hc : o.isCells = false) : KeepC n0 W (W.putObj l o') := by
  have hg := grownBy_putObj' W l o'
  refine ⟨hg.size, fun k cs t fr h0 h1 => (hg.block k ((Array.getElem?_eq_some_iff.1 h1).1) (fun e => ?_)).trans h1⟩
  injection e with e
  subst e
  rw [h] at h1
  injection h1 with h1
  subst h1
  cases hc
theorem KeepC.setCell {n0 g i : Nat} (W : World) (hg : g < n0) (u : Value) : KeepC n0 W (W.setCell ⟨g, i, none⟩ u) :=
  ⟨by simp [World.setCell], fun q cs t fr h0 h1 => (Below.heap_setCell W ⟨g, i, none⟩ u q (by show q ≠ g; omega)).trans h1⟩
theorem KeepC.blk {n0 : Nat} {A B : World} (k : KeepC n0 A B) {g : Nat} {cs : Array Value} {t : TypeId} (hg : n0 ≤ g) (h : Blk A g cs t) : Blk B g cs t := k.2 g cs t (0, 0) hg h
def RowW (n0 : Nat) (W : World) (v : Value) (l : List Pr) : Prop := Kd.R kPr 30 W n0 (fun _ => True) v l
theorem RowW.keep {n0 : Nat} {A B : World} {v : Value} {l : List Pr} (h : RowW n0 A v l) (k : KeepC n0 A B) : RowW n0 B v l := by
  have hs : Kd.R kPr 30 A n0 (fun q => v.ownBlock = some q) v l := ⟨fun q hq => hq, h.2.imp_ (fun x cs hx => by rw [k30_openM hx]; exact k30_mkM _ _ _ x)⟩
  refine Kd.R_mono (Kd.R_step hs (fun q hq hlt => ?_)) (fun _ _ => trivial)
  obtain ⟨cells, hc⟩ := Kd.R_typed h q hq
  exact (k.2 q cells 30 (0, 0) (Kd.R_base h q hq) hc).trans hc.symm
theorem yield_wide {m m' : Nat} {P : Program} {l : Nat} {args : Array Value} {W : World} {R : Ending → World → Prop} (h : YieldAt Fence.wide m P l args W R) : YieldAt Fence.wide m' P l args W R := by
  obtain ⟨fn, t, a, b, h1, h2, h3⟩ := h
  exact ⟨fn, t, a, b, h1, h2, fun c cs _ => h3 c cs (room_wide _)⟩
set_option maxRecDepth 100000 in
set_option maxHeartbeats 4000000 in
theorem tell_in (n : Nat) (hn : 1 ≤ n) (L n0 b5 : Nat) (T : List Bk) (side : Int) (v : Value) (l : List Pr) (i0 : Nat) (J Jx : Nat → World → Prop)
    (hT : ∀ j, j < (segW side l).length → T[i0 + j]? = (segW side l)[j]?) (hw : ∀ q ∈ l, i64 q.f1)
    (hJ : ∀ i W W', J i W → W.grownBy W' none → J i W')
    (hY : ∀ i W, J i W → ∀ x, T[i]? = some x → YieldAt Fence.wide (n - 1) Try.prog L #[encB x] W fun e W' =>
      (e = .returned (.bool true) ∧ J (i + 1) W' ∧ KeepC n0 W W') ∨ (e = .returned (.bool false) ∧ Jx (i + 1) W'))
    (W : World) (hb : Blk W b5 #[.func (.yield L) #[] #[]] 148) (h5 : n0 ≤ b5) (hR : RowW n0 W v l) (h0 : J i0 W) :
    CallsIn Fence.wide n Try.prog 96 #[.int .i64 side, v, .pointer (some ⟨b5, 0, none⟩)] W fun e W' =>
      (e = .returned (.bool true) ∧ J (i0 + (segW side l).length) W' ∧ KeepC n0 W W') ∨ (e = .returned (.bool false) ∧ ∃ i, Jx i W') := by
  have hu := Try.underlying30
  obtain ⟨A, c, rfl, hlc, hC⟩ := Kd.R_reads hR
  have hm : l.length ≤ 9223372036854775807 := hC.2.1
  have HT := Aside0.mk hT
  have HW := Aside0.mk hw
  have HJ := Aside0.mk hJ
  have HY := Aside0.mk hY
  have HR := Aside0.mk hR
  have HB := Aside0.mk hb
  have H0 := Aside0.mk h0
  clear hT hw hJ hY hR hb h0 hC
  refine callsIn_of_wp Try.func96 rfl trivial ?_ rfl
  simp only [Try.ntmps96, List.size_toArray, List.length_cons, List.length_nil, Nat.reduceAdd, Nat.reduceSub, Array.replicate_succ, Array.replicate_zero, List.push_toArray, List.append_toArray, List.nil_append, List.cons_append]
  gi_wp2
  gi_loopw [10] (fun s10 wr => ∃ kk : Nat, kk ≤ l.length ∧ s10 = .int .i64 kk ∧ Aside0 (KeepC n0 W wr) ∧ Aside0 (J (i0 + (segW side (l.take kk)).length) wr)) (fun s10 _ => l.length - (intOf s10).toNat)
  case atStart => exact ⟨0, Nat.zero_le _, rfl, ⟨KeepC.refl _ _⟩, ⟨by simpa [segW] using H0.out⟩⟩
  case round =>
    obtain ⟨kk, hkk, rfl, HK, HJ0⟩ := hrel
    clear H0
    by_cases hlt : kk < l.length
    · have hlti : (kk : Int) < (l.length : Int) := by omega
      have HRW := Aside0.mk (HR.out.keep HK.out)
      have hC := (Kd.R_reads' HRW.out).2.2
      obtain ⟨ad, e1, hx0, hx1⟩ := at_T30 hC kk (by omega) (by omega)
      cases e1
      clear hC
      have hrd : rd_T30 l (kk : Int) = l[kk] := rdPr_at hlt
      rw [hrd, Int.toNat_natCast] at hx0 hx1
      have htk := segW_snoc side (l.take kk) l[kk]
      rw [← List.take_succ_eq_append_getElem hlt] at htk
      have hy64 := HW.out l[kk] (List.getElem_mem hlt)
      -- the place of what is told next
      have hnx : 0 < l[kk].f1 → T[i0 + (segW side (l.take kk)).length]? = some ⟨side, l[kk].f0, l[kk].f1⟩ := fun hp => by
        have hd : segW side l = segW side (l.take (kk + 1)) ++ segW side (l.drop (kk + 1)) := by
          conv => lhs; rw [← List.take_append_drop (kk + 1) l]
          unfold segW; rw [List.filter_append, List.map_append]
        rw [htk, if_pos hp] at hd
        rw [HT.out _ (by rw [hd]; simp), hd]
        simp
      have HNX := Aside0.mk hnx
      have HTK := Aside0.mk htk
      generalize l[kk] = y at hx0 hx1 HTK HNX hrd hy64
      clear hrd hnx htk
      have HBW := Aside0.mk (HK.out.blk h5 HB.out)
      by_cases hp : 0 < y.f1
      · have hp' : decide (0 < y.f1) = true := decide_eq_true hp
        have hcv : IntKind.u64.wrap y.f1 = y.f1 := by
          have h_ : IntKind.u64.wrap y.f1 = y.f1 % 18446744073709551616 := rfl
          have h2_ := hy64.2
          rw [h_]; omega
        have HX := Aside0.mk (HNX.out hp)
        rw [if_pos hp] at HTK
        have HJ1 := Aside0.mk (HJ.out _ _ _ HJ0.out (grown_of_below (below_alloc (Below.refl _ wr) (.cells #[.int .i64 y.f0, .int .i64 y.f1] 30)) none))
        have HKA := Aside0.mk (HK.out.trans (KeepC.of_below (below_alloc (Below.refl _ wr) (.cells #[.int .i64 y.f0, .int .i64 y.f1] 30))))
        have hbx := (HBW.out.alloc (.cells #[.int .i64 y.f0, .int .i64 y.f1] 30)).cell 0
        obtain ⟨fn, tmps, assign, body, hy, hRd⟩ := HY.out _ _ HJ1.out _ HX.out
        unfold encB at hy
        have HRR := Aside0.mk hRd
        clear hRd HJ0 HX HNX hp
        gi_wp2
        refine HRR.out.mono ?_
        rintro e W3 (⟨rfl, hJ3, hk3⟩ | ⟨rfl, hJx3⟩)
        · have HJ3 := Aside0.mk hJ3
          have HK3 := Aside0.mk (HKA.out.trans hk3)
          clear hJ3 hk3
          gi_wp2
          go_roundw
          case rel => exact ⟨kk + 1, by omega, by go_num, HK3, ⟨by rw [HTK.out, List.length_append]; exact HJ3.out⟩⟩
          case measure => simp [intOf]; omega
        · have HX := Aside0.mk hJx3
          clear hJx3
          gi_wp2
          go_ret
          exact .inr ⟨rfl, _, HX.out⟩
      · have hp' : decide (0 < y.f1) = false := decide_eq_false hp
        rw [if_neg hp, List.append_nil] at HTK
        have HJ1 := Aside0.mk (HJ.out _ _ _ HJ0.out (grown_of_below (below_alloc (Below.refl _ wr) (.cells #[.int .i64 y.f0, .int .i64 y.f1] 30)) none))
        have HKA := Aside0.mk (HK.out.trans (KeepC.of_below (below_alloc (Below.refl _ wr) (.cells #[.int .i64 y.f0, .int .i64 y.f1] 30))))
        clear HJ0 HNX
        gi_wp2
        refine ⟨fun f h => (by cases h), ?_⟩
        gi_wp2
        go_roundw
        case rel => exact ⟨kk + 1, by omega, by go_num, HKA, ⟨by rw [HTK.out]; exact HJ1.out⟩⟩
        case measure => simp [intOf]; omega
    · have hlti : ¬ (kk : Int) < (l.length : Int) := by omega
      have hk : l.take kk = l := List.take_of_length_le (by omega)
      have HKK := Aside0.mk hk
      clear hk
      gi_wp2
      go_ret
      have hj := HJ0.out
      rw [HKK.out] at hj
      exact .inl ⟨rfl, hj, HK.out⟩
end Go.Proofs.Ytcabapilejagkaa.P
namespace Go.Proofs.Ytcabapilejagkaa.P
open Go.RowKit Go.Shelf Go.Proofs.YtcabapilejagkaaW.PrintWords Go.Proofs.YtcabapilejagkaaW.PrintLast Go.Proofs.YtcabapilejagkaaW.PrintMore
set_option linter.unusedVariables false
set_option linter.unusedSimpArgs false
attribute [local go_sem] Oper.semAt_some
structure HoldsW (n0 bE bN bH bP : Nat) (h : Hi) (W : World) : Prop where
  ge : n0 ≤ bE ∧ n0 ≤ bN ∧ n0 ≤ bH ∧ n0 ≤ bP
  e : Blk W bE #[.int .i64 (checkR h)] 42
  n : ∃ v, Blk W bN #[v] 22 ∧ RowW n0 W v (openR h).2.1.reverse
  hh : ∃ v5 v6 v7 v8, Blk W bH #[.int .i64 h.f0, .int .u64 h.f1, .int .u64 h.f2, .int .u64 h.f3, .int .u64 h.f4, v5, v6, v7, v8] 37
  p : ∃ v, Blk W bP #[v] 22 ∧ RowW n0 W v (openR h).1
theorem HoldsW.keep {n0 bE bN bH bP : Nat} {h : Hi} {A B : World} (x : HoldsW n0 bE bN bH bP h A) (k : KeepC n0 A B) : HoldsW n0 bE bN bH bP h B := by
  obtain ⟨g, e, ⟨v, n1, n2⟩, ⟨v5, v6, v7, v8, hb⟩, ⟨u, p1, p2⟩⟩ := x
  exact ⟨g, k.blk g.1 e, ⟨v, k.blk g.2.1 n1, n2.keep k⟩, ⟨v5, v6, v7, v8, k.blk g.2.2.1 hb⟩, ⟨u, k.blk g.2.2.2 p1, p2.keep k⟩⟩
set_option maxRecDepth 100000 in
set_option maxHeartbeats 4000000 in
theorem walk1_in (n : Nat) (hn : 2 ≤ n) (L n0 bE bN bH bP : Nat) (h : Hi) (hwf : wfH h) (J Jx : Nat → World → Prop)
    (hJ : ∀ i W W', J i W → W.grownBy W' none → J i W')
    (hY : ∀ i W, J i W → ∀ x, (toldW h)[i]? = some x → YieldAt Fence.wide (n - 1) Try.prog L #[encB x] W fun e W' =>
      (e = .returned (.bool true) ∧ J (i + 1) W' ∧ KeepC n0 W W') ∨ (e = .returned (.bool false) ∧ Jx (i + 1) W'))
    (W : World) (hn0 : n0 ≤ W.heap.size) (hS : HoldsW n0 bE bN bH bP h W) (h0 : J 0 W) :
    CallsIn Fence.wide n Try.prog 95 #[.func (.yield L) #[] #[], .pointer (some ⟨bE, 0, none⟩), .pointer (some ⟨bN, 0, none⟩), .pointer (some ⟨bH, 0, none⟩), .pointer (some ⟨bP, 0, none⟩)] W fun e W' =>
      (∃ v, e = .returned v) ∧ (J (toldW h).length W' ∨ ∃ i, Jx i W') := by
  have hud := Try.underlying37
  have hbx := (Blk.new W #[.func (.yield L) #[] #[]] 148)
  have hal := below_alloc (Below.refl W.heap.size W) (.cells #[.func (.yield L) #[] #[]] 148)
  have HS := Aside0.mk (hS.keep (KeepC.of_below hal))
  have H0 := Aside0.mk (hJ _ _ _ h0 (grown_of_below hal none))
  obtain ⟨-, hce, ⟨vN, hcn, hrn⟩, ⟨v5, v6, v7, v8, hch⟩, ⟨vP, hcp, hrp⟩⟩ := HS.out
  have HB5 := Aside0.mk hbx
  have HJ := Aside0.mk hJ
  have HY := Aside0.mk hY
  have HRN := Aside0.mk hrn
  have HRP := Aside0.mk hrp
  have hrow := openR_row hwf
  have ce0 := hce.cell 0
  have cn0 := hcn.cell 0
  have ch0 := fun i => hch.cell i
  have cp0 := hcp.cell 0
  clear hS h0 hJ hY hbx hal hce hcn hch hcp hrn hrp
  refine callsIn_of_wp Try.func95 rfl trivial ?_ rfl
  simp only [Try.ntmps95, List.size_toArray, List.length_cons, List.length_nil, Nat.reduceAdd, Nat.reduceSub, Array.replicate_succ, Array.replicate_zero, List.push_toArray, List.append_toArray, List.nil_append, List.cons_append]
  by_cases hc : checkR h = 0
  · have ht : toldW h = segW 1 (openR h).2.1.reverse ++ ((if h.f2 = 0 then [] else [⟨2, 0, h.f2⟩]) ++ segW 0 (openR h).1) := by unfold toldW; rw [if_pos hc]
    rw [hc] at ce0
    have hw1 : ∀ q ∈ (openR h).2.1.reverse, i64 q.f1 := fun q hq => by have := hrow.2.cnt q (List.mem_reverse.1 hq); exact ⟨by omega, by omega⟩
    have hw0 : ∀ q ∈ (openR h).1, i64 q.f1 := fun q hq => by have := hrow.1.cnt q hq; exact ⟨by omega, by omega⟩
    generalize hrn_ : (openR h).2.1.reverse = rn at *
    generalize hrp_ : (openR h).1 = rp at *
    have HRPE := Aside0.mk hrp_
    clear hrn_ hrp_
    have t1 : ∀ j, j < (segW 1 rn).length → (toldW h)[0 + j]? = (segW 1 rn)[j]? := fun j hj => by rw [ht, Nat.zero_add, List.getElem?_append_left hj]
    have tell1 := tell_in (n - 1) (by omega) L n0 W.heap.size (toldW h) 1 vN rn 0 J Jx t1 hw1 HJ.out (fun i W hi x hx => yield_wide (HY.out i W hi x hx)) _ HB5.out hn0 HRN.out H0.out
    have HT1 := Aside0.mk tell1
    have HTT := Aside0.mk ht
    clear tell1 t1 ht hw1 H0 HRN
    gi_wp2
    (repeat (with_reducible refine And.intro (by with_unfolding_all (first | exact trivial | exact (fun f h => (by cases h)) | exact (fun _ => (by omega)))) ?_))
    refine HT1.out.mono ?_
    rintro e W1_ (⟨rfl, hj, hk⟩ | ⟨rfl, i, hx⟩)
    rotate_left
    · have HX := Aside0.mk hx
      clear hx
      gi_wp2
      iterate 4 ((try (all_goals (first | (rename_i hu1_ hu2_ hu3_ hu4_ hu5_ hu6_ hu7_ hu8_ hu9_; (first | (injection hu1_ with hu1_; cases hu1_; done) | (injection hu2_ with hu2_; cases hu2_; done) | (injection hu3_ with hu3_; cases hu3_; done))) | skip))); (try (all_goals (try ((repeat (with_reducible refine And.intro (by with_unfolding_all (first | exact trivial | exact (fun f h => (by cases h)) | exact (fun _ => (by omega)))) ?_)); gi_wp2)))))
      all_goals (first | (refine bodyPost_ret (results_none rfl _ _ _) rfl ?_) | go_end0)
      all_goals exact ⟨⟨_, rfl⟩, .inr ⟨_, HX.out⟩⟩
    have HS1 := Aside0.mk (HS.out.keep hk)
    have HB1 := Aside0.mk (hk.blk hn0 HB5.out)
    have HJ1 := Aside0.mk hj
    obtain ⟨-, -, -, ⟨w5, w6, w7, w8, hch1⟩, ⟨vQ, hcp1, hrq1⟩⟩ := HS1.out
    rw [HRPE.out] at hrq1
    have HR1 := Aside0.mk hrq1
    have ch1 := fun i => hch1.cell i
    have cp1 := hcp1.cell 0
    have cb1 := HB1.out.cell 0
    clear hk hj hch1 hcp1 hrq1 ch0 cp0 cn0 ce0
    by_cases hz : h.f2 = 0
    · have hz' : (h.f2 == 0) = true := beq_iff_eq.2 hz
      have t0 : ∀ j, j < (segW 0 rp).length → (toldW h)[0 + (segW 1 rn).length + j]? = (segW 0 rp)[j]? := fun j hj => by rw [HTT.out, if_pos hz, Nat.zero_add, List.nil_append, List.getElem?_append_right (by omega)]; congr 1; omega
      have tell0 := tell_in (n - 1) (by omega) L n0 W.heap.size (toldW h) 0 vQ rp _ J Jx t0 hw0 HJ.out (fun i W hi x hx => yield_wide (HY.out i W hi x hx)) _ HB1.out hn0 HR1.out HJ1.out
      have HT0 := Aside0.mk tell0
      have HL := Aside0.mk (show (toldW h).length = 0 + (segW 1 rn).length + (segW 0 rp).length by rw [HTT.out, if_pos hz]; simp)
      clear tell0 t0 hw0 hz
      gi_wp2
      (repeat (with_reducible refine And.intro (by with_unfolding_all (first | exact trivial | exact (fun f h => (by cases h)) | exact (fun _ => (by omega)))) ?_))
      (try gi_wp2)
      (repeat (with_reducible refine And.intro (by with_unfolding_all (first | exact trivial | exact (fun f h => (by cases h)) | exact (fun _ => (by omega)))) ?_))
      refine HT0.out.mono ?_
      rintro e W2_ (⟨rfl, hj, hk⟩ | ⟨rfl, i, hx⟩)
      · have HX := Aside0.mk hj
        clear hj hk
        gi_wp2
        iterate 4 ((try (all_goals (first | (rename_i hu1_ hu2_ hu3_ hu4_ hu5_ hu6_ hu7_ hu8_ hu9_; (first | (injection hu1_ with hu1_; cases hu1_; done) | (injection hu2_ with hu2_; cases hu2_; done) | (injection hu3_ with hu3_; cases hu3_; done))) | skip))); (try (all_goals (try ((repeat (with_reducible refine And.intro (by with_unfolding_all (first | exact trivial | exact (fun f h => (by cases h)) | exact (fun _ => (by omega)))) ?_)); gi_wp2)))))
        all_goals (first | (refine bodyPost_ret (results_none rfl _ _ _) rfl ?_) | go_end0)
        all_goals exact ⟨⟨_, rfl⟩, .inl (by rw [HL.out]; exact HX.out)⟩
      · have HX := Aside0.mk hx
        clear hx
        gi_wp2
        iterate 4 ((try (all_goals (first | (rename_i hu1_ hu2_ hu3_ hu4_ hu5_ hu6_ hu7_ hu8_ hu9_; (first | (injection hu1_ with hu1_; cases hu1_; done) | (injection hu2_ with hu2_; cases hu2_; done) | (injection hu3_ with hu3_; cases hu3_; done))) | skip))); (try (all_goals (try ((repeat (with_reducible refine And.intro (by with_unfolding_all (first | exact trivial | exact (fun f h => (by cases h)) | exact (fun _ => (by omega)))) ?_)); gi_wp2)))))
        all_goals (first | (refine bodyPost_ret (results_none rfl _ _ _) rfl ?_) | go_end0)
        all_goals exact ⟨⟨_, rfl⟩, .inr ⟨_, HX.out⟩⟩
    · have hz' : (h.f2 == 0) = false := beq_eq_false_iff_ne.2 hz
      have hx2 : (toldW h)[0 + (segW 1 rn).length]? = some ⟨2, 0, h.f2⟩ := by rw [HTT.out, if_neg hz, Nat.zero_add, List.getElem?_append_right (by omega)]; simp
      obtain ⟨fn, tmps, assign, body, hy, hRd⟩ := HY.out _ _ HJ1.out _ hx2
      unfold encB at hy
      have HRR := Aside0.mk hRd
      have t0 : ∀ j, j < (segW 0 rp).length → (toldW h)[0 + (segW 1 rn).length + 1 + j]? = (segW 0 rp)[j]? := fun j hj => by
        rw [HTT.out, if_neg hz, Nat.zero_add, List.getElem?_append_right (by omega), List.getElem?_append_right (by simp; omega)]
        congr 1; simp; omega
      have HT0_ := Aside0.mk t0
      have HL := Aside0.mk (show (toldW h).length = 0 + (segW 1 rn).length + 1 + (segW 0 rp).length by rw [HTT.out, if_neg hz]; simp; omega)
      clear hRd t0 hx2 hz
      gi_wp2
      (repeat (with_reducible refine And.intro (by with_unfolding_all (first | exact trivial | exact (fun f h => (by cases h)) | exact (fun _ => (by omega)))) ?_))
      refine HRR.out.mono ?_
      rintro e W2_ (⟨rfl, hj, hk⟩ | ⟨rfl, hx⟩)
      rotate_left
      · have HX := Aside0.mk hx
        clear hx
        gi_wp2
        iterate 4 ((try (all_goals (first | (rename_i hu1_ hu2_ hu3_ hu4_ hu5_ hu6_ hu7_ hu8_ hu9_; (first | (injection hu1_ with hu1_; cases hu1_; done) | (injection hu2_ with hu2_; cases hu2_; done) | (injection hu3_ with hu3_; cases hu3_; done))) | skip))); (try (all_goals (try ((repeat (with_reducible refine And.intro (by with_unfolding_all (first | exact trivial | exact (fun f h => (by cases h)) | exact (fun _ => (by omega)))) ?_)); gi_wp2)))))
        all_goals (first | (refine bodyPost_ret (results_none rfl _ _ _) rfl ?_) | go_end0)
        all_goals exact ⟨⟨_, rfl⟩, .inr ⟨_, HX.out⟩⟩
      have HS2 := Aside0.mk (HS1.out.keep hk)
      have HB2 := Aside0.mk (hk.blk hn0 HB1.out)
      have HJ2 := Aside0.mk hj
      obtain ⟨-, -, -, -, ⟨vS, hcp2, hrq2⟩⟩ := HS2.out
      have cp2 := hcp2.cell 0
      rw [HRPE.out] at hrq2
      have HR2 := Aside0.mk hrq2
      have tell0 := tell_in (n - 1) (by omega) L n0 W.heap.size (toldW h) 0 vS rp _ J Jx HT0_.out hw0 HJ.out (fun i W hi x hx => yield_wide (HY.out i W hi x hx)) _ HB2.out hn0 HR2.out HJ2.out
      have HT0 := Aside0.mk tell0
      clear tell0 hw0 hk hj ch1 cp1 cb1 hcp2 hrq2
      gi_wp2
      (repeat (with_reducible refine And.intro (by with_unfolding_all (first | exact trivial | exact (fun f h => (by cases h)) | exact (fun _ => (by omega)))) ?_))
      (try gi_wp2)
      (repeat (with_reducible refine And.intro (by with_unfolding_all (first | exact trivial | exact (fun f h => (by cases h)) | exact (fun _ => (by omega)))) ?_))
      refine HT0.out.mono ?_
      rintro e W3_ (⟨rfl, hj, hk⟩ | ⟨rfl, i, hx⟩)
      · have HX := Aside0.mk hj
        clear hj hk
        gi_wp2
        iterate 4 ((try (all_goals (first | (rename_i hu1_ hu2_ hu3_ hu4_ hu5_ hu6_ hu7_ hu8_ hu9_; (first | (injection hu1_ with hu1_; cases hu1_; done) | (injection hu2_ with hu2_; cases hu2_; done) | (injection hu3_ with hu3_; cases hu3_; done))) | skip))); (try (all_goals (try ((repeat (with_reducible refine And.intro (by with_unfolding_all (first | exact trivial | exact (fun f h => (by cases h)) | exact (fun _ => (by omega)))) ?_)); gi_wp2)))))
        all_goals (first | (refine bodyPost_ret (results_none rfl _ _ _) rfl ?_) | go_end0)
        all_goals exact ⟨⟨_, rfl⟩, .inl (by rw [HL.out]; exact HX.out)⟩
      · have HX := Aside0.mk hx
        clear hx
        gi_wp2
        iterate 4 ((try (all_goals (first | (rename_i hu1_ hu2_ hu3_ hu4_ hu5_ hu6_ hu7_ hu8_ hu9_; (first | (injection hu1_ with hu1_; cases hu1_; done) | (injection hu2_ with hu2_; cases hu2_; done) | (injection hu3_ with hu3_; cases hu3_; done))) | skip))); (try (all_goals (try ((repeat (with_reducible refine And.intro (by with_unfolding_all (first | exact trivial | exact (fun f h => (by cases h)) | exact (fun _ => (by omega)))) ?_)); gi_wp2)))))
        all_goals (first | (refine bodyPost_ret (results_none rfl _ _ _) rfl ?_) | go_end0)
        all_goals exact ⟨⟨_, rfl⟩, .inr ⟨_, HX.out⟩⟩
  · have ht : toldW h = [] := by unfold toldW; rw [if_neg hc]
    have hc' : (checkR h != 0) = true := bne_iff_ne.2 hc
    generalize checkR h = r at *
    have HT := Aside0.mk ht
    clear ht hc
    gi_wp2
    iterate 4 ((try (all_goals (first | (rename_i hu1_ hu2_ hu3_ hu4_ hu5_ hu6_ hu7_ hu8_ hu9_; (first | (injection hu1_ with hu1_; cases hu1_; done) | (injection hu2_ with hu2_; cases hu2_; done) | (injection hu3_ with hu3_; cases hu3_; done))) | skip))); (try (all_goals (try ((repeat (with_reducible refine And.intro (by with_unfolding_all (first | exact trivial | exact (fun f h => (by cases h)) | exact (fun _ => (by omega)))) ?_)); gi_wp2)))))
    all_goals (first | (refine bodyPost_ret (results_none rfl _ _ _) rfl ?_) | go_end0)
    all_goals exact ⟨⟨_, rfl⟩, .inl (by rw [HT.out]; exact H0.out)⟩
end Go.Proofs.Ytcabapilejagkaa.P
namespace Go.Proofs.Ytcabapilejagkaa.P
open Go.RowKit Go.Shelf Go.Proofs.YtcabapilejagkaaW.PrintWords Go.Proofs.YtcabapilejagkaaW.PrintLast Go.Proofs.YtcabapilejagkaaW.PrintMore
set_option linter.unusedVariables false
set_option linter.unusedSimpArgs false
theorem reverse_loop (l : List Pr) (hm : l.length < 4611686018427387904) : ∀ (d k i : Nat) (X : List Pr), l.length - 2 * i ≤ d → d < k → X.length = l.length → 2 * i ≤ l.length + 1 →
    (∀ m (h : m < l.length) (hx : m < X.length), X[m] = if m < i ∨ l.length ≤ m + i then l[l.length - 1 - m] else l[m]) →
    pairs_Pair_int64_94.l0 k X (i : Int) ((l.length : Int) - 1 - (i : Int)) = some l.reverse := by
  intro d
  induction d with
  | zero =>
    intro k i X hd hk hl hi hX
    obtain ⟨k, rfl⟩ : ∃ m, k = m + 1 := ⟨k - 1, by omega⟩
    rw [pairs_Pair_int64_94.l0, if_neg (by omega)]
    congr 1
    refine List.ext_getElem (by simp [hl]) (fun m h1 h2 => ?_)
    rw [hX m (by omega) h1, List.getElem_reverse]
    by_cases c : m < i ∨ l.length ≤ m + i
    · rw [if_pos c]
    · rw [if_neg c]; congr 1; omega
  | succ d ih =>
    intro k i X hd hk hl hi hX
    obtain ⟨k, rfl⟩ : ∃ m, k = m + 1 := ⟨k - 1, by omega⟩
    by_cases c : (i : Int) < (l.length : Int) - 1 - (i : Int)
    · have h1 : l.length - 1 - i < X.length := by omega
      have h2 : i < X.length := by omega
      have e3 : ((l.length : Int) - 1 - (i : Int)) = ((l.length - 1 - i : Nat) : Int) := by omega
      rw [pairs_Pair_int64_94.l0, if_pos c, if_pos (by omega), if_pos (by omega), if_pos (by omega), if_pos (by omega), e3, rdPr_at h1, rdPr_at h2, Int.toNat_natCast, Int.toNat_natCast, wrap_succ (by omega), wrap_id (by omega) (by omega)]
      have e4 : (((l.length - 1 - i : Nat) : Int) - 1) = (l.length : Int) - 1 - ((i + 1 : Nat) : Int) := by omega
      rw [e4]
      refine ih k (i + 1) _ (by omega) (by omega) (by simp [hl]) (by omega) (fun m hm1 hm2 => ?_)
      rw [List.getElem_set]
      by_cases q1 : l.length - 1 - i = m
      · rw [if_pos q1, if_pos (by omega)]
        have := hX i (by omega) h2
        rw [if_neg (by omega)] at this
        have e5 : l.length - 1 - m = i := by omega
        simp only [e5]
        rw [← this]
      · rw [if_neg q1, List.getElem_set]
        by_cases q2 : i = m
        · rw [if_pos q2, if_pos (by omega)]
          have := hX (l.length - 1 - i) (by omega) h1
          rw [if_neg (by omega)] at this
          subst q2
          rw [← this]
        · rw [if_neg q2, hX m hm1 (by omega)]
          by_cases q3 : m < i ∨ l.length ≤ m + i
          · rw [if_pos q3, if_pos (by omega)]
          · rw [if_neg q3, if_neg (by omega)]
    · rw [pairs_Pair_int64_94.l0, if_neg c]
      congr 1
      refine List.ext_getElem (by simp [hl]) (fun m h1 h2 => ?_)
      rw [hX m (by omega) h1, List.getElem_reverse]
      by_cases c : m < i ∨ l.length ≤ m + i
      · rw [if_pos c]
      · rw [if_neg c]; congr 1; omega
theorem reverse_eq (l : List Pr) (hm : l.length < 4611686018427387904) (k : Nat) (hk : l.length < k) : pairs_Pair_int64_94.f k l = some l.reverse := by
  unfold pairs_Pair_int64_94.f
  by_cases h0 : l.length = 0
  · obtain rfl := List.eq_nil_of_length_eq_zero h0
    obtain ⟨k, rfl⟩ : ∃ m, k = m + 1 := ⟨k - 1, by simp at hk; omega⟩
    rw [pairs_Pair_int64_94.l0, if_neg (by rw [show (((([] : List Pr).length : Nat) : Int) - 1) = -1 from rfl, wrap_id (by omega) (by omega)]; omega)]; rfl
  · have := reverse_loop l hm l.length k 0 l (by omega) hk rfl (by omega) (fun m h hx => by rw [if_neg (by omega)])
    rw [wrap_id (by omega) (by omega)]
    simpa using this
theorem open_rc (h : Hi) (hw : wfH h) (w : World) (v : Value) (hv : HI w v h) : Calls Try.prog 93 #[v] w fun e w' =>
    ∃ v0 v1 : Value, e = .returned (.tuple #[v0, v1, .int .i64 (checkR h)]) ∧ Kd.R kPr 30 w' w.heap.size (fun k_ => (w.heap.size ≤ k_) ∧ some k_ ≠ v1.ownBlock) v0 (openR h).1 ∧ Kd.R kPr 30 w' w.heap.size (fun k_ => (w.heap.size ≤ k_) ∧ some k_ ≠ v0.ownBlock) v1 (openR h).2.1 ∧ Below w.heap.size w w' := by
  obtain ⟨A5, c5, A6, c6, A7, c7, A8, c8, rfl, ⟨_, _, e5, h51, h52⟩, ⟨_, _, e6, h61, h62⟩, ⟨_, _, e7, h71, h72⟩, ⟨_, _, e8, h81, h82⟩⟩ := hv.open_
  cases e5; cases e6; cases e7; cases e8
  exact hist_open.calls h.f0 h.f1 h.f2 h.f3 h.f4 A5 c5 h.f5 A6 c6 h.f6 A7 c7 h.f7 A8 c8 h.f8 (openR h).1 (openR h).2.1 (openR h).2.2 w h52 h51 h62 h61 h72 h71 h82 h81 (if_pos hw)
theorem RowW.of_R {n0 : Nat} {W : World} {ok : Nat → Prop} {v : Value} {l : List Pr} (h : Kd.R kPr 30 W n0 ok v l) : RowW n0 W v l := Kd.R_mono h (fun _ _ => trivial)
theorem at0 (w : World) (a b c : Array Value) (ta tb tc : TypeId) : Blk (((w.alloc (.cells a ta)).alloc (.cells b tb)).alloc (.cells c tc)) w.heap.size a ta := ((Blk.new w a ta).alloc _).alloc _
theorem at1 (w : World) (a b c : Array Value) (ta tb tc : TypeId) : Blk (((w.alloc (.cells a ta)).alloc (.cells b tb)).alloc (.cells c tc)) (w.heap.size + 1) b tb := (Blk.at1 (w := w) (.cells a ta) b tb).alloc _
theorem at2 (w : World) (a b c : Array Value) (ta tb tc : TypeId) : Blk (((w.alloc (.cells a ta)).alloc (.cells b tb)).alloc (.cells c tc)) (w.heap.size + 1 + 1) c tc := by have := Blk.at1 (w := w.alloc (.cells a ta)) (.cells b tb) c tc; simpa using this
theorem R_ok {w : World} {base : Nat} {ok ok' : Nat → Prop} {v : Value} {l : List Pr} (h : Kd.R kPr 30 w base ok v l) (h' : ∀ k, v.ownBlock = some k → ok' k) : Kd.R kPr 30 w base ok' v l := ⟨h', h.2.imp_ (fun x cs hx => by rw [k30_openM hx]; exact k30_mkM _ _ _ x)⟩
theorem R_has {w : World} {base : Nat} {ok : Nat → Prop} {v : Value} {l : List Pr} (h : Kd.R kPr 30 w base ok v l) : ∀ k, v.ownBlock = some k → ok k := h.1
theorem RowW.of_kept {n0 base : Nat} {A B : World} {ok : Nat → Prop} {v : Value} {l : List Pr} (h : Kd.R kPr 30 A base ok v l) (hn : n0 ≤ base) (hh : ∀ q, v.ownBlock = some q → B.heap[q]? = A.heap[q]?) : RowW n0 B v l :=
  Kd.R_mono (Kd.R_lower (Kd.R_step (R_ok (ok' := fun q => v.ownBlock = some q) h (fun _ e => e)) (fun q hq _ => hh q hq)) hn) (fun _ _ => trivial)
set_option maxRecDepth 100000 in
set_option maxHeartbeats 8000000 in
theorem walk_c (h : Hi) (hw : wfH h) (w : World) (v : Value) (hv : HI w v h) : Calls Try.prog 32 #[v] w fun e w' =>
    ∃ bE bN bH bP : Nat, e = .returned (.func (.func 95) #[] #[.pointer (some ⟨bE, 0, none⟩), .pointer (some ⟨bN, 0, none⟩), .pointer (some ⟨bH, 0, none⟩), .pointer (some ⟨bP, 0, none⟩)]) ∧ HoldsW w.heap.size bE bN bH bP h w' ∧ Below w.heap.size w w' := by
  have hud := Try.underlying37
  obtain ⟨A5, c5, A6, c6, A7, c7, A8, c8, e, -⟩ := hv.open_
  subst e
  have hlen := (openR_row hw).2.len
  have HO := Aside0.mk (open_rc h hw)
  have HL := Aside0.mk hlen
  have hal0 := below_alloc (Below.refl w.heap.size w) (.cells #[.int .i64 h.f0, .int .u64 h.f1, .int .u64 h.f2, .int .u64 h.f3, .int .u64 h.f4, .slice A5 h.f5.length c5, .slice A6 h.f6.length c6, .slice A7 h.f7.length c7, .slice A8 h.f8.length c8] 37)
  have HV := Aside0.mk (hv.below hal0)
  have X := Aside0.mk (Blk.new w #[.int .i64 h.f0, .int .u64 h.f1, .int .u64 h.f2, .int .u64 h.f3, .int .u64 h.f4, .slice A5 h.f5.length c5, .slice A6 h.f6.length c6, .slice A7 h.f7.length c7, .slice A8 h.f8.length c8] 37)
  have hx := fun i => X.out.cell i
  have B := Aside0.mk hal0
  clear hv hlen hal0
  go_enter Try.func32, Try.ntmps32
  go_wp2_with (first | (go_at_call 93; (with_reducible refine (HO.out _ _ HV.out).mono ?_); rintro e W1 ⟨v0, v1, rfl, h0, h1, hb⟩; replace B := Aside0.mk (below_then B.out B.out.size hb); replace X := Aside0.mk (X.out.below hb); replace hx := fun i => X.out.cell i; have R0 := Aside0.mk h0; have R1 := Aside0.mk h1; obtain ⟨P0, d0, e0⟩ := Kd.R_slice R0.out; obtain ⟨P1, d1, e1⟩ := Kd.R_slice R1.out; subst e0; subst e1; have HB0 := Aside0.mk hb; clear h0 h1 hb) | (go_at_call 94; (with_reducible refine (pairs_Pair_int64_94.calls 5000 (fun k => k < W1.heap.size ∧ some k ≠ (.slice P0 (openR h).1.length d0 : Value).ownBlock) _ (openR h).2.1 (openR h).2.1.reverse (w.alloc (.cells #[.int .i64 h.f0, .int .u64 h.f1, .int .u64 h.f2, .int .u64 h.f3, .int .u64 h.f4, .slice A5 h.f5.length c5, .slice A6 h.f6.length c6, .slice A7 h.f7.length c7, .slice A8 h.f8.length c8] 37)) _ (below_alloc (below_alloc (below_alloc HB0.out _) _) _) (R_ok (Kd.R_alloc (Kd.R_alloc (Kd.R_alloc R1.out _) _) _) (fun k hk => ⟨Kd.R_lt R1.out k hk, (R_has R1.out k hk).2⟩)) (reverse_eq _ (by have := HL.out; omega) _ (by have := HL.out; omega))).mono ?_); rintro e W2 ⟨rfl, hr, hb, hk⟩; have RR := Aside0.mk hr; have RB := Aside0.mk hb; have RK := Aside0.mk hk; clear hr hb hk))
  go_ret
  refine ⟨W1.heap.size + 1 + 1, W1.heap.size + 1, w.heap.size, W1.heap.size, rfl, ?_, below_then (below_alloc (Below.refl _ _) _) (by simp) RB.out⟩
  have hsz := HB0.out.size
  have hsz1 : w.heap.size + 1 ≤ W1.heap.size := by simpa using hsz
  have hb := RB.out
  have hk := RK.out
  refine ⟨⟨by omega, by omega, Nat.le_refl _, by omega⟩, ?_, ⟨.slice P1 (openR h).2.1.length d1, ?_, RowW.of_R (Kd.R_lower RR.out (by simp))⟩, ⟨.slice A5 h.f5.length c5, .slice A6 h.f6.length c6, .slice A7 h.f7.length c7, .slice A8 h.f8.length c8, ?_⟩, ⟨.slice P0 (openR h).1.length d0, ?_, ?_⟩⟩
  · exact (hk.2 (W1.heap.size + 1 + 1) (by simp) (fun q => by have := q.1; omega)).trans (at2 W1 _ _ _ _ _ _)
  · exact (hk.2 (W1.heap.size + 1) (by simp) (fun q => by have := q.1; omega)).trans (at1 W1 _ _ _ _ _ _)
  · exact (hb.block w.heap.size (by simp)).trans (blk_new w _)
  · exact (hk.2 W1.heap.size (by simp; omega) (fun q => by have := q.1; omega)).trans (at0 W1 _ _ _ _ _ _)
  · have hk0 : ∀ q, (Value.slice P0 (openR h).1.length d0).ownBlock = some q → W2.heap[q]? = W1.heap[q]? := fun q hq => by
      have hl := Kd.R_lt R0.out q hq
      refine (hk.2 q (by simp; omega) (fun y => y.2 hq.symm)).trans ?_
      refine (Below.heap_alloc _ _ _ (by simp; omega)).trans ((Below.heap_alloc _ _ _ (by simp; omega)).trans (Below.heap_alloc _ _ _ hl))
    exact RowW.of_kept R0.out (by simp) hk0
theorem walk1_stops (n : Nat) (hn : 2 ≤ n) (n0 bE bN bH bP : Nat) (h : Hi) (hwf : wfH h) (w : World) (hn0 : n0 ≤ w.heap.size) (hS : HoldsW n0 bE bN bH bP h w) :
    SeqStopsK Fence.wide n Try.prog 95 #[.pointer (some ⟨bE, 0, none⟩), .pointer (some ⟨bN, 0, none⟩), .pointer (some ⟨bH, 0, none⟩), .pointer (some ⟨bP, 0, none⟩)] (fun x : Fin (toldW h).length => #[encB ((toldW h).get x)]) (KeepC n0) (fun ys => ys.map (·.val) = List.range (toldW h).length) (fun ys => ys.map (·.val) = List.range ys.length) (toldW h).length w := by
  intro L J Jx W hW hJ hJx hY h0
  refine (walk1_in n hn L n0 bE bN bH bP h hwf (fun i W => ∃ xs : List (Fin (toldW h).length), xs.map (·.val) = List.range i ∧ J xs W) (fun i W => ∃ xs, xs.map (·.val) = List.range xs.length ∧ Jx xs W)
    (fun i A B ⟨xs, e, hj⟩ hg => ⟨xs, e, hJ xs A B none hj hg (fun r e => by cases e)⟩)
    (by
      rintro i W1 ⟨xs, e, hj⟩ x hx
      obtain ⟨hi, rfl⟩ := List.getElem?_eq_some_iff.1 hx
      have hl : xs.length = i := by have := congrArg List.length e; simpa using this
      obtain ⟨fn, tmps, assign, body, hyy, hR⟩ := hY xs ⟨i, hi⟩ W1 hj (by omega)
      refine ⟨fn, tmps, assign, body, hyy, hR.mono ?_⟩
      rintro e' W' (⟨e1, e2, e3⟩ | ⟨e1, e2⟩)
      · exact .inl ⟨e1, ⟨xs ++ [⟨i, hi⟩], by rw [List.map_append, e, List.range_succ]; rfl, e2⟩, e3⟩
      · exact .inr ⟨e1, ⟨_, by rw [List.map_append, e, List.length_append, hl]; show List.range i ++ [i] = List.range (i + 1); rw [List.range_succ], e2⟩⟩)
    W (Nat.le_trans hn0 hW.size) (hS.keep (KeepC.of_below hW)) ⟨[], rfl, h0⟩).mono ?_
  rintro e W' ⟨hv, ⟨xs, e1, hj⟩ | ⟨i, xs, hp, hj⟩⟩
  · exact ⟨hv, .inl ⟨xs, e1, hj⟩⟩
  · exact ⟨hv, .inr ⟨xs, hp, hj⟩⟩
end Go.Proofs.Ytcabapilejagkaa.P
namespace Go.Proofs.Ytcabapilejagkaa.P
open Go.RowKit Go.Shelf Go.Proofs.YtcabapilejagkaaW.PrintWords Go.Proofs.YtcabapilejagkaaW.PrintLast Go.Proofs.YtcabapilejagkaaW.PrintMore
set_option linter.unusedVariables false
set_option linter.unusedSimpArgs false
attribute [local go_sem] Oper.semAt_some
def sumB : List Bk → Int
  | [] => 0
  | b :: l => b.n + sumB l
theorem sumB_app : ∀ (l m : List Bk), sumB (l ++ m) = sumB l + sumB m
  | [], m => by simp [sumB]
  | b :: l, m => by simp only [List.cons_append, sumB]; rw [sumB_app l m]; omega
theorem sumB_snoc (l : List Bk) (b : Bk) : sumB (l ++ [b]) = sumB l + b.n := by rw [sumB_app]; simp [sumB]
theorem segW_u64 {side : Int} {l : List Pr} (h : cnts l) : ∀ b ∈ segW side l, 0 ≤ b.n ∧ b.n < 9223372036854775808 := by
  intro b hb
  unfold segW at hb
  obtain ⟨q, hq, rfl⟩ := List.mem_map.1 hb
  have h1 := h q (List.mem_filter.1 hq).1
  exact ⟨by show 0 ≤ q.f1; omega, by show q.f1 < _; omega⟩
theorem toldW_u64 {h : Hi} (hw : wfH h) : ∀ b ∈ toldW h, u64 b.n := by
  intro b hb
  have hrow := openR_row hw
  unfold toldW at hb
  by_cases c : checkR h = 0
  · rw [if_pos c] at hb
    rcases List.mem_append.1 hb with hb | hb
    · have := segW_u64 (side := 1) (l := (openR h).2.1.reverse) (fun q hq => hrow.2.cnt q (List.mem_reverse.1 hq)) b hb
      exact ⟨by omega, by omega⟩
    rcases List.mem_append.1 hb with hb | hb
    · by_cases z : h.f2 = 0
      · rw [if_pos z] at hb; simp at hb
      · rw [if_neg z] at hb
        obtain rfl := List.mem_singleton.1 hb
        exact hw.2.2.1
    · have := segW_u64 (side := 0) hrow.1.cnt b hb
      exact ⟨by omega, by omega⟩
  · rw [if_neg c] at hb; simp at hb
def toldL (h : Hi) (pre : List (Fin (toldW h).length)) : List Bk := pre.map (fun i => (toldW h).get i)
theorem toldL_snoc (h : Hi) (pre : List (Fin (toldW h).length)) (x : Fin (toldW h).length) : toldL h (pre ++ [x]) = toldL h pre ++ [(toldW h).get x] := by unfold toldL; rw [List.map_append]; rfl
theorem toldL_take {h : Hi} {pre : List (Fin (toldW h).length)} (e : pre.map (·.val) = List.range pre.length) : toldL h pre = (toldW h).take pre.length := by
  have hv : ∀ i (hi : i < pre.length), pre[i].val = i := fun i hi => by
    have : (pre.map (·.val))[i]'(by simpa using hi) = i := by simp only [e, List.getElem_range]
    simpa using this
  have hl : pre.length ≤ (toldW h).length := by
    rcases Nat.eq_zero_or_pos pre.length with h0 | h0
    · omega
    · have := hv (pre.length - 1) (by omega)
      have := pre[pre.length - 1].isLt
      omega
  unfold toldL
  refine List.ext_getElem (by simp; omega) (fun i h1 h2 => ?_)
  have hi : i < pre.length := by simpa using h1
  simp only [List.getElem_map, List.getElem_take, List.get_eq_getElem, hv i hi]
theorem toldL_all {h : Hi} {pre : List (Fin (toldW h).length)} (e : pre.map (·.val) = List.range (toldW h).length) : toldL h pre = toldW h := by
  have hl : pre.length = (toldW h).length := by have := congrArg List.length e; simpa using this
  rw [toldL_take (by rw [e, hl]), hl, List.take_length]
def encB1 (b : Bk) : Array Value := #[.int .i64 b.s, .int .i64 b.p, .int .u64 b.n]
def BlkF (W : World) (g : Nat) (cs : Array Value) : Prop := Blk W g cs 62
theorem BlkF.grown {A B : World} {g : Nat} {cs : Array Value} {row : Option Nat} {n0 : Nat} (h : BlkF A g cs) (hg : A.grownBy B row) (hr : ∀ r, row = some r → n0 ≤ r ∧ ∃ o : Obj, A.heap[r]? = some o ∧ o.isCells = false) : BlkF B g cs :=
  (hg.block g (blk_lt h) (fun e => by obtain ⟨-, o, h1, h2⟩ := hr g e.symm; rw [show A.heap[g]? = _ from h] at h1; injection h1 with h1; subst h1; cases h2)).trans h
def totalR (h : Hi) : Int × Int := if checkR h = 0 then (IntKind.u64.wrap (sumB (toldW h)), 0) else (0, checkR h)
set_option maxHeartbeats 8000000 in
set_option maxRecDepth 100000 in
theorem total_c (h : Hi) (hw : wfH h) (w : World) (v : Value) (hv : HI w v h) : Calls Try.prog 35 #[v] w fun e w' =>
    e = .returned (.tuple #[.int .u64 (totalR h).1, .int .i64 (totalR h).2]) ∧ Below w.heap.size w w' := by
  have hud := Try.underlying37
  have hub := Try.underlying62
  obtain ⟨A5, c5, A6, c6, A7, c7, A8, c8, e, -⟩ := hv.open_
  subst e
  have hal0 := below_alloc (Below.refl w.heap.size w) (.cells #[.int .i64 h.f0, .int .u64 h.f1, .int .u64 h.f2, .int .u64 h.f3, .int .u64 h.f4, .slice A5 h.f5.length c5, .slice A6 h.f6.length c6, .slice A7 h.f7.length c7, .slice A8 h.f8.length c8] 37)
  have HV := Aside0.mk (hv.below hal0)
  have X := Aside0.mk (Blk.new w #[.int .i64 h.f0, .int .u64 h.f1, .int .u64 h.f2, .int .u64 h.f3, .int .u64 h.f4, .slice A5 h.f5.length c5, .slice A6 h.f6.length c6, .slice A7 h.f7.length c7, .slice A8 h.f8.length c8] 37)
  have hx := fun i => X.out.cell i
  have B := Aside0.mk hal0
  have CK := Aside0.mk (check_c h hw)
  have WK := Aside0.mk (walk_c h hw)
  have HW := Aside0.mk hw
  clear hv hal0 hw
  unfold totalR
  by_cases c1 : checkR h = 0
  rotate_left
  · rw [if_neg c1]
    generalize checkR h = ec at *
    have d1 : (ec != 0) = true := bne_iff_ne.2 c1
    clear c1 WK
    go_enter Try.func35, Try.ntmps35
    go_wp2_with (go_at_call 72; (with_reducible refine (CK.out _ _ HV.out).mono ?_); rintro e W1 ⟨rfl, hb⟩; replace B := Aside0.mk (below_then B.out B.out.size hb); clear hb)
    go_ret2
    exact ⟨rfl, B.out⟩
  rw [if_pos c1]
  rw [c1] at CK
  have HC := Aside0.mk c1
  clear c1
  refine (callsIn_wide (n := 5)).1 ?_
  refine callsIn_of_wp_marks Try.func35 rfl trivial ?_ rfl
  simp only [Try.ntmps35, List.size_toArray, List.length_cons, List.length_nil, Nat.reduceAdd, Nat.reduceSub, Array.replicate_succ, Array.replicate_zero, List.push_toArray, List.append_toArray, List.nil_append, List.cons_append]
  refine wpIn_wide.2 ?_
  go_wp2_with (first | (go_at_call 72; (with_reducible refine (CK.out _ _ HV.out).mono ?_); rintro e W1 ⟨rfl, hb⟩; replace B := Aside0.mk (below_then B.out B.out.size hb); replace HV := Aside0.mk (HV.out.below hb); replace X := Aside0.mk (X.out.below hb); replace hx := fun i => X.out.cell i; have hxa := fun i => (X.out.alloc (.cells #[.int .u64 0] 33)).cell i; have LOWA := Aside0.mk hb.size; clear hb) | (go_at_call 32; (with_reducible refine (WK.out _ _ (HV.out.below (below_alloc (Below.refl _ _) _))).mono ?_); rintro e W2 ⟨bE, bN, bH, bP, rfl, hS, hb⟩; replace B := Aside0.mk (below_then (below_then B.out B.out.size (below_alloc (Below.refl _ _) (.cells #[.int .u64 0] 33))) (by have := B.out.size; simp at this ⊢; omega) hb); have HS := Aside0.mk hS; have HB2 := Aside0.mk hb; clear hS hb))
  refine (wpIn_wide (n := 5)).1 ?_
  have hz1 : (W1.alloc (.cells #[.int .u64 0] 33)).heap.size = W1.heap.size + 1 := by simp
  have hbx0 : Boxed W2 W1.heap.size 33 (.int .u64 0) := (HB2.out.block _ (by simp)).trans (by simpa using blk_new W1 (.cells #[.int .u64 0] 33))
  have hge2 : W1.heap.size + 1 ≤ W2.heap.size := by have := HB2.out.size; omega
  have hw2 : w.heap.size ≤ W1.heap.size := by have := LOWA.out; simp at this; omega
  have hS2 : HoldsW (W1.heap.size + 1) bE bN bH bP h W2 := by have := HS.out; rwa [hz1] at this
  refine wpIn_rangeFunc_ownH rfl (by omega) (gf := 95) (lb := #[.pointer (some ⟨bE, 0, none⟩), .pointer (some ⟨bN, 0, none⟩), .pointer (some ⟨bH, 0, none⟩), .pointer (some ⟨bP, 0, none⟩)]) rfl trivial (enters_of Try.func95 (by kernel_rfl) rfl)
    (walk1_stops _ (by omega) (W1.heap.size + 1) bE bN bH bP h HW.out W2 hge2 hS2) KeepC.trans (fun W l o o' _ h hc _ => KeepC.put W l o o' h hc) (Below.refl _ _) (fun _ => rfl)
    (fun pre W => Boxed W W1.heap.size 33 (.int .u64 (IntKind.u64.wrap (sumB (toldL h pre)))) ∧ (Below w.heap.size w W ∧ W2.heap.size ≤ W.heap.size))
    (fun _ _ _ => False)
    (OwnFrom.and (Own.from (boxed_own _ _ _) _) (OwnFrom.and (ownFrom_below (Nat.le_refl _) (by omega)) (fun s A B row hs hg hr => Nat.le_trans hs hg.size)))
    (fun _ _ _ _ _ hs _ _ => hs)
    ⟨hbx0, B.out, Nat.le_refl _⟩
    (fun x a' W => ∃ b, a' = ({ tmps := #[.agg #[.int .i64 h.f0, .int .u64 h.f1, .int .u64 h.f2, .int .u64 h.f3, .int .u64 h.f4, .slice A5 h.f5.length c5, .slice A6 h.f6.length c6, .slice A7 h.f7.length c7, .slice A8 h.f8.length c8], .pointer (some ⟨w.heap.size, 0, none⟩), .int .u64 0, .int .i64 0, .int .i64 0, .pointer (some ⟨W1.heap.size, 0, none⟩), .pointer (some ⟨b, 0, none⟩), .agg #[.int .i64 h.f0, .int .u64 h.f1, .int .u64 h.f2, .int .u64 h.f3, .int .u64 h.f4, .slice A5 h.f5.length c5, .slice A6 h.f6.length c6, .slice A7 h.f7.length c7, .slice A8 h.f8.length c8], .int .i64 0, .int .i64 0, .bool false, undef, .agg #[.int .i64 h.f0, .int .u64 h.f1, .int .u64 h.f2, .int .u64 h.f3, .int .u64 h.f4, .slice A5 h.f5.length c5, .slice A6 h.f6.length c6, .slice A7 h.f7.length c7, .slice A8 h.f8.length c8], .func (.func 95) #[] #[.pointer (some ⟨bE, 0, none⟩), .pointer (some ⟨bN, 0, none⟩), .pointer (some ⟨bH, 0, none⟩), .pointer (some ⟨bP, 0, none⟩)], encB ((toldW h).get x), undef, undef, undef, undef, undef], defers := [] } : Act) ∧ BlkF W b (encB1 ((toldW h).get x)) ∧ W2.heap.size ≤ b) (fun x a' s A B row ⟨b, e, hb, hge⟩ hg hr => ⟨b, e, hb.grown hg hr, hge⟩) ?assign ?body ?done ?stop
  case assign =>
    intro l pre x W K hI hK
    have HI_ := Aside0.mk hI
    have HK := Aside0.mk hK
    clear hI hK
    obtain ⟨y, hy⟩ : ∃ y, y = (toldW h).get x := ⟨_, rfl⟩
    have HY := Aside0.mk hy
    simp only [← hy]
    clear hy
    unfold encB
    gi_wp2
    have hbl := below_alloc (Below.refl W.heap.size W) (.cells (encB1 y) 62)
    refine HK.out _ _ ((KeepsOthers.alloc W (.cells (encB1 y) 62)).from _) (KeepC.of_below hbl) ⟨HI_.out.1.alloc _, below_then HI_.out.2.1 HI_.out.2.1.size hbl, Nat.le_trans HI_.out.2.2 hbl.size⟩ ⟨W.heap.size, ?_, ?_, HI_.out.2.2⟩
    · rw [← HY.out]; rfl
    · rw [← HY.out]; exact Blk.new W _ _
  case body =>
    rintro l pre x a' W hl hlr ⟨hx1, hx2, hx3⟩ ⟨b, rfl, hb, hge⟩ hlt
    obtain ⟨y, hy⟩ : ∃ y, y = (toldW h).get x := ⟨_, rfl⟩
    have HT := Aside0.mk (toldL_snoc h pre x)
    rw [← hy] at hb HT
    simp only [← hy]
    clear hy
    unfold encB
    obtain ⟨s, hs⟩ : ∃ s, s = sumB (toldL h pre) := ⟨_, rfl⟩
    rw [← hs] at hx1
    have HS_ := Aside0.mk hs
    have hc := hx1.cell
    have hf := hx1.frozen
    have hbc := fun i => Blk.cell hb i
    have HX1 := Aside0.mk hx1
    have HX2 := Aside0.mk hx2
    have HX3 := Aside0.mk hx3
    have HBB := Aside0.mk hb
    clear hs hx1 hx2 hx3 hb hl hlr hlt
    unfold encB1 at hbc
    gi_wp2
    have hw1 : IntKind.u64.wrap (IntKind.u64.wrap s + y.n) = IntKind.u64.wrap (sumB (toldL h (pre ++ [x]))) := by
      rw [HT.out, sumB_snoc, ← HS_.out]
      show (s % 18446744073709551616 + y.n) % 18446744073709551616 = (s + y.n) % 18446744073709551616
      omega
    rw [hw1]
    refine ⟨KeepsFrom.of_grownBy (grownBy_setCell' _ _ _) (fun j e => by cases e; omega), KeepC.setCell _ (Nat.lt_succ_self _) _, HX1.out.set _, ?_, ?_⟩
    · exact HX2.out.setCell (by omega) _
    · have := HX3.out; simp [World.setCell]; exact this
  case done =>
    rintro D xs W hD hS ⟨hx1, hx2, hx3⟩ hK
    rw [toldL_all hS] at hx1
    have hc := hx1.cell
    have HX2 := Aside0.mk hx2
    have HK := Aside0.mk hK
    clear hx1 hx2 hx3 hK hS
    go_wp2
    refine ⟨by simp, .inl ⟨_, _, rfl, run_takeDeferred HK.out, ?_⟩⟩
    exact ⟨_, results_tmp2 rfl _ _ _, rfl, HX2.out.trans (belowK_b (w := W2) (by omega) W D _ _ hD HK.out rfl rfl)⟩
  case stop =>
    rintro D c pre W _ _ h _
    exact h.elim
end Go.Proofs.Ytcabapilejagkaa.P
