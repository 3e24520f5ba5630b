/- LabelsMatches: the part that this text bears of the proof that the statement answers true for every input. No condition. -/
import Derived.Test.YtbfiacnmielajaaProg
import Derived.Below
import Derived.Deep.Draws
import Derived.Deep.AppendLies
import Derived.Maps.AppendAt
import Derived.OwnWalk
import Derived.Laws.BytesArg
import Derived.Laws.MakeOwn
import Derived.Laws.OwnMore
import Derived.Deep.OwnRows
import Derived.Tactics
import Derived.Lib.ConvBytes
import Derived.Laws.Slices
import Derived.WalkKit
import Derived.KernelRfl
import Derived.RowKit3
import Derived.Deep.LoopGhost
import Derived.Deep.QuietTactic
import Derived.BigQuiet
import Derived.WideLaws
import Derived.Deep.DeepCutAuto
import Derived.Deep.CutBlock
import Derived.Deep.RegionHeld3
import Derived.Laws.Rows
import Derived.Lib.AppendStr
import Derived.ArgAppend
import Derived.Laws.IdiomCopy
import Derived.OrdersHeld
import Derived.Laws.BitsLemmas
import Derived.RowKit
import Derived.Laws.Strings
import Derived.Laws.Cover1
import Derived.Shelf.Lays
import Derived.Shelf.Strings.Builder1
import Derived.Shelf.Strings.OnBuilder
import Derived.DataReads
import Derived.RegionTactic
import Derived.ChangeKeysEq
import Derived.ChangeAlike
import Derived.BigRegion
import Derived.StillTailTactics
import Derived.Shelf.Strings.Search3
import Derived.Shelf.Small.Strs
import Derived.Deep.Slices
import Derived.ChangeArms
import Derived.ProofKit
import Derived.JoinedOf
import Derived.OpenShut
import Derived.ShutString
import Derived.ChangeOld
import Derived.SizedLaws
import Derived.Shelf.Vars
import Derived.Test.YtbfiacnmielajaaQLabelsMatchesWWords
import Derived.Test.YtbfiacnmielajaaQLabelsMatchesWLast
import Derived.Test.YtbfiacnmielajaaQLabelsMatchesWTab
import Derived.Test.YtbfiacnmielajaaQLabelsMatchesWFour
import Derived.Test.YtbfiacnmielajaaQLabelsMatchesWQPut
import Derived.Test.YtbfiacnmielajaaQLabelsMatchesWApart
import Derived.Test.YtbfiacnmielajaaQLabelsMatchesWArr
import Derived.Test.YtbfiacnmielajaaQLabelsMatchesWZeros
import Derived.Test.YtbfiacnmielajaaQLabelsMatchesWFoot
import Derived.Test.YtbfiacnmielajaaQLabelsMatchesWKept
import Derived.Test.YtbfiacnmielajaaQLabelsMatchesWShare
import Derived.Test.YtbfiacnmielajaaQLabelsMatchesWN
import Derived.Test.YtbfiacnmielajaaQLabelsMatchesWFootNe
import Derived.Test.YtbfiacnmielajaaQLabelsMatchesWAt
import Derived.Test.YtbfiacnmielajaaQLabelsMatchesWEqStruct
import Derived.Test.YtbfiacnmielajaaQLabelsMatchesWRepsOne
import Derived.Test.YtbfiacnmielajaaQLabelsMatchesWInv
import Derived.Test.YtbfiacnmielajaaQLabelsMatchesWInvWords
import Derived.Test.YtbfiacnmielajaaQLabelsMatchesWGuard
import Derived.Test.YtbfiacnmielajaaQLabelsMatchesWNEv
import Derived.Test.YtbfiacnmielajaaQLabelsMatchesWMore
import Derived.Test.YtbfiacnmielajaaRows
namespace Go.Proofs.Ytbfiacnmielajaa.P
open Go.RowKit Go.Proofs.YtbfiacnmielajaaW.PrintWords Go.Proofs.YtbfiacnmielajaaW.PrintLast Go.Proofs.YtbfiacnmielajaaW.PrintMore
attribute [local go_sem] max2_int min2_int max_two min_two max_three min_three max_four min_four
set_option linter.unusedVariables false
set_option linter.unusedSimpArgs false
def errW : Option Int → Value
 | none => .nilIface
 | some c => .iface 0 (.int .i64 c)
theorem errW_none : errW none = .nilIface := rfl
theorem errW_some (c : Int) : errW (some c) = .iface 0 (.int .i64 c) := rfl
theorem info5 : (Try.prog.info? 5).map (fun i => (i.zero, i.size, i.bytes)) = some (some (.int .u8 0), 1, 1) := by kernel_rfl
theorem info9 : (Try.prog.info? 9).map (fun i => (i.zero, i.size, i.bytes)) = some (some (.string ⟨#[]⟩), 1, 16) := by kernel_rfl
theorem info42 : (Try.prog.info? 42).map (fun i => (i.zero, i.size, i.bytes)) = some (some (.agg #[(.int .i64 0), (.string ⟨#[]⟩), (.string ⟨#[]⟩)]), 3, 40) := by kernel_rfl
theorem info58 : (Try.prog.info? 58).map (fun i => (i.zero, i.size, i.bytes)) = some (some (.agg #[(.string ⟨#[]⟩), (.string ⟨#[]⟩)]), 2, 32) := by kernel_rfl
theorem info59 : (Try.prog.info? 59).map (fun i => (i.zero, i.size, i.bytes)) = some (some (.agg #[(.int .i64 0), (.string ⟨#[]⟩), (.string ⟨#[]⟩)]), 3, 40) := by kernel_rfl
structure S58 where
 f0 : ByteArray
 f1 : ByteArray
def z58 : S58 := ⟨(⟨#[]⟩ : ByteArray), (⟨#[]⟩ : ByteArray)⟩
def k58 : Kd S58 := Kd.iso (Kd.pair Kd.string Kd.string) (fun x : S58 => (x.f0, x.f1))
theorem k58_open {w : World} {x : S58} {cs : List Value} (h : k58.K w x cs) : cs = [.string x.f0, .string x.f1] := by
 obtain ⟨_, _, rfl, rfl, rfl⟩ := h
 exact rfl
theorem k58_mk (w : World) (x : S58)  : k58.K w x [.string x.f0, .string x.f1] := ⟨[.string x.f0], [.string x.f1], rfl, rfl, rfl⟩
theorem k58_mkM (w : World) (base : Nat) (ok : Nat → Prop) (x : S58)  : k58.M w base ok x [.string x.f0, .string x.f1] := ⟨[.string x.f0], [.string x.f1], rfl, rfl, rfl⟩
def rd_T58 (xs : List S58) (i : Int) : S58 := xs.getD i.toNat z58
theorem at_T58 {w : World} {A : Option Addr} {n : Nat} {xs : List S58} (h : Kd.C k58 w A n xs) (i : Int) (h0 : 0 ≤ i) (h1 : i < n) : ∃ ad , A = some ad ∧ w.cell? (ad.add (i.toNat * 2)) = some (.string (rd_T58 xs i).f0) ∧ w.cell? ⟨(ad.add (i.toNat * 2)).block, (ad.add (i.toNat * 2)).off + 1, none⟩ = some (.string (rd_T58 xs i).f1) := by
 obtain ⟨ad, c, e, _, hK, hc0⟩ := Kd.C_get h z58 i h0 h1
 have hc : ∀ j u, c[j]? = some u → w.cell? (ad.add (i.toNat * 2 + j)) = some u := hc0
 obtain rfl := k58_open hK
 exact ⟨ad, e, hc 0 _ rfl, by rw [← add_field _ _ 1 (by omega)]; exact hc 1 _ rfl⟩
structure S59 where
 f0 : Int
 f1 : ByteArray
 f2 : ByteArray
def z59 : S59 := ⟨(0 : Int), (⟨#[]⟩ : ByteArray), (⟨#[]⟩ : ByteArray)⟩
def k59 : Kd S59 := Kd.iso (Kd.pair (Kd.int .i64) (Kd.pair Kd.string Kd.string)) (fun x : S59 => (x.f0, x.f1, x.f2))
theorem k59_open {w : World} {x : S59} {cs : List Value} (h : k59.K w x cs) : cs = [.int .i64 x.f0, .string x.f1, .string x.f2] := by
 obtain ⟨_, _, rfl, rfl, ⟨_, _, rfl, rfl, rfl⟩⟩ := h
 exact rfl
theorem k59_mkM (w : World) (base : Nat) (ok : Nat → Prop) (x : S59)  : k59.M w base ok x [.int .i64 x.f0, .string x.f1, .string x.f2] := ⟨[.int .i64 x.f0], [.string x.f1, .string x.f2], rfl, rfl, ⟨[.string x.f1], [.string x.f2], rfl, rfl, rfl⟩⟩
def rd_T59 (xs : List S59) (i : Int) : S59 := xs.getD i.toNat z59
theorem at_T59 {w : World} {A : Option Addr} {n : Nat} {xs : List S59} (h : Kd.C k59 w A n xs) (i : Int) (h0 : 0 ≤ i) (h1 : i < n) : ∃ ad , A = some ad ∧ w.cell? (ad.add (i.toNat * 3)) = some (.int .i64 (rd_T59 xs i).f0) ∧ w.cell? ⟨(ad.add (i.toNat * 3)).block, (ad.add (i.toNat * 3)).off + 1, none⟩ = some (.string (rd_T59 xs i).f1) ∧ w.cell? ⟨(ad.add (i.toNat * 3)).block, (ad.add (i.toNat * 3)).off + 2, none⟩ = some (.string (rd_T59 xs i).f2) := by
 obtain ⟨ad, c, e, _, hK, hc0⟩ := Kd.C_get h z59 i h0 h1
 have hc : ∀ j u, c[j]? = some u → w.cell? (ad.add (i.toNat * 3 + j)) = some u := hc0
 obtain rfl := k59_open hK
 exact ⟨ad, e, hc 0 _ rfl, by rw [← add_field _ _ 1 (by omega)]; exact hc 1 _ rfl, by rw [← add_field _ _ 2 (by omega)]; exact hc 2 _ rfl⟩
structure S42 where
 f0 : Int
 f1 : ByteArray
 f2 : ByteArray
def z42 : S42 := ⟨(0 : Int), (⟨#[]⟩ : ByteArray), (⟨#[]⟩ : ByteArray)⟩
def k42 : Kd S42 := Kd.iso (Kd.pair (Kd.int .i64) (Kd.pair Kd.string Kd.string)) (fun x : S42 => (x.f0, x.f1, x.f2))
theorem k42_open {w : World} {x : S42} {cs : List Value} (h : k42.K w x cs) : cs = [.int .i64 x.f0, .string x.f1, .string x.f2] := by
 obtain ⟨_, _, rfl, rfl, ⟨_, _, rfl, rfl, rfl⟩⟩ := h
 exact rfl
theorem k42_openM {w : World} {base : Nat} {ok : Nat → Prop} {x : S42} {cs : List Value} (h : k42.M w base ok x cs) : cs = [.int .i64 x.f0, .string x.f1, .string x.f2] := by
 obtain ⟨_, _, rfl, rfl, ⟨_, _, rfl, rfl, rfl⟩⟩ := h
 exact rfl
theorem k42_mk (w : World) (x : S42)  : k42.K w x [.int .i64 x.f0, .string x.f1, .string x.f2] := ⟨[.int .i64 x.f0], [.string x.f1, .string x.f2], rfl, rfl, ⟨[.string x.f1], [.string x.f2], rfl, rfl, rfl⟩⟩
theorem k42_mkM (w : World) (base : Nat) (ok : Nat → Prop) (x : S42)  : k42.M w base ok x [.int .i64 x.f0, .string x.f1, .string x.f2] := ⟨[.int .i64 x.f0], [.string x.f1, .string x.f2], rfl, rfl, ⟨[.string x.f1], [.string x.f2], rfl, rfl, rfl⟩⟩
def rd_T42 (xs : List S42) (i : Int) : S42 := xs.getD i.toNat z42
theorem at_T42 {w : World} {A : Option Addr} {n : Nat} {xs : List S42} (h : Kd.C k42 w A n xs) (i : Int) (h0 : 0 ≤ i) (h1 : i < n) : ∃ ad , A = some ad ∧ w.cell? (ad.add (i.toNat * 3)) = some (.int .i64 (rd_T42 xs i).f0) ∧ w.cell? ⟨(ad.add (i.toNat * 3)).block, (ad.add (i.toNat * 3)).off + 1, none⟩ = some (.string (rd_T42 xs i).f1) ∧ w.cell? ⟨(ad.add (i.toNat * 3)).block, (ad.add (i.toNat * 3)).off + 2, none⟩ = some (.string (rd_T42 xs i).f2) := by
 obtain ⟨ad, c, e, _, hK, hc0⟩ := Kd.C_get h z42 i h0 h1
 have hc : ∀ j u, c[j]? = some u → w.cell? (ad.add (i.toNat * 3 + j)) = some u := hc0
 obtain rfl := k42_open hK
 exact ⟨ad, e, hc 0 _ rfl, by rw [← add_field _ _ 1 (by omega)]; exact hc 1 _ rfl, by rw [← add_field _ _ 2 (by omega)]; exact hc 2 _ rfl⟩
end Go.Proofs.Ytbfiacnmielajaa.P
namespace Go.Proofs.Ytbfiacnmielajaa.P
open Go
theorem bytesLess_le : ∀ x y : List UInt8, (Op.bytesLess x y || x == y) = !(Op.bytesLess y x)
  | [], [] => by simp [Op.bytesLess]
  | [], b :: y => by simp [Op.bytesLess]
  | a :: x, [] => by simp [Op.bytesLess]
  | a :: x, b :: y => by
    have ih := bytesLess_le x y
    simp only [Op.bytesLess]
    rcases Nat.lt_trichotomy a.toNat b.toNat with h | h | h
    · have h1 : a < b := UInt8.lt_iff_toNat_lt.2 h
      have h2 : ¬ b < a := fun e => by have := UInt8.lt_iff_toNat_lt.1 e; omega
      have h3 : b ≠ a := fun e => by subst e; omega
      simp [h1, h2, h3]
    · have h0 : a = b := UInt8.toNat_inj.1 h
      subst h0
      have h1 : ¬ a < a := fun e => by have := UInt8.lt_iff_toNat_lt.1 e; omega
      simp only [h1, decide_false, Bool.false_or, beq_self_eq_true, Bool.true_and] at *
      rw [← ih]
      simp
    · have h1 : b < a := UInt8.lt_iff_toNat_lt.2 h
      have h2 : ¬ a < b := fun e => by have := UInt8.lt_iff_toNat_lt.1 e; omega
      have h3 : a ≠ b := fun e => by subst e; omega
      simp [h1, h2, h3]
theorem leq_str (t : TypeId) (a b : ByteArray) : binOp .leq t (.string a) (.string b) = pure (.bool !(Op.bytesLess b.toList a.toList)) := by
  rw [binOp_string_leq, bytesLess_le]
theorem gtr_str (t : TypeId) (a b : ByteArray) : binOp .gtr t (.string a) (.string b) = pure (.bool (Op.bytesLess b.toList a.toList)) := by
  rw [binOp_string_gtr, bytesLess_le, Bool.not_not]
end Go.Proofs.Ytbfiacnmielajaa.P
namespace Go.Proofs.Ytbfiacnmielajaa.P
open Go Go.Shelf Go.Proofs
def lay156_ren : Go.Shelf.Ren := ⟨fun | 156 => 43 | 165 => 53 | 166 => 54 | 169 => 55 | 240 => 61 | 241 => 62 | 276 => 65 | 277 => 66 | n => n, fun | 31 => 60 | 9 => 9 | 3 => 3 | 4 => 4 | 0 => 0 | 20 => 20 | 72 => 87 | 76 => 91 | 70 => 85 | 37 => 77 | 75 => 90 | 127 => 95 | 164 => 96 | 5 => 5 | 80 => 81 | n => n, fun | n => n⟩
theorem lay156 : Go.Proofs.Lays.n156 Try.prog lay156_ren := {
  mixed := by kernel_rfl,
  f156 := Try.func43.trans (congrArg some (by kernel_rfl)),
  f165 := Try.func53.trans (congrArg some (by kernel_rfl)),
  f166 := Try.func54.trans (congrArg some (by kernel_rfl)),
  f169 := Try.func55.trans (congrArg some (by kernel_rfl)),
  f240 := Try.func61.trans (congrArg some (by kernel_rfl)),
  f241 := Try.func62.trans (congrArg some (by kernel_rfl)),
  f276 := Try.func65.trans (congrArg some (by kernel_rfl)),
  f277 := Try.func66.trans (congrArg some (by kernel_rfl)),
  t0 := Try.underlying0,
  a0 := Try.isAgg0,
  z0 := Try.sizeOf0,
  v0 := Try.zeroValue0,
  t3 := Try.underlying3,
  a3 := Try.isAgg3,
  z3 := Try.sizeOf3,
  v3 := Try.zeroValue3,
  t4 := Try.underlying4,
  a4 := Try.isAgg4,
  z4 := Try.sizeOf4,
  v4 := Try.zeroValue4,
  t9 := Try.underlying9,
  a9 := Try.isAgg9,
  z9 := Try.sizeOf9,
  v9 := Try.zeroValue9,
  t20 := Try.underlying20,
  a20 := Try.isAgg20,
  z20 := Try.sizeOf20,
  v20 := Try.zeroValue20,
  t31 := Try.underlying60,
  a31 := Try.isAgg60,
  z31 := Try.sizeOf60,
  v31 := Try.zeroValue60,
  t37 := Try.underlying77,
  a37 := Try.isAgg77,
  z37 := Try.sizeOf77,
  v37 := Try.zeroValue77,
  t70 := Try.underlying85,
  a70 := Try.isAgg85,
  z70 := Try.sizeOf85,
  v70 := Try.zeroValue85,
  t72 := Try.underlying87,
  a72 := Try.isAgg87,
  z72 := Try.sizeOf87,
  v72 := Try.zeroValue87,
  t75 := Try.underlying90,
  a75 := Try.isAgg90,
  z75 := Try.sizeOf90,
  v75 := Try.zeroValue90,
  t76 := Try.underlying91,
  a76 := Try.isAgg91,
  z76 := Try.sizeOf91,
  v76 := Try.zeroValue91,
  t127 := Try.underlying95,
  a127 := Try.isAgg95,
  z127 := Try.sizeOf95,
  v127 := Try.zeroValue95,
  t164 := Try.underlying96,
  a164 := Try.isAgg96,
  z164 := Try.sizeOf96,
  v164 := Try.zeroValue96 }
def lay106_ren : Go.Shelf.Ren := ⟨fun | 106 => 41 | 213 => 52 | 265 => 60 | n => n, fun | 9 => 9 | 3 => 3 | n => n, fun | n => n⟩
theorem lay106 : Go.Proofs.Lays.n106 Try.prog lay106_ren := {
  mixed := by kernel_rfl,
  f106 := Try.func41.trans (congrArg some (by kernel_rfl)),
  f213 := Try.func52.trans (congrArg some (by kernel_rfl)),
  f265 := Try.func60.trans (congrArg some (by kernel_rfl)),
  t3 := Try.underlying3,
  a3 := Try.isAgg3,
  z3 := Try.sizeOf3,
  v3 := Try.zeroValue3,
  t9 := Try.underlying9,
  a9 := Try.isAgg9,
  z9 := Try.sizeOf9,
  v9 := Try.zeroValue9 }
def lay144_ren : Go.Shelf.Ren := ⟨fun | 144 => 51 | 143 => 59 | 219 => 64 | 217 => 67 | 225 => 68 | 224 => 69 | 267 => 70 | 266 => 71 | 314 => 72 | n => n, fun | 9 => 9 | 4 => 4 | 3 => 3 | 5 => 5 | 46 => 101 | 146 => 103 | 51 => 102 | n => n, fun | 1 => 0 | n => n⟩
theorem lay144 : Go.Proofs.Lays.n144 Try.prog lay144_ren := {
  mixed := by kernel_rfl,
  f143 := Try.func59.trans (congrArg some (by kernel_rfl)),
  f144 := Try.func51.trans (congrArg some (by kernel_rfl)),
  f217 := Try.func67.trans (congrArg some (by kernel_rfl)),
  f219 := Try.func64.trans (congrArg some (by kernel_rfl)),
  f224 := Try.func69.trans (congrArg some (by kernel_rfl)),
  f225 := Try.func68.trans (congrArg some (by kernel_rfl)),
  f266 := Try.func71.trans (congrArg some (by kernel_rfl)),
  f267 := Try.func70.trans (congrArg some (by kernel_rfl)),
  f314 := Try.func72.trans (congrArg some (by kernel_rfl)),
  t3 := Try.underlying3,
  a3 := Try.isAgg3,
  z3 := Try.sizeOf3,
  v3 := Try.zeroValue3,
  t4 := Try.underlying4,
  a4 := Try.isAgg4,
  z4 := Try.sizeOf4,
  v4 := Try.zeroValue4,
  t5 := Try.underlying5,
  a5 := Try.isAgg5,
  z5 := Try.sizeOf5,
  v5 := Try.zeroValue5,
  t9 := Try.underlying9,
  a9 := Try.isAgg9,
  z9 := Try.sizeOf9,
  v9 := Try.zeroValue9,
  t46 := Try.underlying101,
  a46 := Try.isAgg101,
  z46 := Try.sizeOf101,
  v46 := Try.zeroValue101,
  t51 := Try.underlying102,
  a51 := Try.isAgg102,
  z51 := Try.sizeOf102,
  v51 := Try.zeroValue102,
  t146 := Try.underlying103,
  a146 := Try.isAgg103,
  z146 := Try.sizeOf103,
  v146 := Try.zeroValue103,
  g1 := by kernel_rfl }
theorem lay156X : Builder.Extra Try.prog lay156_ren := { sizeBuilder := by kernel_rfl, liesBuilder := by kernel_rfl, t5 := by kernel_rfl, a5 := Try.isAgg5, z5 := Try.sizeOf5, v5 := Try.zeroValue5, infoByte := by kernel_rfl, cellsByte := by kernel_rfl, sizeByte := by kernel_rfl, neB5 := by decide }
end Go.Proofs.Ytbfiacnmielajaa.P
namespace Go.Proofs.Ytbfiacnmielajaa.P
open Go.RowKit Go.Proofs.YtbfiacnmielajaaW.PrintWords Go.Proofs.YtbfiacnmielajaaW.PrintLast Go.Proofs.YtbfiacnmielajaaW.PrintMore
attribute [local go_sem] max2_int min2_int max_two min_two max_three min_three max_four min_four
set_option linter.unusedVariables false
set_option linter.unusedSimpArgs false
def joinB (l : List ByteArray) : ByteArray := ⟨(Lib.join (l.map (·.data.toList)) [44]).toArray⟩
def bracedR (l : List ByteArray) : ByteArray := (⟨#[123]⟩ : ByteArray) ++ joinB l ++ (⟨#[125]⟩ : ByteArray)
theorem join_c (A0 : Option Addr) (c0 : Nat) (l0 : List ByteArray) (w : World) (hr0 : Kd.C Kd.string w A0 l0.length l0) (hc0 : l0.length ≤ c0) (hn : l0.length ≤ 1000) (hz : (joinB l0).size ≤ 1000000) :
    Calls Try.prog 43 #[.slice A0 l0.length c0, .string ⟨#[44]⟩] w fun e w' => e = .returned (.string (joinB l0)) ∧ Below w.heap.size w w' := by
  by_cases h0 : l0.length = 0
  · obtain rfl : l0 = [] := List.length_eq_zero_iff.1 h0
    refine (Any.strings_Join_none lay156 lay156X A0 c0 ⟨#[44]⟩ w).mono ?_
    rintro e w' ⟨rfl, hw⟩
    subst hw
    exact ⟨rfl, Below.refl _ _⟩
  · obtain ⟨ad, rfl, hx⟩ := Kd.at_string hr0 0 (by omega) (by omega)
    have hsp := World.cell?_spot hx
    have hx0 : w.cell? ad = some (.string (rdOf ByteArray.empty l0 0)) := hx
    have hsp0 := World.cell?_spot hx0
    obtain ⟨b, o, sp⟩ := ad
    dsimp only at hsp0
    subst hsp0
    refine (Any.strings_Join lay156 lay156X b o c0 l0 ⟨#[44]⟩ w ?_ (World.block_lt_of_cell? w _ hx0) (by omega) hc0 ?_).mono ?_
    · intro j x hj
      have hlt : j < l0.length := (List.getElem?_eq_some_iff.1 hj).1
      obtain ⟨ad, e, h⟩ := Kd.at_string hr0 (j : Int) (by omega) (by omega)
      cases e
      have hv : rdOf ByteArray.empty l0 (j : Int) = x := by
        unfold rdOf; simp [List.getD, hj]
      rw [hv, Int.toNat_natCast] at h
      rw [← h]
      by_cases hz : j = 0
      · subst hz; rfl
      · unfold Addr.add; rw [if_neg hz]
    · have h1 : (Lib.join (List.map (fun x => x.data.toList) l0) [44]).length ≤ 1000000 := by
        have := hz; unfold joinB at this
        simpa [ByteArray.size] using this
      show (Lib.join (List.map (fun x => x.data.toList) l0) [44]).length ≤ _
      omega
    · rintro e w' ⟨rfl, hb⟩
      exact ⟨rfl, hb⟩
def labels_braced.f (l0 : List ByteArray) : Option ByteArray := if l0.length ≤ 1000 ∧ (joinB l0).size ≤ 1000000 then some (bracedR l0) else none
set_option maxHeartbeats 4000000 in
set_option maxRecDepth 100000 in
theorem labels_braced.calls (A0 : Option Addr) (c0 : Nat) (l0 : List ByteArray) (r : ByteArray) (w : World) (hr0 : Kd.C Kd.string w A0 l0.length l0) (hc0 : l0.length ≤ c0) (h : labels_braced.f l0 = some r) :
    Calls Try.prog 30 #[.slice A0 l0.length c0] w fun e w' => e = .returned (.string r) ∧ Below w.heap.size w w' := by
  unfold labels_braced.f at h
  by_cases hs : l0.length ≤ 1000 ∧ (joinB l0).size ≤ 1000000
  rotate_left
  · rw [if_neg hs] at h; cases h
  rw [if_pos hs] at h
  injection h with h
  unfold bracedR at h
  have HJ := Aside0.mk (join_c A0 c0 l0 w hr0 hc0 hs.1 hs.2)
  have e1 : 1 + (joinB l0).size ≤ 9223372036854775807 := by omega
  have e2 : 1 + (joinB l0).size + 1 ≤ 9223372036854775807 := by omega
  have e3 : ((⟨#[123]⟩ : ByteArray) ++ joinB l0).size + 1 ≤ 9223372036854775807 := by rw [ByteArray.size_append]; exact e2
  clear hs hr0
  generalize joinB l0 = j at *
  have HH := Aside0.mk h
  clear h
  go_enter Try.func30, Try.ntmps30
  go_wp2_with (go_at_call 43; refine HJ.out.mono ?_; rintro e w1 ⟨rfl, hb⟩; have HB := Aside0.mk hb; clear hb)
  go_ret
  exact ⟨by rw [HH.out]; rfl, HB.out⟩
end Go.Proofs.Ytbfiacnmielajaa.P
namespace Go.Proofs.Ytbfiacnmielajaa.P
open Go.RowKit Go.Proofs.YtbfiacnmielajaaW.PrintWords Go.Proofs.YtbfiacnmielajaaW.PrintLast Go.Proofs.YtbfiacnmielajaaW.PrintMore
attribute [local go_sem] max2_int min2_int max_two min_two max_three min_three max_four min_four
set_option linter.unusedVariables false
set_option linter.unusedSimpArgs false
def stringslite_HasPrefix.f (a0 : ByteArray) (a1 : ByteArray) : Option (Bool) := if (a0.size : Int) ≥ (a1.size : Int) then (if 0 ≤ (a1.size : Int) then (if (a1.size : Int) ≤ (a0.size : Int) then (some ((a0.extract 0 ((a1.size : Int) : Int).toNat).toList == a1.toList)) else (none)) else (none)) else (some false)
set_option maxHeartbeats 8000000 in
set_option maxRecDepth 100000 in
theorem stringslite_HasPrefix.calls (a0 : ByteArray) (a1 : ByteArray) (r : Bool) (w : World) (h : stringslite_HasPrefix.f a0 a1 = some r) :
  Calls Try.prog 58 #[.string a0, .string a1] w fun e w' => e = .returned (.bool r) ∧ Drawn0 w w' := by
 have H : (if (a0.size : Int) ≥ (a1.size : Int) then (if 0 ≤ (a1.size : Int) then (if (a1.size : Int) ≤ (a0.size : Int) then (some ((a0.extract 0 ((a1.size : Int) : Int).toNat).toList == a1.toList)) else (none)) else (none)) else (some false)) = some r := h
 clear h
 by_cases c3 : (a0.size : Int) ≥ (a1.size : Int)
 ·rw [if_pos c3] at H
  have c3b0 : decide ((a1.size : Int) ≤ (a0.size : Int)) = true := decide_eq_true c3
  have c3b1 : decide (a1.size ≤ a0.size) = true := decide_eq_true (Int.ofNat_le.mp c3)
  clear c3
  by_cases c4 : 0 ≤ (a1.size : Int)
  ·rw [if_pos c4] at H
   have c4b0 := eq_true c4
   have c4b1 : decide (0 ≤ (a1.size : Int)) = true := decide_eq_true c4
   clear c4
   by_cases c5 : (a1.size : Int) ≤ (a0.size : Int)
   ·rw [if_pos c5] at H
    have c5b0 := eq_true c5
    have c5b1 : decide ((a1.size : Int) ≤ (a0.size : Int)) = true := decide_eq_true c5
    clear c5
    obtain rfl := Option.some.inj H
    go_enter Try.func58, Try.ntmps58
    go_wp2
    go_ret
    exact ⟨by first | rfl | (simp; done) | (simp [*]; done), by repeat (first | exact Drawn0.refl _ | apply Drawn0.step)⟩
   ·rw [if_neg c5] at H
    exact absurd H (by simp)
  ·rw [if_neg c4] at H
   exact absurd H (by simp)
 ·rw [if_neg c3] at H
  have c3b0 : decide ((a1.size : Int) ≤ (a0.size : Int)) = false := decide_eq_false c3
  have c3b1 : decide (a1.size ≤ a0.size) = false := decide_eq_false (fun h => c3 (Int.ofNat_le.mpr h))
  clear c3
  obtain rfl := Option.some.inj H
  go_enter Try.func58, Try.ntmps58
  go_wp2
  go_ret
  exact ⟨by first | rfl | (simp; done) | (simp [*]; done), by repeat (first | exact Drawn0.refl _ | apply Drawn0.step)⟩
def stringslite_CutPrefix.f (a0 : ByteArray) (a1 : ByteArray) : Option (ByteArray × Bool) := (stringslite_HasPrefix.f a0 a1).bind fun t101 => (if t101 = true then (if 0 ≤ (a1.size : Int) then (if (a1.size : Int) ≤ (a0.size : Int) then (some (a0.extract ((a1.size : Int) : Int).toNat a0.size, true)) else (none)) else (none)) else (some (a0, false)))
set_option maxHeartbeats 8000000 in
set_option maxRecDepth 100000 in
theorem stringslite_CutPrefix.calls (a0 : ByteArray) (a1 : ByteArray) (r1 : ByteArray) (r2 : Bool) (w : World) (h : stringslite_CutPrefix.f a0 a1 = some (r1, r2)) :
  Calls Try.prog 63 #[.string a0, .string a1] w fun e w' => e = .returned (.tuple #[.string r1, .bool r2]) ∧ Drawn0 w w' := by
 have H : ((stringslite_HasPrefix.f a0 a1).bind fun t101 => (if t101 = true then (if 0 ≤ (a1.size : Int) then (if (a1.size : Int) ≤ (a0.size : Int) then (some (a0.extract ((a1.size : Int) : Int).toNat a0.size, true)) else (none)) else (none)) else (some (a0, false)))) = some (r1, r2) := h
 clear h
 replace H := Option.bind_eq_some_iff.mp H
 obtain ⟨t101, A30, H⟩ := H
 replace H : (if t101 = true then (if 0 ≤ (a1.size : Int) then (if (a1.size : Int) ≤ (a0.size : Int) then (some (a0.extract ((a1.size : Int) : Int).toNat a0.size, true)) else (none)) else (none)) else (some (a0, false))) = some (r1, r2) := H
 have A3 := Aside0.mk A30
 clear A30
 by_cases c4 : t101 = true
 ·subst c4
  have H1 : (if 0 ≤ (a1.size : Int) then (if (a1.size : Int) ≤ (a0.size : Int) then (some (a0.extract ((a1.size : Int) : Int).toNat a0.size, true)) else (none)) else (none)) = some (r1, r2) := by rw [if_pos rfl] at H; exact H
  clear H
  have H := H1
  clear H1
  by_cases c5 : 0 ≤ (a1.size : Int)
  ·rw [if_pos c5] at H
   have c5b0 := eq_true c5
   have c5b1 : decide (0 ≤ (a1.size : Int)) = true := decide_eq_true c5
   clear c5
   by_cases c6 : (a1.size : Int) ≤ (a0.size : Int)
   ·rw [if_pos c6] at H
    have c6b0 := eq_true c6
    have c6b1 : decide ((a1.size : Int) ≤ (a0.size : Int)) = true := decide_eq_true c6
    clear c6
    simp only [Option.some.injEq, Prod.mk.injEq] at H
    obtain ⟨rfl, rfl⟩ := H
    go_enter Try.func63, Try.ntmps63
    go_wp2_with (first | ((with_reducible refine gate_callee (f := 58) rfl ?_); refine goesL_ (some 8) rfl rfl Try.func58 (by kernel_rfl) rfl #[.string a0, .string a1] rfl (by (try simp only [List.map_toArray, List.map_cons, List.map_nil]); first | done | rfl | (simp only [List.length_drop, List.length_take]; rfl)) ?_; (with_reducible refine (stringslite_HasPrefix.calls a0 a1 true _ A3.out).mono ?_); rintro e w' ⟨rfl, ⟨nd, rfl⟩⟩; refine ⟨_, rfl, ?_⟩; clear A3))
    go_ret2
    exact ⟨by first | rfl | (simp; done) | (simp [*]; done), by repeat (first | exact Drawn0.refl _ | apply Drawn0.step)⟩
   ·rw [if_neg c6] at H
    exact absurd H (by simp)
  ·rw [if_neg c5] at H
   exact absurd H (by simp)
 ·replace c4 := Bool.eq_false_iff.mpr c4
  subst c4
  have H1 : (some (a0, false)) = some (r1, r2) := by rw [if_neg (show ¬ (false = true) by decide)] at H; exact H
  clear H
  have H := H1
  clear H1
  simp only [Option.some.injEq, Prod.mk.injEq] at H
  obtain ⟨rfl, rfl⟩ := H
  go_enter Try.func63, Try.ntmps63
  go_wp2_with (first | ((with_reducible refine gate_callee (f := 58) rfl ?_); refine goesL_ (some 8) rfl rfl Try.func58 (by kernel_rfl) rfl #[.string a0, .string a1] rfl (by (try simp only [List.map_toArray, List.map_cons, List.map_nil]); first | done | rfl | (simp only [List.length_drop, List.length_take]; rfl)) ?_; (with_reducible refine (stringslite_HasPrefix.calls a0 a1 false _ A3.out).mono ?_); rintro e w' ⟨rfl, ⟨nd, rfl⟩⟩; refine ⟨_, rfl, ?_⟩; clear A3))
  go_ret2
  exact ⟨by first | rfl | (simp; done) | (simp [*]; done), by repeat (first | exact Drawn0.refl _ | apply Drawn0.step)⟩
def strings_CutPrefix.f (a0 : ByteArray) (a1 : ByteArray) : Option (ByteArray × Bool) := (stringslite_CutPrefix.f a0 a1).bind fun bt101 => (some (bt101.1, bt101.2))
set_option maxHeartbeats 8000000 in
set_option maxRecDepth 100000 in
theorem strings_CutPrefix.calls (a0 : ByteArray) (a1 : ByteArray) (r1 : ByteArray) (r2 : Bool) (w : World) (h : strings_CutPrefix.f a0 a1 = some (r1, r2)) :
  Calls Try.prog 57 #[.string a0, .string a1] w fun e w' => e = .returned (.tuple #[.string r1, .bool r2]) ∧ Drawn0 w w' := by
 have H : ((stringslite_CutPrefix.f a0 a1).bind fun bt101 => (some (bt101.1, bt101.2))) = some (r1, r2) := h
 clear h
 replace H := Option.bind_eq_some_iff.mp H
 obtain ⟨⟨t101, t102⟩, A30, H⟩ := H
 replace H : (some (t101, t102)) = some (r1, r2) := H
 have A3 := Aside0.mk A30
 clear A30
 simp only [Option.some.injEq, Prod.mk.injEq] at H
 obtain ⟨rfl, rfl⟩ := H
 go_enter Try.func57, Try.ntmps57
 go_wp2_with (first | ((with_reducible refine gate_callee (f := 63) rfl ?_); refine goesL_ (some 8) rfl rfl Try.func63 (by kernel_rfl) rfl #[.string a0, .string a1] rfl (by (try simp only [List.map_toArray, List.map_cons, List.map_nil]); first | done | rfl | (simp only [List.length_drop, List.length_take]; rfl)) ?_; (with_reducible refine (stringslite_CutPrefix.calls a0 a1 t101 t102 _ A3.out).mono ?_); rintro e w' ⟨rfl, ⟨nd, rfl⟩⟩; refine ⟨_, rfl, ?_⟩; clear A3))
 go_ret2
 exact ⟨by first | rfl | (simp; done) | (simp [*]; done), by repeat (first | exact Drawn0.refl _ | apply Drawn0.step)⟩
def strings_HasPrefix.f (a0 : ByteArray) (a1 : ByteArray) : Option (Bool) := (stringslite_HasPrefix.f a0 a1).bind fun t101 => (some t101)
set_option maxHeartbeats 8000000 in
set_option maxRecDepth 100000 in
theorem strings_HasPrefix.calls (a0 : ByteArray) (a1 : ByteArray) (r : Bool) (w : World) (h : strings_HasPrefix.f a0 a1 = some r) :
  Calls Try.prog 46 #[.string a0, .string a1] w fun e w' => e = .returned (.bool r) ∧ Drawn0 w w' := by
 have H : ((stringslite_HasPrefix.f a0 a1).bind fun t101 => (some t101)) = some r := h
 clear h
 replace H := Option.bind_eq_some_iff.mp H
 obtain ⟨t101, A30, H⟩ := H
 replace H : (some t101) = some r := H
 have A3 := Aside0.mk A30
 clear A30
 obtain rfl := Option.some.inj H
 go_enter Try.func46, Try.ntmps46
 go_wp2_with (first | ((with_reducible refine gate_callee (f := 58) rfl ?_); refine goesL_ (some 7) rfl rfl Try.func58 (by kernel_rfl) rfl #[.string a0, .string a1] rfl (by (try simp only [List.map_toArray, List.map_cons, List.map_nil]); first | done | rfl | (simp only [List.length_drop, List.length_take]; rfl)) ?_; (with_reducible refine (stringslite_HasPrefix.calls a0 a1 t101 _ A3.out).mono ?_); rintro e w' ⟨rfl, ⟨nd, rfl⟩⟩; refine ⟨_, rfl, ?_⟩; clear A3))
 go_ret
 exact ⟨by first | rfl | (simp; done) | (simp [*]; done), by repeat (first | exact Drawn0.refl _ | apply Drawn0.step)⟩
end Go.Proofs.Ytbfiacnmielajaa.P
namespace Go.Proofs.Ytbfiacnmielajaa.P
open Go.RowKit Go.Proofs.YtbfiacnmielajaaW.PrintWords Go.Proofs.YtbfiacnmielajaaW.PrintLast Go.Proofs.YtbfiacnmielajaaW.PrintMore
attribute [local go_sem] max2_int min2_int max_two min_two max_three min_three max_four min_four
set_option linter.unusedVariables false
set_option linter.unusedSimpArgs false
attribute [local go_sem high] leq_str gtr_str
mutual
def labels_letter.j0 : Nat → Int → Bool → Bool → Option (Bool)
 | 0, _, _, _ => none
 | k + 1, x0, x1, x5 => if x5 = true then (some (!x1)) else (if x0 ≥ 97 then (labels_letter.j1 k x0 (decide (x0 ≤ 122))) else (labels_letter.j1 k x0 false))
def labels_letter.j1 : Nat → Int → Bool → Option (Bool)
 | 0, _, _ => none
 | k + 1, x0, x14 => if x14 = true then (some true) else (if x0 ≥ 65 then (if x0 ≤ 90 then (some true) else (some (x0 == 95))) else (some (x0 == 95)))
end
def labels_letter.f (k : Nat) (a0 : Int) (a1 : Bool) : Option (Bool) := if a0 ≥ 48 then (labels_letter.j0 k a0 a1 (decide (a0 ≤ 57))) else (labels_letter.j0 k a0 a1 false)
set_option maxHeartbeats 8000000 in
set_option maxRecDepth 100000 in
theorem labels_letter.calls (k : Nat) (a0 : Int) (a1 : Bool) (r : Bool) (w : World) (h : labels_letter.f k a0 a1 = some r) :
  Calls Try.prog 56 #[.int .u8 a0, .bool a1] w fun e w' => e = .returned (.bool r) ∧ Drawn0 w w' := by
 have H : (if a0 ≥ 48 then (labels_letter.j0 k a0 a1 (decide (a0 ≤ 57))) else (labels_letter.j0 k a0 a1 false)) = some r := h
 clear h
 have HC3 := Aside0.mk H
 clear H
 go_enter Try.func56, Try.ntmps56
 go_upto_region 1 with (fail)
 go_cut [5] (fun v5 wc => ∃ (kq : Nat) (x5_2 : Bool), v5 = .bool x5_2 ∧ Aside0 (labels_letter.j0 kq a0 a1 x5_2 = some r) ∧ Aside0 (kq ≤ k) ∧ Drawn0 w wc)
 case first =>
  have H := HC3.out
  clear HC3
  by_cases c4 : a0 ≥ 48
  ·rw [if_pos c4] at H
   have c4b0 : decide (48 ≤ a0) = true := decide_eq_true c4
   clear c4
   (first | rw [c4b0] | (simp only [i64_w, i32_w]; rw [c4b0]) | skip)
   have H' := Aside0.mk H
   clear H
   go_wp2
   go_meet
   case rel => exact ⟨_, (decide (a0 ≤ 57)), (by first | rfl | (simp; done) | (simp [*]; done)), H', ⟨by first | omega | exact Nat.le_refl _⟩, by repeat (first | exact Drawn0.refl _ | apply Drawn0.step)⟩
  ·rw [if_neg c4] at H
   have c4b0 : decide (48 ≤ a0) = false := decide_eq_false c4
   clear c4
   (first | rw [c4b0] | (simp only [i64_w, i32_w]; rw [c4b0]) | skip)
   have H' := Aside0.mk H
   clear H
   go_wp2
   go_meet
   case rel => exact ⟨_, (false), (by first | rfl | (simp; done) | (simp [*]; done)), H', ⟨by first | omega | exact Nat.le_refl _⟩, by repeat (first | exact Drawn0.refl _ | apply Drawn0.step)⟩
 case rest =>
  clear HC3
  try clear p2
  try clear c4
  try clear c4b0
  obtain ⟨kq, x5_2, rfl, HA, HJ2, ⟨mc2, rfl⟩⟩ := hcut
  cases kq with
  | zero => exact absurd HA.out (by simp [labels_letter.j0])
  | succ kj2 =>
   have H := HA.out
   clear HA
   simp only [labels_letter.j0] at H
   by_cases c5 : x5_2 = true
   ·subst c5
    have H1 : (some (!a1)) = some r := by rw [if_pos rfl] at H; exact H
    clear H
    have H := H1
    clear H1
    obtain rfl := Option.some.inj H
    go_wp2
    go_ret
    exact ⟨by first | rfl | (simp; done) | (simp [*]; done), by repeat (first | exact Drawn0.refl _ | apply Drawn0.step)⟩
   ·replace c5 := Bool.eq_false_iff.mpr c5
    subst c5
    have H1 : (if a0 ≥ 97 then (labels_letter.j1 kj2 a0 (decide (a0 ≤ 122))) else (labels_letter.j1 kj2 a0 false)) = some r := by rw [if_neg (show ¬ (false = true) by decide)] at H; exact H
    clear H
    have H := H1
    clear H1
    have HC6 := Aside0.mk H
    clear H
    go_upto_region 3 with (fail)
    go_cut [14] (fun v14 wc => ∃ (kq : Nat) (x14_5 : Bool), v14 = .bool x14_5 ∧ Aside0 (labels_letter.j1 kq a0 x14_5 = some r) ∧ Aside0 (kq ≤ kj2) ∧ Drawn0 w wc)
    case first =>
     have H := HC6.out
     clear HC6
     by_cases c7 : a0 ≥ 97
     ·rw [if_pos c7] at H
      have c7b0 : decide (97 ≤ a0) = true := decide_eq_true c7
      clear c7
      (first | rw [c7b0] | (simp only [i64_w, i32_w]; rw [c7b0]) | skip)
      have H' := Aside0.mk H
      clear H
      go_wp2
      go_meet
      case rel => exact ⟨_, (decide (a0 ≤ 122)), (by first | rfl | (simp; done) | (simp [*]; done)), H', ⟨by have := HJ2.out; first | omega | exact Nat.le_refl _⟩, by repeat (first | exact Drawn0.refl _ | apply Drawn0.step)⟩
     ·rw [if_neg c7] at H
      have c7b0 : decide (97 ≤ a0) = false := decide_eq_false c7
      clear c7
      (first | rw [c7b0] | (simp only [i64_w, i32_w]; rw [c7b0]) | skip)
      have H' := Aside0.mk H
      clear H
      go_wp2
      go_meet
      case rel => exact ⟨_, (false), (by first | rfl | (simp; done) | (simp [*]; done)), H', ⟨by have := HJ2.out; first | omega | exact Nat.le_refl _⟩, by repeat (first | exact Drawn0.refl _ | apply Drawn0.step)⟩
    case rest =>
     clear HC6
     try clear c2
     try clear p2
     try clear c4
     try clear c4b0
     try clear c5
     try clear c7
     try clear c7b0
     try clear p2
     obtain ⟨kq, x14_5, rfl, HA, HJ5, ⟨mc5, rfl⟩⟩ := hcut
     cases kq with
     | zero => exact absurd HA.out (by simp [labels_letter.j1])
     | succ kj5 =>
      have H := HA.out
      clear HA
      simp only [labels_letter.j1] at H
      by_cases c8 : x14_5 = true
      ·subst c8
       have H1 : (some true) = some r := by rw [if_pos rfl] at H; exact H
       clear H
       have H := H1
       clear H1
       obtain rfl := Option.some.inj H
       go_wp2
       go_ret
       exact ⟨by first | rfl | (simp; done) | (simp [*]; done), by repeat (first | exact Drawn0.refl _ | apply Drawn0.step)⟩
      ·replace c8 := Bool.eq_false_iff.mpr c8
       subst c8
       have H1 : (if a0 ≥ 65 then (if a0 ≤ 90 then (some true) else (some (a0 == 95))) else (some (a0 == 95))) = some r := by rw [if_neg (show ¬ (false = true) by decide)] at H; exact H
       clear H
       have H := H1
       clear H1
       by_cases c9 : a0 ≥ 65
       ·rw [if_pos c9] at H
        have c9b0 : decide (65 ≤ a0) = true := decide_eq_true c9
        clear c9
        by_cases c10 : a0 ≤ 90
        ·rw [if_pos c10] at H
         have c10b0 : decide (a0 ≤ 90) = true := decide_eq_true c10
         clear c10
         obtain rfl := Option.some.inj H
         go_wp2
         go_ret
         exact ⟨by first | rfl | (simp; done) | (simp [*]; done), by repeat (first | exact Drawn0.refl _ | apply Drawn0.step)⟩
        ·rw [if_neg c10] at H
         have c10b0 : decide (a0 ≤ 90) = false := decide_eq_false c10
         clear c10
         obtain rfl := Option.some.inj H
         go_wp2
         go_ret
         exact ⟨by first | rfl | (simp; done) | (simp [*]; done), by repeat (first | exact Drawn0.refl _ | apply Drawn0.step)⟩
       ·rw [if_neg c9] at H
        have c9b0 : decide (65 ≤ a0) = false := decide_eq_false c9
        clear c9
        obtain rfl := Option.some.inj H
        go_wp2
        go_ret
        exact ⟨by first | rfl | (simp; done) | (simp [*]; done), by repeat (first | exact Drawn0.refl _ | apply Drawn0.step)⟩
def labels_named.l0 : Nat → ByteArray → Int → Int → Option (Bool)
 | 0, _, _, _ => none
 | k + 1, x0, x5, x6 => if x6 < x5 then (if 0 ≤ x6 then (if x6 < (x0.size : Int) then ((labels_letter.f k (bt x0 x6) (x6 == 0)).bind fun t101 => (if t101 = true then (labels_named.l0 k x0 x5 (wrap64 (x6 + 1))) else (some false))) else (none)) else (none)) else (if (x0.size : Int) ≥ 1 then (some (decide ((x0.size : Int) ≤ 40))) else (some false))
def labels_named.f (k : Nat) (a0 : ByteArray) : Option (Bool) := labels_named.l0 k a0 (a0.size : Int) 0
set_option maxHeartbeats 8000000 in
set_option maxRecDepth 100000 in
theorem labels_named.calls (k : Nat) (a0 : ByteArray) (r : Bool) (w : World) (h : labels_named.f k a0 = some r) :
  Calls Try.prog 44 #[.string a0] w fun e w' => e = .returned (.bool r) ∧ Drawn0 w w' := by
 have H : (labels_named.l0 k a0 (a0.size : Int) 0) = some r := h
 clear h
 have H' := Aside0.mk H
 clear H
 go_enter Try.func44, Try.ntmps44
 go_wp2
 go_loopg [6] k (fun kq v6 w' => ∃ (x6_1 : Int), v6 = .int .i64 x6_1 ∧ Aside0 (labels_named.l0 kq a0 (a0.size : Int) x6_1 = some r) ∧ Aside0 (kq ≤ k) ∧ Drawn0 w w')
 case atStart => exact ⟨(0), (by first | rfl | (simp; done) | (simp [*]; done)), H', ⟨Nat.le_refl _⟩, by repeat (first | exact Drawn0.refl _ | apply Drawn0.step)⟩
 case round =>
  clear H'
  obtain ⟨x6_1, rfl, HA, HK1, ⟨m1, rfl⟩⟩ := hrel
  cases gk with
  | zero => exact absurd HA.out (by simp [labels_named.l0])
  | succ k1 =>
   have H := HA.out
   clear HA
   simp only [labels_named.l0] at H
   by_cases c2 : x6_1 < (a0.size : Int)
   ·rw [if_pos c2] at H
    have c2b0 : decide (x6_1 < (a0.size : Int)) = true := decide_eq_true c2
    clear c2
    by_cases c3 : 0 ≤ x6_1
    ·rw [if_pos c3] at H
     have c3b0 : decide (0 ≤ x6_1) = true := decide_eq_true c3
     clear c3
     by_cases c4 : x6_1 < (a0.size : Int)
     ·rw [if_pos c4] at H
      have c4b0 : decide (x6_1 < (a0.size : Int)) = true := decide_eq_true c4
      clear c4
      replace H := Option.bind_eq_some_iff.mp H
      obtain ⟨t101, A60, H⟩ := H
      replace H : (if t101 = true then (labels_named.l0 k1 a0 (a0.size : Int) (wrap64 (x6_1 + 1))) else (some false)) = some r := H
      have A6 := Aside0.mk A60
      clear A60
      by_cases c7 : t101 = true
      ·subst c7
       have H1 : (labels_named.l0 k1 a0 (a0.size : Int) (wrap64 (x6_1 + 1))) = some r := by rw [if_pos rfl] at H; exact H
       clear H
       have H := H1
       clear H1
       have H' := Aside0.mk H
       clear H
       have p5 : 0 ≤ (x6_1 : Int) := of_decide_eq_true (by first | (with_reducible assumption) | assumption)
       have q5 : x6_1 < (a0.size : Int) := of_decide_eq_true (by first | (with_reducible assumption) | assumption)
       have hx5 := bt_at a0 x6_1
       replace p5 := eq_true p5
       replace q5 := eq_true q5
       go_wp2_with (first | ((with_reducible refine gate_callee (f := 56) rfl ?_); refine goesL_ (some 14) rfl rfl Try.func56 (by kernel_rfl) rfl #[.int .u8 (bt a0 x6_1), .bool (x6_1 == 0)] rfl (by (try simp only [List.map_toArray, List.map_cons, List.map_nil]); first | done | rfl | (simp only [List.length_drop, List.length_take]; rfl)) ?_; (with_reducible refine (labels_letter.calls k1 (bt a0 x6_1) (x6_1 == 0) true _ A6.out).mono ?_); rintro e w' ⟨rfl, ⟨nd, rfl⟩⟩; refine ⟨_, rfl, ?_⟩; clear A6))
       go_roundg k1
       case measure => have := HK1.out; omega
       case rel => exact ⟨(wrap64 (x6_1 + 1)), (by first | rfl | (simp; done) | (simp [*]; done)), H', ⟨by have := HK1.out; omega⟩, by repeat (first | exact Drawn0.refl _ | apply Drawn0.step)⟩
      ·replace c7 := Bool.eq_false_iff.mpr c7
       subst c7
       have H1 : (some false) = some r := by rw [if_neg (show ¬ (false = true) by decide)] at H; exact H
       clear H
       have H := H1
       clear H1
       obtain rfl := Option.some.inj H
       have p5 : 0 ≤ (x6_1 : Int) := of_decide_eq_true (by first | (with_reducible assumption) | assumption)
       have q5 : x6_1 < (a0.size : Int) := of_decide_eq_true (by first | (with_reducible assumption) | assumption)
       have hx5 := bt_at a0 x6_1
       replace p5 := eq_true p5
       replace q5 := eq_true q5
       go_wp2_with (first | ((with_reducible refine gate_callee (f := 56) rfl ?_); refine goesL_ (some 14) rfl rfl Try.func56 (by kernel_rfl) rfl #[.int .u8 (bt a0 x6_1), .bool (x6_1 == 0)] rfl (by (try simp only [List.map_toArray, List.map_cons, List.map_nil]); first | done | rfl | (simp only [List.length_drop, List.length_take]; rfl)) ?_; (with_reducible refine (labels_letter.calls k1 (bt a0 x6_1) (x6_1 == 0) false _ A6.out).mono ?_); rintro e w' ⟨rfl, ⟨nd, rfl⟩⟩; refine ⟨_, rfl, ?_⟩; clear A6))
       go_ret
       exact ⟨by first | rfl | (simp; done) | (simp [*]; done), by repeat (first | exact Drawn0.refl _ | apply Drawn0.step)⟩
     ·rw [if_neg c4] at H
      exact absurd H (by simp)
    ·rw [if_neg c3] at H
     exact absurd H (by simp)
   ·rw [if_neg c2] at H
    have c2b0 : decide (x6_1 < (a0.size : Int)) = false := decide_eq_false c2
    clear c2
    by_cases c8 : (a0.size : Int) ≥ 1
    ·rw [if_pos c8] at H
     have c8b0 : decide (1 ≤ (a0.size : Int)) = true := decide_eq_true c8
     have c8b1 : decide (1 ≤ a0.size) = true := decide_eq_true (by omega)
     clear c8
     obtain rfl := Option.some.inj H
     go_wp2
     go_ret
     exact ⟨by first | rfl | (simp; done) | (simp [*]; done), by repeat (first | exact Drawn0.refl _ | apply Drawn0.step)⟩
    ·rw [if_neg c8] at H
     have c8b0 : decide (1 ≤ (a0.size : Int)) = false := decide_eq_false c8
     have c8b1 : decide (1 ≤ a0.size) = false := decide_eq_false (by omega)
     clear c8
     obtain rfl := Option.some.inj H
     go_wp2
     go_ret
     exact ⟨by first | rfl | (simp; done) | (simp [*]; done), by repeat (first | exact Drawn0.refl _ | apply Drawn0.step)⟩
def labels_part.f (k : Nat) (a0 : ByteArray) (a1 : ByteArray) : Option (Int) := (labels_named.f k a0).bind fun t101 => (if t101 = true then (if (a1.size : Int) > 200 then (some 17) else (some 0)) else (some 10))
set_option maxHeartbeats 8000000 in
set_option maxRecDepth 100000 in
theorem labels_part.calls (k : Nat) (a0 : ByteArray) (a1 : ByteArray) (r : Int) (w : World) (h : labels_part.f k a0 a1 = some r) :
  Calls Try.prog 31 #[.string a0, .string a1] w fun e w' => e = .returned (.int .i64 r) ∧ Drawn0 w w' := by
 have H : ((labels_named.f k a0).bind fun t101 => (if t101 = true then (if (a1.size : Int) > 200 then (some 17) else (some 0)) else (some 10))) = some r := h
 clear h
 replace H := Option.bind_eq_some_iff.mp H
 obtain ⟨t101, A30, H⟩ := H
 replace H : (if t101 = true then (if (a1.size : Int) > 200 then (some 17) else (some 0)) else (some 10)) = some r := H
 have A3 := Aside0.mk A30
 clear A30
 by_cases c4 : t101 = true
 ·subst c4
  have H1 : (if (a1.size : Int) > 200 then (some 17) else (some 0)) = some r := by rw [if_pos rfl] at H; exact H
  clear H
  have H := H1
  clear H1
  by_cases c5 : (a1.size : Int) > 200
  ·rw [if_pos c5] at H
   have c5b0 : decide (200 < (a1.size : Int)) = true := decide_eq_true c5
   have c5b1 : decide (200 < a1.size) = true := decide_eq_true (by omega)
   clear c5
   obtain rfl := Option.some.inj H
   go_enter Try.func31, Try.ntmps31
   go_wp2_with (first | ((with_reducible refine gate_callee (f := 44) rfl ?_); refine goesL_ (some 7) rfl rfl Try.func44 (by kernel_rfl) rfl #[.string a0] rfl (by (try simp only [List.map_toArray, List.map_cons, List.map_nil]); first | done | rfl | (simp only [List.length_drop, List.length_take]; rfl)) ?_; (with_reducible refine (labels_named.calls k a0 true _ A3.out).mono ?_); rintro e w' ⟨rfl, ⟨nd, rfl⟩⟩; refine ⟨_, rfl, ?_⟩; clear A3))
   go_ret
   exact ⟨by first | rfl | (simp; done) | (simp [*]; done), by repeat (first | exact Drawn0.refl _ | apply Drawn0.step)⟩
  ·rw [if_neg c5] at H
   have c5b0 : decide (200 < (a1.size : Int)) = false := decide_eq_false c5
   have c5b1 : decide (200 < a1.size) = false := decide_eq_false (by omega)
   clear c5
   obtain rfl := Option.some.inj H
   go_enter Try.func31, Try.ntmps31
   go_wp2_with (first | ((with_reducible refine gate_callee (f := 44) rfl ?_); refine goesL_ (some 7) rfl rfl Try.func44 (by kernel_rfl) rfl #[.string a0] rfl (by (try simp only [List.map_toArray, List.map_cons, List.map_nil]); first | done | rfl | (simp only [List.length_drop, List.length_take]; rfl)) ?_; (with_reducible refine (labels_named.calls k a0 true _ A3.out).mono ?_); rintro e w' ⟨rfl, ⟨nd, rfl⟩⟩; refine ⟨_, rfl, ?_⟩; clear A3))
   go_ret
   exact ⟨by first | rfl | (simp; done) | (simp [*]; done), by repeat (first | exact Drawn0.refl _ | apply Drawn0.step)⟩
 ·replace c4 := Bool.eq_false_iff.mpr c4
  subst c4
  have H1 : (some 10) = some r := by rw [if_neg (show ¬ (false = true) by decide)] at H; exact H
  clear H
  have H := H1
  clear H1
  obtain rfl := Option.some.inj H
  go_enter Try.func31, Try.ntmps31
  go_wp2_with (first | ((with_reducible refine gate_callee (f := 44) rfl ?_); refine goesL_ (some 7) rfl rfl Try.func44 (by kernel_rfl) rfl #[.string a0] rfl (by (try simp only [List.map_toArray, List.map_cons, List.map_nil]); first | done | rfl | (simp only [List.length_drop, List.length_take]; rfl)) ?_; (with_reducible refine (labels_named.calls k a0 false _ A3.out).mono ?_); rintro e w' ⟨rfl, ⟨nd, rfl⟩⟩; refine ⟨_, rfl, ?_⟩; clear A3))
  go_ret
  exact ⟨by first | rfl | (simp; done) | (simp [*]; done), by repeat (first | exact Drawn0.refl _ | apply Drawn0.step)⟩
def labels_Check.l0 : Nat → List (S58) → List (S58) → Int → Int → Option (Int)
 | 0, _, _, _, _ => none
 | k + 1, x0, x9, x10, x11 => if x11 < x10 then (if 0 ≤ x11 then (if x11 < (x9.length : Int) then ((labels_part.f k ((rd_T58 x9 x11).f0) ((rd_T58 x9 x11).f1)).bind fun t103 => (if t103 = 0 then (if x11 > 0 then (if 0 ≤ (wrap64 (x11 - 1)) then (if (wrap64 (x11 - 1)) < (x0.length : Int) then (if ((Op.bytesLess (((rd_T58 x0 (wrap64 (x11 - 1))).f0).toList) (((rd_T58 x9 x11).f0).toList)) = true) then (labels_Check.l0 k x0 x9 x10 (wrap64 (x11 + 1))) else (some 11)) else (none)) else (none)) else (labels_Check.l0 k x0 x9 x10 (wrap64 (x11 + 1)))) else (some t103))) else (none)) else (none)) else (some 0)
def labels_Check.f (k : Nat) (l0 : List (S58)) : Option (Int) := if (l0.length : Int) > 16 then (some 12) else (labels_Check.l0 k l0 l0 (l0.length : Int) 0)
set_option maxHeartbeats 8000000 in
set_option maxRecDepth 100000 in
theorem labels_Check.calls (k : Nat) (A0 : Option Addr) (c0 : Nat) (l0 : List (S58)) (r : Int) (w : World) (hr0 : Kd.C k58 w A0 l0.length l0) (hc0 : l0.length ≤ c0) (h : labels_Check.f k l0 = some r) :
  Calls Try.prog 14 #[.slice A0 l0.length c0] w fun e w' => e = .returned (.int .i64 r) ∧ Below w.heap.size w w' := by
 have hu58 := Try.underlying58
 have HR0 := Aside0.mk hr0
 have HC0 := Aside0.mk hc0
 clear hr0 hc0
 have HB := Aside0.mk (Below.refl w.heap.size w)
 have H : (if (l0.length : Int) > 16 then (some 12) else (labels_Check.l0 k l0 l0 (l0.length : Int) 0)) = some r := h
 clear h
 by_cases c2 : (l0.length : Int) > 16
 ·rw [if_pos c2] at H
  have c2b0 : decide (16 < (l0.length : Int)) = true := decide_eq_true c2
  have c2b1 : decide (16 < l0.length) = true := decide_eq_true (by omega)
  clear c2
  obtain rfl := Option.some.inj H
  go_enter Try.func14, Try.ntmps14
  go_wp2
  repeat (go_quiet (fail); try go_wp2)
  go_ret
  exact ⟨by first | rfl | (simp [errW_none, errW_some] <;> rfl) | (simp [*, errW_none, errW_some] <;> rfl), by repeat (first | (with_reducible first | exact HB.out | apply below_alloc | apply pw_below_drewN | apply below_drew1) | exact HB.out)⟩
 ·rw [if_neg c2] at H
  have c2b0 : decide (16 < (l0.length : Int)) = false := decide_eq_false c2
  have c2b1 : decide (16 < l0.length) = false := decide_eq_false (by omega)
  clear c2
  have H' := Aside0.mk H
  clear H
  go_enter Try.func14, Try.ntmps14
  go_wp2
  repeat (go_quiet (fail); try go_wp2)
  go_loopg [11] k (fun kq v11 w' => ∃ (x11_1 : Int), v11 = .int .i64 x11_1 ∧ Aside0 (labels_Check.l0 kq l0 l0 (l0.length : Int) x11_1 = some r) ∧ Aside0 (kq ≤ k) ∧ Aside0 (Below w.heap.size w w'))
  case atStart => exact ⟨(0), (by first | rfl | (simp; done) | (simp [*]; done)), H', ⟨Nat.le_refl _⟩, ⟨by repeat (first | (with_reducible first | exact HB.out | apply below_alloc | apply pw_below_drewN | apply below_drew1) | exact HB.out)⟩⟩
  case round =>
   clear H'
   try clear c1
   try clear c2
   try clear c2b0
   try clear c2b1
   try clear p2
   obtain ⟨x11_1, rfl, HA, HK1, HB⟩ := hrel
   cases gk with
   | zero => exact absurd HA.out (by simp [labels_Check.l0])
   | succ k1 =>
    have H := HA.out
    clear HA
    simp only [labels_Check.l0] at H
    by_cases c3 : x11_1 < (l0.length : Int)
    ·rw [if_pos c3] at H
     have c3b0 : decide (x11_1 < (l0.length : Int)) = true := decide_eq_true c3
     clear c3
     by_cases c4 : 0 ≤ x11_1
     ·rw [if_pos c4] at H
      have c4b0 : decide (0 ≤ x11_1) = true := decide_eq_true c4
      clear c4
      by_cases c5 : x11_1 < (l0.length : Int)
      ·rw [if_pos c5] at H
       have c5b0 : decide (x11_1 < (l0.length : Int)) = true := decide_eq_true c5
       clear c5
       replace H := Option.bind_eq_some_iff.mp H
       obtain ⟨t103, A60, H⟩ := H
       replace H : (if t103 = 0 then (if x11_1 > 0 then (if 0 ≤ (wrap64 (x11_1 - 1)) then (if (wrap64 (x11_1 - 1)) < (l0.length : Int) then (if ((Op.bytesLess (((rd_T58 l0 (wrap64 (x11_1 - 1))).f0).toList) (((rd_T58 l0 x11_1).f0).toList)) = true) then (labels_Check.l0 k1 l0 l0 (l0.length : Int) (wrap64 (x11_1 + 1))) else (some 11)) else (none)) else (none)) else (labels_Check.l0 k1 l0 l0 (l0.length : Int) (wrap64 (x11_1 + 1)))) else (some t103)) = some r := H
       have A6 := Aside0.mk A60
       clear A60
       by_cases c7 : t103 = 0
       ·rw [if_pos c7] at H
        have c7b0 : (t103 == 0) = true := beq_iff_eq.mpr c7
        have c7b1 : (t103 != 0) = false := bne_eq_false_iff_eq.mpr c7
        clear c7
        by_cases c8 : x11_1 > 0
        ·rw [if_pos c8] at H
         have c8b0 : decide (0 < x11_1) = true := decide_eq_true c8
         clear c8
         obtain ⟨ji9, hji9⟩ : ∃ j_ : Int, (wrap64 (x11_1 - 1)) = j_ := ⟨_, rfl⟩
         replace H : (if 0 ≤ (ji9) then (if (ji9) < (l0.length : Int) then (if ((Op.bytesLess (((rd_T58 l0 (ji9)).f0).toList) (((rd_T58 l0 x11_1).f0).toList)) = true) then (labels_Check.l0 k1 l0 l0 (l0.length : Int) (wrap64 (x11_1 + 1))) else (some 11)) else (none)) else (none)) = some r := by first | (rw [hji9] at H; exact H) | (simp only [hji9] at H ⊢; exact H)
         (try rw [hji9] at A6)
         have hji9w : (IntKind.i64.wrap (x11_1 - 1)) = ji9 := (i64_w _).trans hji9
         by_cases c10 : 0 ≤ (ji9)
         ·rw [if_pos c10] at H
          have c10b0 : decide (0 ≤ (ji9)) = true := decide_eq_true c10
          clear c10
          by_cases c11 : (ji9) < (l0.length : Int)
          ·rw [if_pos c11] at H
           have c11b0 : decide ((ji9) < (l0.length : Int)) = true := decide_eq_true c11
           clear c11
           by_cases c12 : ((Op.bytesLess (((rd_T58 l0 (ji9)).f0).toList) (((rd_T58 l0 x11_1).f0).toList)) = true)
           ·rw [if_pos c12] at H
            have c12b0 : (Op.bytesLess (((rd_T58 l0 (ji9)).f0).toList) (((rd_T58 l0 x11_1).f0).toList)) = true := c12
            clear c12
            have H' := Aside0.mk H
            clear H
            have p101 : 0 ≤ (x11_1 : Int) := of_decide_eq_true (by first | (with_reducible assumption) | assumption)
            have q101 : x11_1 < (l0.length : Int) := of_decide_eq_true (by first | (with_reducible assumption) | assumption)
            obtain ⟨ad101, e101, hx101_0, hx101_1⟩ := at_T58 HR0.out x11_1 p101 q101
            cases e101
            replace hx101_0 := (HB.out.cell (World.block_lt_of_cell? w _ hx101_0)).trans hx101_0
            replace hx101_1 := (HB.out.cell (World.block_lt_of_cell? w _ hx101_1)).trans hx101_1
            replace p101 := eq_true p101
            replace q101 := eq_true q101
            go_wp2_with (first | ((with_reducible refine gate_dst (N := 4) rfl ?_); refine box_event ?hg (N := 4) ?hd (cs := #[.string (⟨#[]⟩ : ByteArray), .string (⟨#[]⟩ : ByteArray)]) (t := 58) ?hr ?_; (case hd => rfl); (case hg => rfl); (case hr => first | (go_simp; done) | (go_simp; rfl)); intro gb102 hg w13 hbox hb; have n0_ := Aside0.mk (below_step (by repeat (first | (with_reducible first | exact HB.out | apply below_alloc | apply pw_below_drewN | apply below_drew1) | exact HB.out)) hb); have n1_ := Aside0.mk (hbox); have n2_ := Aside0.mk ((by rw [hg]; exact (below_size (by repeat (first | (with_reducible first | exact HB.out | apply below_alloc | apply pw_below_drewN | apply below_drew1) | exact HB.out))) : w.heap.size ≤ gb102)); have n3_ := Aside0.mk ((by rw [hg]; exact (below_size (by repeat (first | (with_reducible first | exact HB.out | apply below_alloc | apply pw_below_drewN | apply below_drew1) | exact HB.out))) : w.heap.size ≤ gb102)); clear HB; have HB := n0_; have BK102 := n1_; have GW102 := n2_; have GE102 := n3_; clear n0_ n1_ n2_ n3_; clear hb hbox hg; have hcz14_0 : w13.cell? ⟨gb102, 0, none⟩ = some (.string (⟨#[]⟩ : ByteArray)) := (blk_cell BK102.out 0).trans rfl; have hcz14_1 : w13.cell? ⟨gb102, 1, none⟩ = some (.string (⟨#[]⟩ : ByteArray)) := (blk_cell BK102.out 1).trans rfl; have hfz14_0 := blk_frozen BK102.out 0; have hfz14_1 := blk_frozen BK102.out 1) | (go_at_call 31; (with_reducible refine (labels_part.calls k1 ((rd_T58 l0 x11_1).f0) ((rd_T58 l0 x11_1).f1) t103 _ A6.out).mono ?_); rintro e w' ⟨rfl, ⟨nd, rfl⟩⟩; (try first | exact ⟨rfl, _, World.drewN_drewN _ _ _⟩ | exact ⟨rfl, _, Eq.trans (World.drewN_drewN _ _ _) (congrArg (World.drewN _) (Nat.add_assoc _ _ _))⟩); clear A6; have p104 : 0 ≤ ((ji9) : Int) := of_decide_eq_true (by first | (with_reducible assumption) | assumption); have q104 : (ji9) < (l0.length : Int) := of_decide_eq_true (by first | (with_reducible assumption) | assumption); obtain ⟨ad104, e104, hx104_0, hx104_1⟩ := at_T58 HR0.out (ji9) p104 q104; obtain rfl : ad101 = ad104 := (by injection e104); have hn104_0 : ad101.block ≠ gb102 := Nat.ne_of_lt (Nat.lt_of_lt_of_le (by have := World.block_lt_of_cell? _ _ hx104_0; first | rwa [add_block] at this | exact this) GW102.out); have hn104_1 : ad101.block ≠ gb102 := Nat.ne_of_lt (Nat.lt_of_lt_of_le (by have := World.block_lt_of_cell? _ _ hx104_0; first | rwa [add_block] at this | exact this) GW102.out); replace hx104_0 := (HB.out.cell (World.block_lt_of_cell? w _ hx104_0)).trans hx104_0; replace hx104_1 := (HB.out.cell (World.block_lt_of_cell? w _ hx104_1)).trans hx104_1; replace hx104_0 := (cell_far (p := ⟨gb102, 0, none⟩) (by first | (rw [add_block]; exact hn104_0) | (show (Addr.add _ _).block ≠ _; rw [add_block]; exact hn104_0) | exact hn104_0) (.string ((rd_T58 l0 x11_1).f0))).trans hx104_0; replace hx104_1 := (cell_far (p := ⟨gb102, 0, none⟩) (by first | (rw [add_block]; exact hn104_0) | (show (Addr.add _ _).block ≠ _; rw [add_block]; exact hn104_0) | exact hn104_0) (.string ((rd_T58 l0 x11_1).f0))).trans hx104_1; replace hx104_0 := (cell_far (p := ⟨gb102, 1, none⟩) (by first | (rw [add_block]; exact hn104_1) | (show (Addr.add _ _).block ≠ _; rw [add_block]; exact hn104_1) | exact hn104_1) (.string ((rd_T58 l0 x11_1).f1))).trans hx104_0; replace hx104_1 := (cell_far (p := ⟨gb102, 1, none⟩) (by first | (rw [add_block]; exact hn104_1) | (show (Addr.add _ _).block ≠ _; rw [add_block]; exact hn104_1) | exact hn104_1) (.string ((rd_T58 l0 x11_1).f1))).trans hx104_1; (try have hy104_0 := fun (n_ : Nat) => (show ((((w13.drewN n_).setCell ⟨gb102, 0, none⟩ (.string ((rd_T58 l0 x11_1).f0))).setCell ⟨gb102, 1, none⟩ (.string ((rd_T58 l0 x11_1).f1)))).cell? _ = some _ from hx104_0)); (try have hy104_1 := fun (n_ : Nat) => (show ((((w13.drewN n_).setCell ⟨gb102, 0, none⟩ (.string ((rd_T58 l0 x11_1).f0))).setCell ⟨gb102, 1, none⟩ (.string ((rd_T58 l0 x11_1).f1)))).cell? _ = some _ from hx104_1)); clear hn104_0; clear hn104_1; replace p104 := eq_true p104; replace q104 := eq_true q104))
            repeat (go_quiet (first | ((with_reducible refine gate_dst (N := 4) rfl ?_); refine box_event ?hg (N := 4) ?hd (cs := #[.string (⟨#[]⟩ : ByteArray), .string (⟨#[]⟩ : ByteArray)]) (t := 58) ?hr ?_; (case hd => rfl); (case hg => rfl); (case hr => first | (go_simp; done) | (go_simp; rfl)); intro gb102 hg w13 hbox hb; have n0_ := Aside0.mk (below_step (by repeat (first | (with_reducible first | exact HB.out | apply below_alloc | apply pw_below_drewN | apply below_drew1) | exact HB.out)) hb); have n1_ := Aside0.mk (hbox); have n2_ := Aside0.mk ((by rw [hg]; exact (below_size (by repeat (first | (with_reducible first | exact HB.out | apply below_alloc | apply pw_below_drewN | apply below_drew1) | exact HB.out))) : w.heap.size ≤ gb102)); have n3_ := Aside0.mk ((by rw [hg]; exact (below_size (by repeat (first | (with_reducible first | exact HB.out | apply below_alloc | apply pw_below_drewN | apply below_drew1) | exact HB.out))) : w.heap.size ≤ gb102)); clear HB; have HB := n0_; have BK102 := n1_; have GW102 := n2_; have GE102 := n3_; clear n0_ n1_ n2_ n3_; clear hb hbox hg; have hcz14_0 : w13.cell? ⟨gb102, 0, none⟩ = some (.string (⟨#[]⟩ : ByteArray)) := (blk_cell BK102.out 0).trans rfl; have hcz14_1 : w13.cell? ⟨gb102, 1, none⟩ = some (.string (⟨#[]⟩ : ByteArray)) := (blk_cell BK102.out 1).trans rfl; have hfz14_0 := blk_frozen BK102.out 0; have hfz14_1 := blk_frozen BK102.out 1) | (go_at_call 31; (with_reducible refine (labels_part.calls k1 ((rd_T58 l0 x11_1).f0) ((rd_T58 l0 x11_1).f1) t103 _ A6.out).mono ?_); rintro e w' ⟨rfl, ⟨nd, rfl⟩⟩; (try first | exact ⟨rfl, _, World.drewN_drewN _ _ _⟩ | exact ⟨rfl, _, Eq.trans (World.drewN_drewN _ _ _) (congrArg (World.drewN _) (Nat.add_assoc _ _ _))⟩); clear A6; have p104 : 0 ≤ ((ji9) : Int) := of_decide_eq_true (by first | (with_reducible assumption) | assumption); have q104 : (ji9) < (l0.length : Int) := of_decide_eq_true (by first | (with_reducible assumption) | assumption); obtain ⟨ad104, e104, hx104_0, hx104_1⟩ := at_T58 HR0.out (ji9) p104 q104; obtain rfl : ad101 = ad104 := (by injection e104); have hn104_0 : ad101.block ≠ gb102 := Nat.ne_of_lt (Nat.lt_of_lt_of_le (by have := World.block_lt_of_cell? _ _ hx104_0; first | rwa [add_block] at this | exact this) GW102.out); have hn104_1 : ad101.block ≠ gb102 := Nat.ne_of_lt (Nat.lt_of_lt_of_le (by have := World.block_lt_of_cell? _ _ hx104_0; first | rwa [add_block] at this | exact this) GW102.out); replace hx104_0 := (HB.out.cell (World.block_lt_of_cell? w _ hx104_0)).trans hx104_0; replace hx104_1 := (HB.out.cell (World.block_lt_of_cell? w _ hx104_1)).trans hx104_1; replace hx104_0 := (cell_far (p := ⟨gb102, 0, none⟩) (by first | (rw [add_block]; exact hn104_0) | (show (Addr.add _ _).block ≠ _; rw [add_block]; exact hn104_0) | exact hn104_0) (.string ((rd_T58 l0 x11_1).f0))).trans hx104_0; replace hx104_1 := (cell_far (p := ⟨gb102, 0, none⟩) (by first | (rw [add_block]; exact hn104_0) | (show (Addr.add _ _).block ≠ _; rw [add_block]; exact hn104_0) | exact hn104_0) (.string ((rd_T58 l0 x11_1).f0))).trans hx104_1; replace hx104_0 := (cell_far (p := ⟨gb102, 1, none⟩) (by first | (rw [add_block]; exact hn104_1) | (show (Addr.add _ _).block ≠ _; rw [add_block]; exact hn104_1) | exact hn104_1) (.string ((rd_T58 l0 x11_1).f1))).trans hx104_0; replace hx104_1 := (cell_far (p := ⟨gb102, 1, none⟩) (by first | (rw [add_block]; exact hn104_1) | (show (Addr.add _ _).block ≠ _; rw [add_block]; exact hn104_1) | exact hn104_1) (.string ((rd_T58 l0 x11_1).f1))).trans hx104_1; (try have hy104_0 := fun (n_ : Nat) => (show ((((w13.drewN n_).setCell ⟨gb102, 0, none⟩ (.string ((rd_T58 l0 x11_1).f0))).setCell ⟨gb102, 1, none⟩ (.string ((rd_T58 l0 x11_1).f1)))).cell? _ = some _ from hx104_0)); (try have hy104_1 := fun (n_ : Nat) => (show ((((w13.drewN n_).setCell ⟨gb102, 0, none⟩ (.string ((rd_T58 l0 x11_1).f0))).setCell ⟨gb102, 1, none⟩ (.string ((rd_T58 l0 x11_1).f1)))).cell? _ = some _ from hx104_1)); clear hn104_0; clear hn104_1; replace p104 := eq_true p104; replace q104 := eq_true q104)); try go_wp2_with (first | ((with_reducible refine gate_dst (N := 4) rfl ?_); refine box_event ?hg (N := 4) ?hd (cs := #[.string (⟨#[]⟩ : ByteArray), .string (⟨#[]⟩ : ByteArray)]) (t := 58) ?hr ?_; (case hd => rfl); (case hg => rfl); (case hr => first | (go_simp; done) | (go_simp; rfl)); intro gb102 hg w13 hbox hb; have n0_ := Aside0.mk (below_step (by repeat (first | (with_reducible first | exact HB.out | apply below_alloc | apply pw_below_drewN | apply below_drew1) | exact HB.out)) hb); have n1_ := Aside0.mk (hbox); have n2_ := Aside0.mk ((by rw [hg]; exact (below_size (by repeat (first | (with_reducible first | exact HB.out | apply below_alloc | apply pw_below_drewN | apply below_drew1) | exact HB.out))) : w.heap.size ≤ gb102)); have n3_ := Aside0.mk ((by rw [hg]; exact (below_size (by repeat (first | (with_reducible first | exact HB.out | apply below_alloc | apply pw_below_drewN | apply below_drew1) | exact HB.out))) : w.heap.size ≤ gb102)); clear HB; have HB := n0_; have BK102 := n1_; have GW102 := n2_; have GE102 := n3_; clear n0_ n1_ n2_ n3_; clear hb hbox hg; have hcz14_0 : w13.cell? ⟨gb102, 0, none⟩ = some (.string (⟨#[]⟩ : ByteArray)) := (blk_cell BK102.out 0).trans rfl; have hcz14_1 : w13.cell? ⟨gb102, 1, none⟩ = some (.string (⟨#[]⟩ : ByteArray)) := (blk_cell BK102.out 1).trans rfl; have hfz14_0 := blk_frozen BK102.out 0; have hfz14_1 := blk_frozen BK102.out 1) | (go_at_call 31; (with_reducible refine (labels_part.calls k1 ((rd_T58 l0 x11_1).f0) ((rd_T58 l0 x11_1).f1) t103 _ A6.out).mono ?_); rintro e w' ⟨rfl, ⟨nd, rfl⟩⟩; (try first | exact ⟨rfl, _, World.drewN_drewN _ _ _⟩ | exact ⟨rfl, _, Eq.trans (World.drewN_drewN _ _ _) (congrArg (World.drewN _) (Nat.add_assoc _ _ _))⟩); clear A6; have p104 : 0 ≤ ((ji9) : Int) := of_decide_eq_true (by first | (with_reducible assumption) | assumption); have q104 : (ji9) < (l0.length : Int) := of_decide_eq_true (by first | (with_reducible assumption) | assumption); obtain ⟨ad104, e104, hx104_0, hx104_1⟩ := at_T58 HR0.out (ji9) p104 q104; obtain rfl : ad101 = ad104 := (by injection e104); have hn104_0 : ad101.block ≠ gb102 := Nat.ne_of_lt (Nat.lt_of_lt_of_le (by have := World.block_lt_of_cell? _ _ hx104_0; first | rwa [add_block] at this | exact this) GW102.out); have hn104_1 : ad101.block ≠ gb102 := Nat.ne_of_lt (Nat.lt_of_lt_of_le (by have := World.block_lt_of_cell? _ _ hx104_0; first | rwa [add_block] at this | exact this) GW102.out); replace hx104_0 := (HB.out.cell (World.block_lt_of_cell? w _ hx104_0)).trans hx104_0; replace hx104_1 := (HB.out.cell (World.block_lt_of_cell? w _ hx104_1)).trans hx104_1; replace hx104_0 := (cell_far (p := ⟨gb102, 0, none⟩) (by first | (rw [add_block]; exact hn104_0) | (show (Addr.add _ _).block ≠ _; rw [add_block]; exact hn104_0) | exact hn104_0) (.string ((rd_T58 l0 x11_1).f0))).trans hx104_0; replace hx104_1 := (cell_far (p := ⟨gb102, 0, none⟩) (by first | (rw [add_block]; exact hn104_0) | (show (Addr.add _ _).block ≠ _; rw [add_block]; exact hn104_0) | exact hn104_0) (.string ((rd_T58 l0 x11_1).f0))).trans hx104_1; replace hx104_0 := (cell_far (p := ⟨gb102, 1, none⟩) (by first | (rw [add_block]; exact hn104_1) | (show (Addr.add _ _).block ≠ _; rw [add_block]; exact hn104_1) | exact hn104_1) (.string ((rd_T58 l0 x11_1).f1))).trans hx104_0; replace hx104_1 := (cell_far (p := ⟨gb102, 1, none⟩) (by first | (rw [add_block]; exact hn104_1) | (show (Addr.add _ _).block ≠ _; rw [add_block]; exact hn104_1) | exact hn104_1) (.string ((rd_T58 l0 x11_1).f1))).trans hx104_1; (try have hy104_0 := fun (n_ : Nat) => (show ((((w13.drewN n_).setCell ⟨gb102, 0, none⟩ (.string ((rd_T58 l0 x11_1).f0))).setCell ⟨gb102, 1, none⟩ (.string ((rd_T58 l0 x11_1).f1)))).cell? _ = some _ from hx104_0)); (try have hy104_1 := fun (n_ : Nat) => (show ((((w13.drewN n_).setCell ⟨gb102, 0, none⟩ (.string ((rd_T58 l0 x11_1).f0))).setCell ⟨gb102, 1, none⟩ (.string ((rd_T58 l0 x11_1).f1)))).cell? _ = some _ from hx104_1)); clear hn104_0; clear hn104_1; replace p104 := eq_true p104; replace q104 := eq_true q104)))
            go_roundg k1
            case measure => have := HK1.out; omega
            case rel => exact ⟨(wrap64 (x11_1 + 1)), (by first | rfl | (simp; done) | (simp [*]; done)), H', ⟨by have := HK1.out; omega⟩, ⟨by repeat (first | (with_reducible first | exact HB.out | apply below_alloc | apply pw_below_drewN | apply below_drew1 | refine below_set ?_ GE102.out) | exact HB.out)⟩⟩
           ·rw [if_neg c12] at H
            have c12b0 : (Op.bytesLess (((rd_T58 l0 (ji9)).f0).toList) (((rd_T58 l0 x11_1).f0).toList)) = false := by simpa using c12
            clear c12
            obtain rfl := Option.some.inj H
            have p101 : 0 ≤ (x11_1 : Int) := of_decide_eq_true (by first | (with_reducible assumption) | assumption)
            have q101 : x11_1 < (l0.length : Int) := of_decide_eq_true (by first | (with_reducible assumption) | assumption)
            obtain ⟨ad101, e101, hx101_0, hx101_1⟩ := at_T58 HR0.out x11_1 p101 q101
            cases e101
            replace hx101_0 := (HB.out.cell (World.block_lt_of_cell? w _ hx101_0)).trans hx101_0
            replace hx101_1 := (HB.out.cell (World.block_lt_of_cell? w _ hx101_1)).trans hx101_1
            replace p101 := eq_true p101
            replace q101 := eq_true q101
            go_wp2_with (first | ((with_reducible refine gate_dst (N := 4) rfl ?_); refine box_event ?hg (N := 4) ?hd (cs := #[.string (⟨#[]⟩ : ByteArray), .string (⟨#[]⟩ : ByteArray)]) (t := 58) ?hr ?_; (case hd => rfl); (case hg => rfl); (case hr => first | (go_simp; done) | (go_simp; rfl)); intro gb102 hg w15 hbox hb; have n0_ := Aside0.mk (below_step (by repeat (first | (with_reducible first | exact HB.out | apply below_alloc | apply pw_below_drewN | apply below_drew1) | exact HB.out)) hb); have n1_ := Aside0.mk (hbox); have n2_ := Aside0.mk ((by rw [hg]; exact (below_size (by repeat (first | (with_reducible first | exact HB.out | apply below_alloc | apply pw_below_drewN | apply below_drew1) | exact HB.out))) : w.heap.size ≤ gb102)); have n3_ := Aside0.mk ((by rw [hg]; exact (below_size (by repeat (first | (with_reducible first | exact HB.out | apply below_alloc | apply pw_below_drewN | apply below_drew1) | exact HB.out))) : w.heap.size ≤ gb102)); clear HB; have HB := n0_; have BK102 := n1_; have GW102 := n2_; have GE102 := n3_; clear n0_ n1_ n2_ n3_; clear hb hbox hg; have hcz16_0 : w15.cell? ⟨gb102, 0, none⟩ = some (.string (⟨#[]⟩ : ByteArray)) := (blk_cell BK102.out 0).trans rfl; have hcz16_1 : w15.cell? ⟨gb102, 1, none⟩ = some (.string (⟨#[]⟩ : ByteArray)) := (blk_cell BK102.out 1).trans rfl; have hfz16_0 := blk_frozen BK102.out 0; have hfz16_1 := blk_frozen BK102.out 1) | (go_at_call 31; (with_reducible refine (labels_part.calls k1 ((rd_T58 l0 x11_1).f0) ((rd_T58 l0 x11_1).f1) t103 _ A6.out).mono ?_); rintro e w' ⟨rfl, ⟨nd, rfl⟩⟩; (try first | exact ⟨rfl, _, World.drewN_drewN _ _ _⟩ | exact ⟨rfl, _, Eq.trans (World.drewN_drewN _ _ _) (congrArg (World.drewN _) (Nat.add_assoc _ _ _))⟩); clear A6; have p104 : 0 ≤ ((ji9) : Int) := of_decide_eq_true (by first | (with_reducible assumption) | assumption); have q104 : (ji9) < (l0.length : Int) := of_decide_eq_true (by first | (with_reducible assumption) | assumption); obtain ⟨ad104, e104, hx104_0, hx104_1⟩ := at_T58 HR0.out (ji9) p104 q104; obtain rfl : ad101 = ad104 := (by injection e104); have hn104_0 : ad101.block ≠ gb102 := Nat.ne_of_lt (Nat.lt_of_lt_of_le (by have := World.block_lt_of_cell? _ _ hx104_0; first | rwa [add_block] at this | exact this) GW102.out); have hn104_1 : ad101.block ≠ gb102 := Nat.ne_of_lt (Nat.lt_of_lt_of_le (by have := World.block_lt_of_cell? _ _ hx104_0; first | rwa [add_block] at this | exact this) GW102.out); replace hx104_0 := (HB.out.cell (World.block_lt_of_cell? w _ hx104_0)).trans hx104_0; replace hx104_1 := (HB.out.cell (World.block_lt_of_cell? w _ hx104_1)).trans hx104_1; replace hx104_0 := (cell_far (p := ⟨gb102, 0, none⟩) (by first | (rw [add_block]; exact hn104_0) | (show (Addr.add _ _).block ≠ _; rw [add_block]; exact hn104_0) | exact hn104_0) (.string ((rd_T58 l0 x11_1).f0))).trans hx104_0; replace hx104_1 := (cell_far (p := ⟨gb102, 0, none⟩) (by first | (rw [add_block]; exact hn104_0) | (show (Addr.add _ _).block ≠ _; rw [add_block]; exact hn104_0) | exact hn104_0) (.string ((rd_T58 l0 x11_1).f0))).trans hx104_1; replace hx104_0 := (cell_far (p := ⟨gb102, 1, none⟩) (by first | (rw [add_block]; exact hn104_1) | (show (Addr.add _ _).block ≠ _; rw [add_block]; exact hn104_1) | exact hn104_1) (.string ((rd_T58 l0 x11_1).f1))).trans hx104_0; replace hx104_1 := (cell_far (p := ⟨gb102, 1, none⟩) (by first | (rw [add_block]; exact hn104_1) | (show (Addr.add _ _).block ≠ _; rw [add_block]; exact hn104_1) | exact hn104_1) (.string ((rd_T58 l0 x11_1).f1))).trans hx104_1; (try have hy104_0 := fun (n_ : Nat) => (show ((((w15.drewN n_).setCell ⟨gb102, 0, none⟩ (.string ((rd_T58 l0 x11_1).f0))).setCell ⟨gb102, 1, none⟩ (.string ((rd_T58 l0 x11_1).f1)))).cell? _ = some _ from hx104_0)); (try have hy104_1 := fun (n_ : Nat) => (show ((((w15.drewN n_).setCell ⟨gb102, 0, none⟩ (.string ((rd_T58 l0 x11_1).f0))).setCell ⟨gb102, 1, none⟩ (.string ((rd_T58 l0 x11_1).f1)))).cell? _ = some _ from hx104_1)); clear hn104_0; clear hn104_1; replace p104 := eq_true p104; replace q104 := eq_true q104))
            repeat (go_quiet (first | ((with_reducible refine gate_dst (N := 4) rfl ?_); refine box_event ?hg (N := 4) ?hd (cs := #[.string (⟨#[]⟩ : ByteArray), .string (⟨#[]⟩ : ByteArray)]) (t := 58) ?hr ?_; (case hd => rfl); (case hg => rfl); (case hr => first | (go_simp; done) | (go_simp; rfl)); intro gb102 hg w15 hbox hb; have n0_ := Aside0.mk (below_step (by repeat (first | (with_reducible first | exact HB.out | apply below_alloc | apply pw_below_drewN | apply below_drew1) | exact HB.out)) hb); have n1_ := Aside0.mk (hbox); have n2_ := Aside0.mk ((by rw [hg]; exact (below_size (by repeat (first | (with_reducible first | exact HB.out | apply below_alloc | apply pw_below_drewN | apply below_drew1) | exact HB.out))) : w.heap.size ≤ gb102)); have n3_ := Aside0.mk ((by rw [hg]; exact (below_size (by repeat (first | (with_reducible first | exact HB.out | apply below_alloc | apply pw_below_drewN | apply below_drew1) | exact HB.out))) : w.heap.size ≤ gb102)); clear HB; have HB := n0_; have BK102 := n1_; have GW102 := n2_; have GE102 := n3_; clear n0_ n1_ n2_ n3_; clear hb hbox hg; have hcz16_0 : w15.cell? ⟨gb102, 0, none⟩ = some (.string (⟨#[]⟩ : ByteArray)) := (blk_cell BK102.out 0).trans rfl; have hcz16_1 : w15.cell? ⟨gb102, 1, none⟩ = some (.string (⟨#[]⟩ : ByteArray)) := (blk_cell BK102.out 1).trans rfl; have hfz16_0 := blk_frozen BK102.out 0; have hfz16_1 := blk_frozen BK102.out 1) | (go_at_call 31; (with_reducible refine (labels_part.calls k1 ((rd_T58 l0 x11_1).f0) ((rd_T58 l0 x11_1).f1) t103 _ A6.out).mono ?_); rintro e w' ⟨rfl, ⟨nd, rfl⟩⟩; (try first | exact ⟨rfl, _, World.drewN_drewN _ _ _⟩ | exact ⟨rfl, _, Eq.trans (World.drewN_drewN _ _ _) (congrArg (World.drewN _) (Nat.add_assoc _ _ _))⟩); clear A6; have p104 : 0 ≤ ((ji9) : Int) := of_decide_eq_true (by first | (with_reducible assumption) | assumption); have q104 : (ji9) < (l0.length : Int) := of_decide_eq_true (by first | (with_reducible assumption) | assumption); obtain ⟨ad104, e104, hx104_0, hx104_1⟩ := at_T58 HR0.out (ji9) p104 q104; obtain rfl : ad101 = ad104 := (by injection e104); have hn104_0 : ad101.block ≠ gb102 := Nat.ne_of_lt (Nat.lt_of_lt_of_le (by have := World.block_lt_of_cell? _ _ hx104_0; first | rwa [add_block] at this | exact this) GW102.out); have hn104_1 : ad101.block ≠ gb102 := Nat.ne_of_lt (Nat.lt_of_lt_of_le (by have := World.block_lt_of_cell? _ _ hx104_0; first | rwa [add_block] at this | exact this) GW102.out); replace hx104_0 := (HB.out.cell (World.block_lt_of_cell? w _ hx104_0)).trans hx104_0; replace hx104_1 := (HB.out.cell (World.block_lt_of_cell? w _ hx104_1)).trans hx104_1; replace hx104_0 := (cell_far (p := ⟨gb102, 0, none⟩) (by first | (rw [add_block]; exact hn104_0) | (show (Addr.add _ _).block ≠ _; rw [add_block]; exact hn104_0) | exact hn104_0) (.string ((rd_T58 l0 x11_1).f0))).trans hx104_0; replace hx104_1 := (cell_far (p := ⟨gb102, 0, none⟩) (by first | (rw [add_block]; exact hn104_0) | (show (Addr.add _ _).block ≠ _; rw [add_block]; exact hn104_0) | exact hn104_0) (.string ((rd_T58 l0 x11_1).f0))).trans hx104_1; replace hx104_0 := (cell_far (p := ⟨gb102, 1, none⟩) (by first | (rw [add_block]; exact hn104_1) | (show (Addr.add _ _).block ≠ _; rw [add_block]; exact hn104_1) | exact hn104_1) (.string ((rd_T58 l0 x11_1).f1))).trans hx104_0; replace hx104_1 := (cell_far (p := ⟨gb102, 1, none⟩) (by first | (rw [add_block]; exact hn104_1) | (show (Addr.add _ _).block ≠ _; rw [add_block]; exact hn104_1) | exact hn104_1) (.string ((rd_T58 l0 x11_1).f1))).trans hx104_1; (try have hy104_0 := fun (n_ : Nat) => (show ((((w15.drewN n_).setCell ⟨gb102, 0, none⟩ (.string ((rd_T58 l0 x11_1).f0))).setCell ⟨gb102, 1, none⟩ (.string ((rd_T58 l0 x11_1).f1)))).cell? _ = some _ from hx104_0)); (try have hy104_1 := fun (n_ : Nat) => (show ((((w15.drewN n_).setCell ⟨gb102, 0, none⟩ (.string ((rd_T58 l0 x11_1).f0))).setCell ⟨gb102, 1, none⟩ (.string ((rd_T58 l0 x11_1).f1)))).cell? _ = some _ from hx104_1)); clear hn104_0; clear hn104_1; replace p104 := eq_true p104; replace q104 := eq_true q104)); try go_wp2_with (first | ((with_reducible refine gate_dst (N := 4) rfl ?_); refine box_event ?hg (N := 4) ?hd (cs := #[.string (⟨#[]⟩ : ByteArray), .string (⟨#[]⟩ : ByteArray)]) (t := 58) ?hr ?_; (case hd => rfl); (case hg => rfl); (case hr => first | (go_simp; done) | (go_simp; rfl)); intro gb102 hg w15 hbox hb; have n0_ := Aside0.mk (below_step (by repeat (first | (with_reducible first | exact HB.out | apply below_alloc | apply pw_below_drewN | apply below_drew1) | exact HB.out)) hb); have n1_ := Aside0.mk (hbox); have n2_ := Aside0.mk ((by rw [hg]; exact (below_size (by repeat (first | (with_reducible first | exact HB.out | apply below_alloc | apply pw_below_drewN | apply below_drew1) | exact HB.out))) : w.heap.size ≤ gb102)); have n3_ := Aside0.mk ((by rw [hg]; exact (below_size (by repeat (first | (with_reducible first | exact HB.out | apply below_alloc | apply pw_below_drewN | apply below_drew1) | exact HB.out))) : w.heap.size ≤ gb102)); clear HB; have HB := n0_; have BK102 := n1_; have GW102 := n2_; have GE102 := n3_; clear n0_ n1_ n2_ n3_; clear hb hbox hg; have hcz16_0 : w15.cell? ⟨gb102, 0, none⟩ = some (.string (⟨#[]⟩ : ByteArray)) := (blk_cell BK102.out 0).trans rfl; have hcz16_1 : w15.cell? ⟨gb102, 1, none⟩ = some (.string (⟨#[]⟩ : ByteArray)) := (blk_cell BK102.out 1).trans rfl; have hfz16_0 := blk_frozen BK102.out 0; have hfz16_1 := blk_frozen BK102.out 1) | (go_at_call 31; (with_reducible refine (labels_part.calls k1 ((rd_T58 l0 x11_1).f0) ((rd_T58 l0 x11_1).f1) t103 _ A6.out).mono ?_); rintro e w' ⟨rfl, ⟨nd, rfl⟩⟩; (try first | exact ⟨rfl, _, World.drewN_drewN _ _ _⟩ | exact ⟨rfl, _, Eq.trans (World.drewN_drewN _ _ _) (congrArg (World.drewN _) (Nat.add_assoc _ _ _))⟩); clear A6; have p104 : 0 ≤ ((ji9) : Int) := of_decide_eq_true (by first | (with_reducible assumption) | assumption); have q104 : (ji9) < (l0.length : Int) := of_decide_eq_true (by first | (with_reducible assumption) | assumption); obtain ⟨ad104, e104, hx104_0, hx104_1⟩ := at_T58 HR0.out (ji9) p104 q104; obtain rfl : ad101 = ad104 := (by injection e104); have hn104_0 : ad101.block ≠ gb102 := Nat.ne_of_lt (Nat.lt_of_lt_of_le (by have := World.block_lt_of_cell? _ _ hx104_0; first | rwa [add_block] at this | exact this) GW102.out); have hn104_1 : ad101.block ≠ gb102 := Nat.ne_of_lt (Nat.lt_of_lt_of_le (by have := World.block_lt_of_cell? _ _ hx104_0; first | rwa [add_block] at this | exact this) GW102.out); replace hx104_0 := (HB.out.cell (World.block_lt_of_cell? w _ hx104_0)).trans hx104_0; replace hx104_1 := (HB.out.cell (World.block_lt_of_cell? w _ hx104_1)).trans hx104_1; replace hx104_0 := (cell_far (p := ⟨gb102, 0, none⟩) (by first | (rw [add_block]; exact hn104_0) | (show (Addr.add _ _).block ≠ _; rw [add_block]; exact hn104_0) | exact hn104_0) (.string ((rd_T58 l0 x11_1).f0))).trans hx104_0; replace hx104_1 := (cell_far (p := ⟨gb102, 0, none⟩) (by first | (rw [add_block]; exact hn104_0) | (show (Addr.add _ _).block ≠ _; rw [add_block]; exact hn104_0) | exact hn104_0) (.string ((rd_T58 l0 x11_1).f0))).trans hx104_1; replace hx104_0 := (cell_far (p := ⟨gb102, 1, none⟩) (by first | (rw [add_block]; exact hn104_1) | (show (Addr.add _ _).block ≠ _; rw [add_block]; exact hn104_1) | exact hn104_1) (.string ((rd_T58 l0 x11_1).f1))).trans hx104_0; replace hx104_1 := (cell_far (p := ⟨gb102, 1, none⟩) (by first | (rw [add_block]; exact hn104_1) | (show (Addr.add _ _).block ≠ _; rw [add_block]; exact hn104_1) | exact hn104_1) (.string ((rd_T58 l0 x11_1).f1))).trans hx104_1; (try have hy104_0 := fun (n_ : Nat) => (show ((((w15.drewN n_).setCell ⟨gb102, 0, none⟩ (.string ((rd_T58 l0 x11_1).f0))).setCell ⟨gb102, 1, none⟩ (.string ((rd_T58 l0 x11_1).f1)))).cell? _ = some _ from hx104_0)); (try have hy104_1 := fun (n_ : Nat) => (show ((((w15.drewN n_).setCell ⟨gb102, 0, none⟩ (.string ((rd_T58 l0 x11_1).f0))).setCell ⟨gb102, 1, none⟩ (.string ((rd_T58 l0 x11_1).f1)))).cell? _ = some _ from hx104_1)); clear hn104_0; clear hn104_1; replace p104 := eq_true p104; replace q104 := eq_true q104)))
            go_ret
            exact ⟨by first | rfl | (simp [errW_none, errW_some] <;> rfl) | (simp only [← hji9]; first | rfl | (simp [errW_none, errW_some] <;> rfl)) | (simp [*, errW_none, errW_some] <;> rfl), by repeat (first | (with_reducible first | exact HB.out | apply below_alloc | apply pw_below_drewN | apply below_drew1 | refine below_set ?_ GE102.out) | exact HB.out)⟩
          ·rw [if_neg c11] at H
           exact absurd H (by simp)
         ·rw [if_neg c10] at H
          exact absurd H (by simp)
        ·rw [if_neg c8] at H
         have c8b0 : decide (0 < x11_1) = false := decide_eq_false c8
         clear c8
         have H' := Aside0.mk H
         clear H
         have p101 : 0 ≤ (x11_1 : Int) := of_decide_eq_true (by first | (with_reducible assumption) | assumption)
         have q101 : x11_1 < (l0.length : Int) := of_decide_eq_true (by first | (with_reducible assumption) | assumption)
         obtain ⟨ad101, e101, hx101_0, hx101_1⟩ := at_T58 HR0.out x11_1 p101 q101
         cases e101
         replace hx101_0 := (HB.out.cell (World.block_lt_of_cell? w _ hx101_0)).trans hx101_0
         replace hx101_1 := (HB.out.cell (World.block_lt_of_cell? w _ hx101_1)).trans hx101_1
         replace p101 := eq_true p101
         replace q101 := eq_true q101
         go_wp2_with (first | ((with_reducible refine gate_dst (N := 4) rfl ?_); refine box_event ?hg (N := 4) ?hd (cs := #[.string (⟨#[]⟩ : ByteArray), .string (⟨#[]⟩ : ByteArray)]) (t := 58) ?hr ?_; (case hd => rfl); (case hg => rfl); (case hr => first | (go_simp; done) | (go_simp; rfl)); intro gb102 hg w17 hbox hb; have n0_ := Aside0.mk (below_step (by repeat (first | (with_reducible first | exact HB.out | apply below_alloc | apply pw_below_drewN | apply below_drew1) | exact HB.out)) hb); have n1_ := Aside0.mk (hbox); have n2_ := Aside0.mk ((by rw [hg]; exact (below_size (by repeat (first | (with_reducible first | exact HB.out | apply below_alloc | apply pw_below_drewN | apply below_drew1) | exact HB.out))) : w.heap.size ≤ gb102)); have n3_ := Aside0.mk ((by rw [hg]; exact (below_size (by repeat (first | (with_reducible first | exact HB.out | apply below_alloc | apply pw_below_drewN | apply below_drew1) | exact HB.out))) : w.heap.size ≤ gb102)); clear HB; have HB := n0_; have BK102 := n1_; have GW102 := n2_; have GE102 := n3_; clear n0_ n1_ n2_ n3_; clear hb hbox hg; have hcz18_0 : w17.cell? ⟨gb102, 0, none⟩ = some (.string (⟨#[]⟩ : ByteArray)) := (blk_cell BK102.out 0).trans rfl; have hcz18_1 : w17.cell? ⟨gb102, 1, none⟩ = some (.string (⟨#[]⟩ : ByteArray)) := (blk_cell BK102.out 1).trans rfl; have hfz18_0 := blk_frozen BK102.out 0; have hfz18_1 := blk_frozen BK102.out 1) | (go_at_call 31; (with_reducible refine (labels_part.calls k1 ((rd_T58 l0 x11_1).f0) ((rd_T58 l0 x11_1).f1) t103 _ A6.out).mono ?_); rintro e w' ⟨rfl, ⟨nd, rfl⟩⟩; (try first | exact ⟨rfl, _, World.drewN_drewN _ _ _⟩ | exact ⟨rfl, _, Eq.trans (World.drewN_drewN _ _ _) (congrArg (World.drewN _) (Nat.add_assoc _ _ _))⟩); clear A6))
         repeat (go_quiet (first | ((with_reducible refine gate_dst (N := 4) rfl ?_); refine box_event ?hg (N := 4) ?hd (cs := #[.string (⟨#[]⟩ : ByteArray), .string (⟨#[]⟩ : ByteArray)]) (t := 58) ?hr ?_; (case hd => rfl); (case hg => rfl); (case hr => first | (go_simp; done) | (go_simp; rfl)); intro gb102 hg w17 hbox hb; have n0_ := Aside0.mk (below_step (by repeat (first | (with_reducible first | exact HB.out | apply below_alloc | apply pw_below_drewN | apply below_drew1) | exact HB.out)) hb); have n1_ := Aside0.mk (hbox); have n2_ := Aside0.mk ((by rw [hg]; exact (below_size (by repeat (first | (with_reducible first | exact HB.out | apply below_alloc | apply pw_below_drewN | apply below_drew1) | exact HB.out))) : w.heap.size ≤ gb102)); have n3_ := Aside0.mk ((by rw [hg]; exact (below_size (by repeat (first | (with_reducible first | exact HB.out | apply below_alloc | apply pw_below_drewN | apply below_drew1) | exact HB.out))) : w.heap.size ≤ gb102)); clear HB; have HB := n0_; have BK102 := n1_; have GW102 := n2_; have GE102 := n3_; clear n0_ n1_ n2_ n3_; clear hb hbox hg; have hcz18_0 : w17.cell? ⟨gb102, 0, none⟩ = some (.string (⟨#[]⟩ : ByteArray)) := (blk_cell BK102.out 0).trans rfl; have hcz18_1 : w17.cell? ⟨gb102, 1, none⟩ = some (.string (⟨#[]⟩ : ByteArray)) := (blk_cell BK102.out 1).trans rfl; have hfz18_0 := blk_frozen BK102.out 0; have hfz18_1 := blk_frozen BK102.out 1) | (go_at_call 31; (with_reducible refine (labels_part.calls k1 ((rd_T58 l0 x11_1).f0) ((rd_T58 l0 x11_1).f1) t103 _ A6.out).mono ?_); rintro e w' ⟨rfl, ⟨nd, rfl⟩⟩; (try first | exact ⟨rfl, _, World.drewN_drewN _ _ _⟩ | exact ⟨rfl, _, Eq.trans (World.drewN_drewN _ _ _) (congrArg (World.drewN _) (Nat.add_assoc _ _ _))⟩); clear A6)); try go_wp2_with (first | ((with_reducible refine gate_dst (N := 4) rfl ?_); refine box_event ?hg (N := 4) ?hd (cs := #[.string (⟨#[]⟩ : ByteArray), .string (⟨#[]⟩ : ByteArray)]) (t := 58) ?hr ?_; (case hd => rfl); (case hg => rfl); (case hr => first | (go_simp; done) | (go_simp; rfl)); intro gb102 hg w17 hbox hb; have n0_ := Aside0.mk (below_step (by repeat (first | (with_reducible first | exact HB.out | apply below_alloc | apply pw_below_drewN | apply below_drew1) | exact HB.out)) hb); have n1_ := Aside0.mk (hbox); have n2_ := Aside0.mk ((by rw [hg]; exact (below_size (by repeat (first | (with_reducible first | exact HB.out | apply below_alloc | apply pw_below_drewN | apply below_drew1) | exact HB.out))) : w.heap.size ≤ gb102)); have n3_ := Aside0.mk ((by rw [hg]; exact (below_size (by repeat (first | (with_reducible first | exact HB.out | apply below_alloc | apply pw_below_drewN | apply below_drew1) | exact HB.out))) : w.heap.size ≤ gb102)); clear HB; have HB := n0_; have BK102 := n1_; have GW102 := n2_; have GE102 := n3_; clear n0_ n1_ n2_ n3_; clear hb hbox hg; have hcz18_0 : w17.cell? ⟨gb102, 0, none⟩ = some (.string (⟨#[]⟩ : ByteArray)) := (blk_cell BK102.out 0).trans rfl; have hcz18_1 : w17.cell? ⟨gb102, 1, none⟩ = some (.string (⟨#[]⟩ : ByteArray)) := (blk_cell BK102.out 1).trans rfl; have hfz18_0 := blk_frozen BK102.out 0; have hfz18_1 := blk_frozen BK102.out 1) | (go_at_call 31; (with_reducible refine (labels_part.calls k1 ((rd_T58 l0 x11_1).f0) ((rd_T58 l0 x11_1).f1) t103 _ A6.out).mono ?_); rintro e w' ⟨rfl, ⟨nd, rfl⟩⟩; (try first | exact ⟨rfl, _, World.drewN_drewN _ _ _⟩ | exact ⟨rfl, _, Eq.trans (World.drewN_drewN _ _ _) (congrArg (World.drewN _) (Nat.add_assoc _ _ _))⟩); clear A6)))
         go_roundg k1
         case measure => have := HK1.out; omega
         case rel => exact ⟨(wrap64 (x11_1 + 1)), (by first | rfl | (simp; done) | (simp [*]; done)), H', ⟨by have := HK1.out; omega⟩, ⟨by repeat (first | (with_reducible first | exact HB.out | apply below_alloc | apply pw_below_drewN | apply below_drew1 | refine below_set ?_ GE102.out) | exact HB.out)⟩⟩
       ·rw [if_neg c7] at H
        have c7b0 : (t103 == 0) = false := beq_eq_false_iff_ne.mpr c7
        have c7b1 : (t103 != 0) = true := bne_iff_ne.mpr c7
        obtain rfl := Option.some.inj H
        have p101 : 0 ≤ (x11_1 : Int) := of_decide_eq_true (by first | (with_reducible assumption) | assumption)
        have q101 : x11_1 < (l0.length : Int) := of_decide_eq_true (by first | (with_reducible assumption) | assumption)
        obtain ⟨ad101, e101, hx101_0, hx101_1⟩ := at_T58 HR0.out x11_1 p101 q101
        cases e101
        replace hx101_0 := (HB.out.cell (World.block_lt_of_cell? w _ hx101_0)).trans hx101_0
        replace hx101_1 := (HB.out.cell (World.block_lt_of_cell? w _ hx101_1)).trans hx101_1
        replace p101 := eq_true p101
        replace q101 := eq_true q101
        go_wp2_with (first | ((with_reducible refine gate_dst (N := 4) rfl ?_); refine box_event ?hg (N := 4) ?hd (cs := #[.string (⟨#[]⟩ : ByteArray), .string (⟨#[]⟩ : ByteArray)]) (t := 58) ?hr ?_; (case hd => rfl); (case hg => rfl); (case hr => first | (go_simp; done) | (go_simp; rfl)); intro gb102 hg w19 hbox hb; have n0_ := Aside0.mk (below_step (by repeat (first | (with_reducible first | exact HB.out | apply below_alloc | apply pw_below_drewN | apply below_drew1) | exact HB.out)) hb); have n1_ := Aside0.mk (hbox); have n2_ := Aside0.mk ((by rw [hg]; exact (below_size (by repeat (first | (with_reducible first | exact HB.out | apply below_alloc | apply pw_below_drewN | apply below_drew1) | exact HB.out))) : w.heap.size ≤ gb102)); have n3_ := Aside0.mk ((by rw [hg]; exact (below_size (by repeat (first | (with_reducible first | exact HB.out | apply below_alloc | apply pw_below_drewN | apply below_drew1) | exact HB.out))) : w.heap.size ≤ gb102)); clear HB; have HB := n0_; have BK102 := n1_; have GW102 := n2_; have GE102 := n3_; clear n0_ n1_ n2_ n3_; clear hb hbox hg; have hcz20_0 : w19.cell? ⟨gb102, 0, none⟩ = some (.string (⟨#[]⟩ : ByteArray)) := (blk_cell BK102.out 0).trans rfl; have hcz20_1 : w19.cell? ⟨gb102, 1, none⟩ = some (.string (⟨#[]⟩ : ByteArray)) := (blk_cell BK102.out 1).trans rfl; have hfz20_0 := blk_frozen BK102.out 0; have hfz20_1 := blk_frozen BK102.out 1) | (go_at_call 31; (with_reducible refine (labels_part.calls k1 ((rd_T58 l0 x11_1).f0) ((rd_T58 l0 x11_1).f1) t103 _ A6.out).mono ?_); rintro e w' ⟨rfl, ⟨nd, rfl⟩⟩; (try first | exact ⟨rfl, _, World.drewN_drewN _ _ _⟩ | exact ⟨rfl, _, Eq.trans (World.drewN_drewN _ _ _) (congrArg (World.drewN _) (Nat.add_assoc _ _ _))⟩); clear A6))
        repeat (go_quiet (first | ((with_reducible refine gate_dst (N := 4) rfl ?_); refine box_event ?hg (N := 4) ?hd (cs := #[.string (⟨#[]⟩ : ByteArray), .string (⟨#[]⟩ : ByteArray)]) (t := 58) ?hr ?_; (case hd => rfl); (case hg => rfl); (case hr => first | (go_simp; done) | (go_simp; rfl)); intro gb102 hg w19 hbox hb; have n0_ := Aside0.mk (below_step (by repeat (first | (with_reducible first | exact HB.out | apply below_alloc | apply pw_below_drewN | apply below_drew1) | exact HB.out)) hb); have n1_ := Aside0.mk (hbox); have n2_ := Aside0.mk ((by rw [hg]; exact (below_size (by repeat (first | (with_reducible first | exact HB.out | apply below_alloc | apply pw_below_drewN | apply below_drew1) | exact HB.out))) : w.heap.size ≤ gb102)); have n3_ := Aside0.mk ((by rw [hg]; exact (below_size (by repeat (first | (with_reducible first | exact HB.out | apply below_alloc | apply pw_below_drewN | apply below_drew1) | exact HB.out))) : w.heap.size ≤ gb102)); clear HB; have HB := n0_; have BK102 := n1_; have GW102 := n2_; have GE102 := n3_; clear n0_ n1_ n2_ n3_; clear hb hbox hg; have hcz20_0 : w19.cell? ⟨gb102, 0, none⟩ = some (.string (⟨#[]⟩ : ByteArray)) := (blk_cell BK102.out 0).trans rfl; have hcz20_1 : w19.cell? ⟨gb102, 1, none⟩ = some (.string (⟨#[]⟩ : ByteArray)) := (blk_cell BK102.out 1).trans rfl; have hfz20_0 := blk_frozen BK102.out 0; have hfz20_1 := blk_frozen BK102.out 1) | (go_at_call 31; (with_reducible refine (labels_part.calls k1 ((rd_T58 l0 x11_1).f0) ((rd_T58 l0 x11_1).f1) t103 _ A6.out).mono ?_); rintro e w' ⟨rfl, ⟨nd, rfl⟩⟩; (try first | exact ⟨rfl, _, World.drewN_drewN _ _ _⟩ | exact ⟨rfl, _, Eq.trans (World.drewN_drewN _ _ _) (congrArg (World.drewN _) (Nat.add_assoc _ _ _))⟩); clear A6)); try go_wp2_with (first | ((with_reducible refine gate_dst (N := 4) rfl ?_); refine box_event ?hg (N := 4) ?hd (cs := #[.string (⟨#[]⟩ : ByteArray), .string (⟨#[]⟩ : ByteArray)]) (t := 58) ?hr ?_; (case hd => rfl); (case hg => rfl); (case hr => first | (go_simp; done) | (go_simp; rfl)); intro gb102 hg w19 hbox hb; have n0_ := Aside0.mk (below_step (by repeat (first | (with_reducible first | exact HB.out | apply below_alloc | apply pw_below_drewN | apply below_drew1) | exact HB.out)) hb); have n1_ := Aside0.mk (hbox); have n2_ := Aside0.mk ((by rw [hg]; exact (below_size (by repeat (first | (with_reducible first | exact HB.out | apply below_alloc | apply pw_below_drewN | apply below_drew1) | exact HB.out))) : w.heap.size ≤ gb102)); have n3_ := Aside0.mk ((by rw [hg]; exact (below_size (by repeat (first | (with_reducible first | exact HB.out | apply below_alloc | apply pw_below_drewN | apply below_drew1) | exact HB.out))) : w.heap.size ≤ gb102)); clear HB; have HB := n0_; have BK102 := n1_; have GW102 := n2_; have GE102 := n3_; clear n0_ n1_ n2_ n3_; clear hb hbox hg; have hcz20_0 : w19.cell? ⟨gb102, 0, none⟩ = some (.string (⟨#[]⟩ : ByteArray)) := (blk_cell BK102.out 0).trans rfl; have hcz20_1 : w19.cell? ⟨gb102, 1, none⟩ = some (.string (⟨#[]⟩ : ByteArray)) := (blk_cell BK102.out 1).trans rfl; have hfz20_0 := blk_frozen BK102.out 0; have hfz20_1 := blk_frozen BK102.out 1) | (go_at_call 31; (with_reducible refine (labels_part.calls k1 ((rd_T58 l0 x11_1).f0) ((rd_T58 l0 x11_1).f1) t103 _ A6.out).mono ?_); rintro e w' ⟨rfl, ⟨nd, rfl⟩⟩; (try first | exact ⟨rfl, _, World.drewN_drewN _ _ _⟩ | exact ⟨rfl, _, Eq.trans (World.drewN_drewN _ _ _) (congrArg (World.drewN _) (Nat.add_assoc _ _ _))⟩); clear A6)))
        go_ret
        exact ⟨by first | rfl | (simp [errW_none, errW_some] <;> rfl) | (simp [*, errW_none, errW_some] <;> rfl), by repeat (first | (with_reducible first | exact HB.out | apply below_alloc | apply pw_below_drewN | apply below_drew1 | refine below_set ?_ GE102.out) | exact HB.out)⟩
      ·rw [if_neg c5] at H
       exact absurd H (by simp)
     ·rw [if_neg c4] at H
      exact absurd H (by simp)
    ·rw [if_neg c3] at H
     have c3b0 : decide (x11_1 < (l0.length : Int)) = false := decide_eq_false c3
     clear c3
     obtain rfl := Option.some.inj H
     go_wp2
     repeat (go_quiet (fail); try go_wp2)
     go_ret
     exact ⟨by first | rfl | (simp [errW_none, errW_some] <;> rfl) | (simp [*, errW_none, errW_some] <;> rfl), by repeat (first | (with_reducible first | exact HB.out | apply below_alloc | apply pw_below_drewN | apply below_drew1) | exact HB.out)⟩
def labels_quoted.l0 : Nat → ByteArray → List Int → Int → Int → Option (ByteArray)
 | 0, _, _, _, _ => none
 | k + 1, x0, x3, x8, x9 => if x9 < x8 then (if 0 ≤ x9 then (if x9 < (x0.size : Int) then (if (bt x0 x9) = 10 then ((some (([92, 110] : List Int) : List Int)).bind fun y107 => (if x3.length + y107.length < 140737488355328 then (labels_quoted.l0 k x0 (x3 ++ y107) x8 (wrap64 (x9 + 1))) else (none))) else (if (bt x0 x9) = 34 then (if x3.length < 140737488355328 then ((some (x3 ++ [92] : List Int)).bind fun y113 => (if y113.length < 140737488355328 then (labels_quoted.l0 k x0 (y113 ++ [bt x0 x9]) x8 (wrap64 (x9 + 1))) else (none))) else (none)) else (if (bt x0 x9) = 92 then (if x3.length < 140737488355328 then ((some (x3 ++ [92] : List Int)).bind fun y119 => (if y119.length < 140737488355328 then (labels_quoted.l0 k x0 (y119 ++ [bt x0 x9]) x8 (wrap64 (x9 + 1))) else (none))) else (none)) else (if x3.length < 140737488355328 then (labels_quoted.l0 k x0 (x3 ++ [bt x0 x9]) x8 (wrap64 (x9 + 1))) else (none))))) else (none)) else (none)) else (if x3.length < 140737488355328 then (some (strOfNums (x3 ++ [34]))) else (none))
def labels_quoted.f (k : Nat) (a0 : ByteArray) : Option (ByteArray) := labels_quoted.l0 k a0 (([34] : List Int)) (a0.size : Int) 0
set_option maxHeartbeats 8000000 in
set_option maxRecDepth 100000 in
theorem labels_quoted.calls (k : Nat) (a0 : ByteArray) (r : ByteArray) (w : World) (h : labels_quoted.f k a0 = some r) :
  Calls Try.prog 29 #[.string a0] w fun e w' => e = .returned (.string r) ∧ Below w.heap.size w w' := by
 have HB := Aside0.mk (Below.refl w.heap.size w)
 have H : (labels_quoted.l0 k a0 (([34] : List Int)) (a0.size : Int) 0) = some r := h
 clear h
 obtain ⟨y101, hy101⟩ : ∃ y_ : List Int, y_ = (([34] : List Int)) := ⟨_, rfl⟩
 replace H : (labels_quoted.l0 k a0 y101 (a0.size : Int) 0) = some r := by first | (rw [hy101]; with_reducible exact H) | (have H2_ := (Option.bind_some _ _).symm.trans H; rw [hy101]; with_reducible exact H2_) | (have H2_ := (Option.bind_some _ _).symm.trans H; with_reducible exact H2_) | with_reducible exact H | (rw [hy101]; exact H) | exact H
 have Ny101 := Aside0.mk hy101
 clear hy101
 have H' := Aside0.mk H
 clear H
 go_enter Try.func29, Try.ntmps29
 go_wp2_with (first | ((with_reducible refine gate_dst (N := 6) rfl ?_); refine Kd.R_lit (Kd.int .u8) _ 5 ?hg (N := 6) ?hd (xs := ([34] : List Int)) (inner := [.int .u8 34]) (ok := fun _ => True) (okp := fun _ => True) ?hr ?hp (fun _ hk => hk) trivial (Below.refl _ _) (Nat.le_refl _) (by simp) ?_; (case hd => rfl); (case hg => rfl); (case hr => first | (go_simp; done) | (go_simp; rfl)); (case hp => exact (Reps.one (show Kd.M (Kd.int .u8) _ _ _ 34 [.int .u8 34] from rfl) (Reps.none _ _))); intro v102 w2 ho3 hb hg_ hnew_; clear hg_ hnew_; (first | rw [← Ny101.out] at ho3 | (simp only [Int.reduceToNat] at ho3; rw [← Ny101.out] at ho3)); have n0_ := Aside0.mk (Kd.R_lower ho3 (below_size (by repeat (first | (with_reducible first | exact HB.out | apply below_alloc | apply pw_below_drewN | apply below_drew1) | exact HB.out)))); have n1_ := Aside0.mk (below_step (by repeat (first | (with_reducible first | exact HB.out | apply below_alloc | apply pw_below_drewN | apply below_drew1) | exact HB.out)) hb); clear HB; have HO103 := n0_; have HB := n1_; clear n0_ n1_; clear hb ho3))
 go_loopg [3, 9] k (fun kq v3 v9 w' => ∃ (x3_1 : List Int) (x9_1 : Int), v9 = .int .i64 x9_1 ∧ Aside0 (labels_quoted.l0 kq a0 x3_1 (a0.size : Int) x9_1 = some r) ∧ Aside0 (kq ≤ k) ∧ Aside0 (Kd.R (Kd.int .u8) 5 w' w.heap.size (fun _ => True) v3 x3_1) ∧ Aside0 (Below w.heap.size w w'))
 case atStart => exact ⟨(y101), (0), (by first | rfl | (simp; done) | (simp [*]; done)), H', ⟨Nat.le_refl _⟩, ⟨by (with_reducible repeat (first | apply Kd.R_alloc | apply Kd.R_drewN | apply Kd.R_drew)); exact HO103.out⟩, ⟨by repeat (first | (with_reducible first | exact HB.out | apply below_alloc | apply pw_below_drewN | apply below_drew1) | exact HB.out)⟩⟩
 case round =>
  clear H'
  try clear c2
  try clear p2
  obtain ⟨x3_1, x9_1, rfl, HA, HK1, HO_3, HB⟩ := hrel
  cases gk with
  | zero => exact absurd HA.out (by simp [labels_quoted.l0])
  | succ k1 =>
   have H := HA.out
   clear HA
   simp only [labels_quoted.l0] at H
   by_cases c4 : x9_1 < (a0.size : Int)
   ·rw [if_pos c4] at H
    have c4b0 : decide (x9_1 < (a0.size : Int)) = true := decide_eq_true c4
    clear c4
    by_cases c5 : 0 ≤ x9_1
    ·rw [if_pos c5] at H
     have c5b0 : decide (0 ≤ x9_1) = true := decide_eq_true c5
     clear c5
     by_cases c6 : x9_1 < (a0.size : Int)
     ·rw [if_pos c6] at H
      have c6b0 : decide (x9_1 < (a0.size : Int)) = true := decide_eq_true c6
      clear c6
      by_cases c8 : (bt a0 x9_1) = 10
      ·rw [if_pos c8] at H
       have c8b0 : ((bt a0 x9_1) == 10) = true := beq_iff_eq.mpr c8
       have c8b1 : ((bt a0 x9_1) != 10) = false := bne_eq_false_iff_eq.mpr c8
       clear c8
       obtain ⟨y107, hy107⟩ : ∃ y_ : List Int, y_ = (([92, 110] : List Int)) := ⟨_, rfl⟩
       replace H : (if x3_1.length + y107.length < 140737488355328 then (labels_quoted.l0 k1 a0 (x3_1 ++ y107) (a0.size : Int) (wrap64 (x9_1 + 1))) else (none)) = some r := by first | (rw [hy107]; with_reducible exact H) | (have H2_ := (Option.bind_some _ _).symm.trans H; rw [hy107]; with_reducible exact H2_) | (have H2_ := (Option.bind_some _ _).symm.trans H; with_reducible exact H2_) | with_reducible exact H | (rw [hy107]; exact H) | exact H
       have Ny107 := Aside0.mk hy107
       clear hy107
       by_cases c9 : x3_1.length + y107.length < 140737488355328
       ·rw [if_pos c9] at H
        have LMc9 := Aside0.mk c9
        clear c9
        obtain ⟨y110, hy110⟩ : ∃ y_ : List Int, y_ = (x3_1 ++ y107) := ⟨_, rfl⟩
        replace H : (labels_quoted.l0 k1 a0 y110 (a0.size : Int) (wrap64 (x9_1 + 1))) = some r := by first | (rw [hy110]; with_reducible exact H) | (have H2_ := (Option.bind_some _ _).symm.trans H; rw [hy110]; with_reducible exact H2_) | (have H2_ := (Option.bind_some _ _).symm.trans H; with_reducible exact H2_) | with_reducible exact H | (rw [hy110]; exact H) | exact H
        have Ny110 := Aside0.mk hy110
        clear hy110
        have H' := Aside0.mk H
        clear H
        have p7 : 0 ≤ (x9_1 : Int) := of_decide_eq_true (by first | (with_reducible assumption) | assumption)
        have q7 : x9_1 < (a0.size : Int) := of_decide_eq_true (by first | (with_reducible assumption) | assumption)
        have hx7 := bt_at a0 x9_1
        replace p7 := eq_true p7
        replace q7 := eq_true q7
        go_wp2_with (first | ((with_reducible refine gate_dst (N := 22) rfl ?_); refine Kd.R_lit (Kd.int .u8) _ 5 ?hg (N := 22) ?hd (xs := ([92, 110] : List Int)) (inner := [.int .u8 92, .int .u8 110]) (ok := fun _ => True) (okp := fun _ => True) ?hr ?hp (fun _ hk => hk) trivial (Below.refl _ _) (Nat.le_refl _) (by simp) ?_; (case hd => rfl); (case hg => rfl); (case hr => first | (go_simp; done) | (go_simp; rfl)); (case hp => exact (Reps.one (show Kd.M (Kd.int .u8) _ _ _ 92 [.int .u8 92] from rfl) (Reps.one (show Kd.M (Kd.int .u8) _ _ _ 110 [.int .u8 110] from rfl) (Reps.none _ _)))); intro v108 w10 ho11 hb hg_ hnew_; clear hg_ hnew_; (first | rw [← Ny107.out] at ho11 | (simp only [Int.reduceToNat] at ho11; rw [← Ny107.out] at ho11)); have n0_ := Aside0.mk (Kd.R_elder' (by (with_reducible repeat (first | apply Kd.R_alloc | apply Kd.R_drewN | apply Kd.R_drew)); exact HO_3.out) (Kd.R_base ho11) hb); have n1_ := Aside0.mk (Kd.R_lower (Kd.R_new' ho11 (Kd.R_lt (by (with_reducible repeat (first | apply Kd.R_alloc | apply Kd.R_drewN | apply Kd.R_drew)); exact HO_3.out))) (below_size (by repeat (first | (with_reducible first | exact HB.out | apply below_alloc | apply pw_below_drewN | apply below_drew1) | exact HB.out)))); have n2_ := Aside0.mk (below_step (by repeat (first | (with_reducible first | exact HB.out | apply below_alloc | apply pw_below_drewN | apply below_drew1) | exact HB.out)) hb); clear HO_3; clear HB; have HO_3 := n0_; have HO109 := n1_; have HB := n2_; clear n0_ n1_ n2_; clear hb ho11; obtain ⟨Ao13, co13, eo13⟩ := Kd.R_slice HO109.out; subst eo13) | ((with_reducible refine gate_builtin (b := .append) (xs := #[.tmp 21, .tmp 22]) rfl ?_); at_builtin; refine Kd.R_append_rows (Kd.int .u8) (w0 := w) w.heap.size rfl (.tmp 21) (.tmp 22) 77 5 (.int .u8 0) 1 rfl Try.underlying77 info5 rfl (by decide) (by omega) u3 x3_1 y107 _ _ _ (fun k_ => some k_ ≠ (.slice Ao13 y107.length co13 : Value).ownBlock) (fun _ => False) rfl rfl ?aO ?aR (fun _ _ h => h) (fun _ h => h.elim) ?aF ?aB ?aS ?aL ?_; (case aR => repeat (first | exact (Kd.R_reads' HO109.out).2.2 | (with_reducible refine Kd.C_alloc ?_ _) | (with_reducible refine Kd.C_drewN ?_ _) | (with_reducible refine Kd.C_drew ?_))); (case aB => exact (by repeat (first | (with_reducible first | exact HB.out | apply below_alloc | apply pw_below_drewN | apply below_drew1) | exact HB.out))); (case aF => exact (fun k_ hk => Kd.fresh' (Kd.R_lt (by (with_reducible repeat (first | apply Kd.R_alloc | apply Kd.R_drewN | apply Kd.R_drew)); exact HO109.out)) k_ hk)); (case aO => exact (by (with_reducible repeat (first | apply Kd.R_alloc | apply Kd.R_drewN | apply Kd.R_drew)); exact Kd.R_mono HO_3.out (fun _ hk => hk.2))); (case aS => exact (below_size (by repeat (first | (with_reducible first | exact HB.out | apply below_alloc | apply pw_below_drewN | apply below_drew1) | exact HB.out)))); (case aL => have := LMc9.out; omega); intro v111 w12 ho hb hg hat; rw [← Ny110.out] at ho; have n0_ := Aside0.mk (Kd.R_after (ok := (fun _ => True)) (by (with_reducible repeat (first | apply Kd.R_alloc | apply Kd.R_drewN | apply Kd.R_drew)); exact HO109.out) hg hat); have n1_ := Aside0.mk (hb); have n2_ := Aside0.mk (ho); clear HO109; clear HB; clear HO_3; have HO109 := n0_; have HB := n1_; have HO112 := n2_; clear n0_ n1_ n2_; clear ho hb hg hat))
        go_roundg k1
        case measure => have := HK1.out; omega
        case rel => exact ⟨(y110), (wrap64 (x9_1 + 1)), (by first | rfl | (simp; done) | (simp [*]; done)), H', ⟨by have := HK1.out; omega⟩, ⟨by (with_reducible repeat (first | apply Kd.R_alloc | apply Kd.R_drewN | apply Kd.R_drew)); exact Kd.R_mono HO112.out (fun _ hk => trivial)⟩, ⟨by repeat (first | (with_reducible first | exact HB.out | apply below_alloc | apply pw_below_drewN | apply below_drew1) | exact HB.out)⟩⟩
       ·rw [if_neg c9] at H
        exact absurd H (by simp)
      ·rw [if_neg c8] at H
       have c8b0 : ((bt a0 x9_1) == 10) = false := beq_eq_false_iff_ne.mpr c8
       have c8b1 : ((bt a0 x9_1) != 10) = true := bne_iff_ne.mpr c8
       by_cases c14 : (bt a0 x9_1) = 34
       ·rw [if_pos c14] at H
        have c14b0 : ((bt a0 x9_1) == 34) = true := beq_iff_eq.mpr c14
        have c14b1 : ((bt a0 x9_1) != 34) = false := bne_eq_false_iff_eq.mpr c14
        clear c14
        by_cases c15 : x3_1.length < 140737488355328
        ·rw [if_pos c15] at H
         have LMc15 := Aside0.mk c15
         clear c15
         obtain ⟨y113, hy113⟩ : ∃ y_ : List Int, y_ = (x3_1 ++ [92]) := ⟨_, rfl⟩
         replace H : (if y113.length < 140737488355328 then (labels_quoted.l0 k1 a0 (y113 ++ [bt a0 x9_1]) (a0.size : Int) (wrap64 (x9_1 + 1))) else (none)) = some r := by first | (rw [hy113]; with_reducible exact H) | (have H2_ := (Option.bind_some _ _).symm.trans H; rw [hy113]; with_reducible exact H2_) | (have H2_ := (Option.bind_some _ _).symm.trans H; with_reducible exact H2_) | with_reducible exact H | (rw [hy113]; exact H) | exact H
         have Ny113 := Aside0.mk hy113
         clear hy113
         by_cases c16 : y113.length < 140737488355328
         ·rw [if_pos c16] at H
          have LMc16 := Aside0.mk c16
          clear c16
          obtain ⟨y116, hy116⟩ : ∃ y_ : List Int, y_ = (y113 ++ [bt a0 x9_1]) := ⟨_, rfl⟩
          replace H : (labels_quoted.l0 k1 a0 y116 (a0.size : Int) (wrap64 (x9_1 + 1))) = some r := by first | (rw [hy116]; with_reducible exact H) | (have H2_ := (Option.bind_some _ _).symm.trans H; rw [hy116]; with_reducible exact H2_) | (have H2_ := (Option.bind_some _ _).symm.trans H; with_reducible exact H2_) | with_reducible exact H | (rw [hy116]; exact H) | exact H
          have Ny116 := Aside0.mk hy116
          clear hy116
          have H' := Aside0.mk H
          clear H
          have p7 : 0 ≤ (x9_1 : Int) := of_decide_eq_true (by first | (with_reducible assumption) | assumption)
          have q7 : x9_1 < (a0.size : Int) := of_decide_eq_true (by first | (with_reducible assumption) | assumption)
          have hx7 := bt_at a0 x9_1
          replace p7 := eq_true p7
          replace q7 := eq_true q7
          go_wp2_with (first | ((with_reducible refine gate_builtin (b := .append) (xs := #[.tmp 24, .tmp 25]) rfl ?_); at_builtin; refine Kd.R_append (Kd.int .u8) (w0 := w) w.heap.size rfl (.tmp 24) (.tmp 25) 77 5 (.int .u8 0) 1 rfl Try.underlying77 info5 rfl (by decide) (by omega) u3 x3_1 92 [.int .u8 92] (fun _ => True) (fun _ => False) rfl rfl ?aP (fun _ hk => hk.elim) ?aF ?aO ?aB ?aS ?aL ?_; (case aP => exact rfl); (case aB => exact (by repeat (first | (with_reducible first | exact HB.out | apply below_alloc | apply pw_below_drewN | apply below_drew1) | exact HB.out))); (case aF => exact (fun _ _ => trivial)); (case aO => exact (by (with_reducible repeat (first | apply Kd.R_alloc | apply Kd.R_drewN | apply Kd.R_drew)); exact HO_3.out)); (case aS => exact (below_size (by repeat (first | (with_reducible first | exact HB.out | apply below_alloc | apply pw_below_drewN | apply below_drew1) | exact HB.out)))); (case aL => have := LMc15.out; omega); intro v114 w17 ho hb hg hat; rw [← Ny113.out] at ho; have n0_ := Aside0.mk (hb); have n1_ := Aside0.mk (ho); clear HB; clear HO_3; have HB := n0_; have HO115 := n1_; clear n0_ n1_; clear ho hb hg hat) | ((with_reducible refine gate_builtin (b := .append) (xs := #[.tmp 27, .tmp 29]) rfl ?_); at_builtin; refine Kd.R_append (Kd.int .u8) (w0 := w) w.heap.size rfl (.tmp 27) (.tmp 29) 77 5 (.int .u8 0) 1 rfl Try.underlying77 info5 rfl (by decide) (by omega) v114 y113 (bt a0 x9_1) [.int .u8 (bt a0 x9_1)] (fun _ => True) (fun _ => False) rfl rfl ?aP (fun _ hk => hk.elim) ?aF ?aO ?aB ?aS ?aL ?_; (case aP => exact rfl); (case aB => exact (by repeat (first | (with_reducible first | exact HB.out | apply below_alloc | apply pw_below_drewN | apply below_drew1) | exact HB.out))); (case aF => exact (fun _ _ => trivial)); (case aO => exact (by (with_reducible repeat (first | apply Kd.R_alloc | apply Kd.R_drewN | apply Kd.R_drew)); exact HO115.out)); (case aS => exact (below_size (by repeat (first | (with_reducible first | exact HB.out | apply below_alloc | apply pw_below_drewN | apply below_drew1) | exact HB.out)))); (case aL => have := LMc16.out; omega); intro v117 w18 ho hb hg hat; rw [← Ny116.out] at ho; have n0_ := Aside0.mk (hb); have n1_ := Aside0.mk (ho); clear HB; clear HO115; have HB := n0_; have HO118 := n1_; clear n0_ n1_; clear ho hb hg hat))
          go_roundg k1
          case measure => have := HK1.out; omega
          case rel => exact ⟨(y116), (wrap64 (x9_1 + 1)), (by first | rfl | (simp; done) | (simp [*]; done)), H', ⟨by have := HK1.out; omega⟩, ⟨by (with_reducible repeat (first | apply Kd.R_alloc | apply Kd.R_drewN | apply Kd.R_drew)); exact HO118.out⟩, ⟨by repeat (first | (with_reducible first | exact HB.out | apply below_alloc | apply pw_below_drewN | apply below_drew1) | exact HB.out)⟩⟩
         ·rw [if_neg c16] at H
          exact absurd H (by simp)
        ·rw [if_neg c15] at H
         exact absurd H (by simp)
       ·rw [if_neg c14] at H
        have c14b0 : ((bt a0 x9_1) == 34) = false := beq_eq_false_iff_ne.mpr c14
        have c14b1 : ((bt a0 x9_1) != 34) = true := bne_iff_ne.mpr c14
        by_cases c19 : (bt a0 x9_1) = 92
        ·rw [if_pos c19] at H
         have c19b0 : ((bt a0 x9_1) == 92) = true := beq_iff_eq.mpr c19
         have c19b1 : ((bt a0 x9_1) != 92) = false := bne_eq_false_iff_eq.mpr c19
         clear c19
         by_cases c20 : x3_1.length < 140737488355328
         ·rw [if_pos c20] at H
          have LMc20 := Aside0.mk c20
          clear c20
          obtain ⟨y119, hy119⟩ : ∃ y_ : List Int, y_ = (x3_1 ++ [92]) := ⟨_, rfl⟩
          replace H : (if y119.length < 140737488355328 then (labels_quoted.l0 k1 a0 (y119 ++ [bt a0 x9_1]) (a0.size : Int) (wrap64 (x9_1 + 1))) else (none)) = some r := by first | (rw [hy119]; with_reducible exact H) | (have H2_ := (Option.bind_some _ _).symm.trans H; rw [hy119]; with_reducible exact H2_) | (have H2_ := (Option.bind_some _ _).symm.trans H; with_reducible exact H2_) | with_reducible exact H | (rw [hy119]; exact H) | exact H
          have Ny119 := Aside0.mk hy119
          clear hy119
          by_cases c21 : y119.length < 140737488355328
          ·rw [if_pos c21] at H
           have LMc21 := Aside0.mk c21
           clear c21
           obtain ⟨y122, hy122⟩ : ∃ y_ : List Int, y_ = (y119 ++ [bt a0 x9_1]) := ⟨_, rfl⟩
           replace H : (labels_quoted.l0 k1 a0 y122 (a0.size : Int) (wrap64 (x9_1 + 1))) = some r := by first | (rw [hy122]; with_reducible exact H) | (have H2_ := (Option.bind_some _ _).symm.trans H; rw [hy122]; with_reducible exact H2_) | (have H2_ := (Option.bind_some _ _).symm.trans H; with_reducible exact H2_) | with_reducible exact H | (rw [hy122]; exact H) | exact H
           have Ny122 := Aside0.mk hy122
           clear hy122
           have H' := Aside0.mk H
           clear H
           have p7 : 0 ≤ (x9_1 : Int) := of_decide_eq_true (by first | (with_reducible assumption) | assumption)
           have q7 : x9_1 < (a0.size : Int) := of_decide_eq_true (by first | (with_reducible assumption) | assumption)
           have hx7 := bt_at a0 x9_1
           replace p7 := eq_true p7
           replace q7 := eq_true q7
           go_wp2_with (first | ((with_reducible refine gate_builtin (b := .append) (xs := #[.tmp 24, .tmp 25]) rfl ?_); at_builtin; refine Kd.R_append (Kd.int .u8) (w0 := w) w.heap.size rfl (.tmp 24) (.tmp 25) 77 5 (.int .u8 0) 1 rfl Try.underlying77 info5 rfl (by decide) (by omega) u3 x3_1 92 [.int .u8 92] (fun _ => True) (fun _ => False) rfl rfl ?aP (fun _ hk => hk.elim) ?aF ?aO ?aB ?aS ?aL ?_; (case aP => exact rfl); (case aB => exact (by repeat (first | (with_reducible first | exact HB.out | apply below_alloc | apply pw_below_drewN | apply below_drew1) | exact HB.out))); (case aF => exact (fun _ _ => trivial)); (case aO => exact (by (with_reducible repeat (first | apply Kd.R_alloc | apply Kd.R_drewN | apply Kd.R_drew)); exact HO_3.out)); (case aS => exact (below_size (by repeat (first | (with_reducible first | exact HB.out | apply below_alloc | apply pw_below_drewN | apply below_drew1) | exact HB.out)))); (case aL => have := LMc20.out; omega); intro v120 w22 ho hb hg hat; rw [← Ny119.out] at ho; have n0_ := Aside0.mk (hb); have n1_ := Aside0.mk (ho); clear HB; clear HO_3; have HB := n0_; have HO121 := n1_; clear n0_ n1_; clear ho hb hg hat) | ((with_reducible refine gate_builtin (b := .append) (xs := #[.tmp 27, .tmp 29]) rfl ?_); at_builtin; refine Kd.R_append (Kd.int .u8) (w0 := w) w.heap.size rfl (.tmp 27) (.tmp 29) 77 5 (.int .u8 0) 1 rfl Try.underlying77 info5 rfl (by decide) (by omega) v120 y119 (bt a0 x9_1) [.int .u8 (bt a0 x9_1)] (fun _ => True) (fun _ => False) rfl rfl ?aP (fun _ hk => hk.elim) ?aF ?aO ?aB ?aS ?aL ?_; (case aP => exact rfl); (case aB => exact (by repeat (first | (with_reducible first | exact HB.out | apply below_alloc | apply pw_below_drewN | apply below_drew1) | exact HB.out))); (case aF => exact (fun _ _ => trivial)); (case aO => exact (by (with_reducible repeat (first | apply Kd.R_alloc | apply Kd.R_drewN | apply Kd.R_drew)); exact HO121.out)); (case aS => exact (below_size (by repeat (first | (with_reducible first | exact HB.out | apply below_alloc | apply pw_below_drewN | apply below_drew1) | exact HB.out)))); (case aL => have := LMc21.out; omega); intro v123 w23 ho hb hg hat; rw [← Ny122.out] at ho; have n0_ := Aside0.mk (hb); have n1_ := Aside0.mk (ho); clear HB; clear HO121; have HB := n0_; have HO124 := n1_; clear n0_ n1_; clear ho hb hg hat))
           go_roundg k1
           case measure => have := HK1.out; omega
           case rel => exact ⟨(y122), (wrap64 (x9_1 + 1)), (by first | rfl | (simp; done) | (simp [*]; done)), H', ⟨by have := HK1.out; omega⟩, ⟨by (with_reducible repeat (first | apply Kd.R_alloc | apply Kd.R_drewN | apply Kd.R_drew)); exact HO124.out⟩, ⟨by repeat (first | (with_reducible first | exact HB.out | apply below_alloc | apply pw_below_drewN | apply below_drew1) | exact HB.out)⟩⟩
          ·rw [if_neg c21] at H
           exact absurd H (by simp)
         ·rw [if_neg c20] at H
          exact absurd H (by simp)
        ·rw [if_neg c19] at H
         have c19b0 : ((bt a0 x9_1) == 92) = false := beq_eq_false_iff_ne.mpr c19
         have c19b1 : ((bt a0 x9_1) != 92) = true := bne_iff_ne.mpr c19
         by_cases c24 : x3_1.length < 140737488355328
         ·rw [if_pos c24] at H
          have LMc24 := Aside0.mk c24
          clear c24
          obtain ⟨y125, hy125⟩ : ∃ y_ : List Int, y_ = (x3_1 ++ [bt a0 x9_1]) := ⟨_, rfl⟩
          replace H : (labels_quoted.l0 k1 a0 y125 (a0.size : Int) (wrap64 (x9_1 + 1))) = some r := by first | (rw [hy125]; with_reducible exact H) | (have H2_ := (Option.bind_some _ _).symm.trans H; rw [hy125]; with_reducible exact H2_) | (have H2_ := (Option.bind_some _ _).symm.trans H; with_reducible exact H2_) | with_reducible exact H | (rw [hy125]; exact H) | exact H
          have Ny125 := Aside0.mk hy125
          clear hy125
          have H' := Aside0.mk H
          clear H
          have p7 : 0 ≤ (x9_1 : Int) := of_decide_eq_true (by first | (with_reducible assumption) | assumption)
          have q7 : x9_1 < (a0.size : Int) := of_decide_eq_true (by first | (with_reducible assumption) | assumption)
          have hx7 := bt_at a0 x9_1
          replace p7 := eq_true p7
          replace q7 := eq_true q7
          go_wp2_with (first | ((with_reducible refine gate_builtin (b := .append) (xs := #[.tmp 27, .tmp 29]) rfl ?_); at_builtin; refine Kd.R_append (Kd.int .u8) (w0 := w) w.heap.size rfl (.tmp 27) (.tmp 29) 77 5 (.int .u8 0) 1 rfl Try.underlying77 info5 rfl (by decide) (by omega) u3 x3_1 (bt a0 x9_1) [.int .u8 (bt a0 x9_1)] (fun _ => True) (fun _ => False) rfl rfl ?aP (fun _ hk => hk.elim) ?aF ?aO ?aB ?aS ?aL ?_; (case aP => exact rfl); (case aB => exact (by repeat (first | (with_reducible first | exact HB.out | apply below_alloc | apply pw_below_drewN | apply below_drew1) | exact HB.out))); (case aF => exact (fun _ _ => trivial)); (case aO => exact (by (with_reducible repeat (first | apply Kd.R_alloc | apply Kd.R_drewN | apply Kd.R_drew)); exact HO_3.out)); (case aS => exact (below_size (by repeat (first | (with_reducible first | exact HB.out | apply below_alloc | apply pw_below_drewN | apply below_drew1) | exact HB.out)))); (case aL => have := LMc24.out; omega); intro v126 w25 ho hb hg hat; rw [← Ny125.out] at ho; have n0_ := Aside0.mk (hb); have n1_ := Aside0.mk (ho); clear HB; clear HO_3; have HB := n0_; have HO127 := n1_; clear n0_ n1_; clear ho hb hg hat))
          go_roundg k1
          case measure => have := HK1.out; omega
          case rel => exact ⟨(y125), (wrap64 (x9_1 + 1)), (by first | rfl | (simp; done) | (simp [*]; done)), H', ⟨by have := HK1.out; omega⟩, ⟨by (with_reducible repeat (first | apply Kd.R_alloc | apply Kd.R_drewN | apply Kd.R_drew)); exact HO127.out⟩, ⟨by repeat (first | (with_reducible first | exact HB.out | apply below_alloc | apply pw_below_drewN | apply below_drew1) | exact HB.out)⟩⟩
         ·rw [if_neg c24] at H
          exact absurd H (by simp)
     ·rw [if_neg c6] at H
      exact absurd H (by simp)
    ·rw [if_neg c5] at H
     exact absurd H (by simp)
   ·rw [if_neg c4] at H
    have c4b0 : decide (x9_1 < (a0.size : Int)) = false := decide_eq_false c4
    clear c4
    by_cases c26 : x3_1.length < 140737488355328
    ·rw [if_pos c26] at H
     have LMc26 := Aside0.mk c26
     clear c26
     obtain ⟨y104, hy104⟩ : ∃ y_ : List Int, y_ = (x3_1 ++ [34]) := ⟨_, rfl⟩
     replace H : (some (strOfNums y104)) = some r := by first | (rw [hy104]; with_reducible exact H) | (have H2_ := (Option.bind_some _ _).symm.trans H; rw [hy104]; with_reducible exact H2_) | (have H2_ := (Option.bind_some _ _).symm.trans H; with_reducible exact H2_) | with_reducible exact H | (rw [hy104]; exact H) | exact H
     have Ny104 := Aside0.mk hy104
     clear hy104
     obtain rfl := Option.some.inj H
     go_wp2_with (first | ((with_reducible refine gate_builtin (b := .append) (xs := #[.tmp 32, .tmp 33]) rfl ?_); at_builtin; refine Kd.R_append (Kd.int .u8) (w0 := w) w.heap.size rfl (.tmp 32) (.tmp 33) 77 5 (.int .u8 0) 1 rfl Try.underlying77 info5 rfl (by decide) (by omega) u3 x3_1 34 [.int .u8 34] (fun _ => True) (fun _ => False) rfl rfl ?aP (fun _ hk => hk.elim) ?aF ?aO ?aB ?aS ?aL ?_; (case aP => exact rfl); (case aB => exact (by repeat (first | (with_reducible first | exact HB.out | apply below_alloc | apply pw_below_drewN | apply below_drew1) | exact HB.out))); (case aF => exact (fun _ _ => trivial)); (case aO => exact (by (with_reducible repeat (first | apply Kd.R_alloc | apply Kd.R_drewN | apply Kd.R_drew)); exact HO_3.out)); (case aS => exact (below_size (by repeat (first | (with_reducible first | exact HB.out | apply below_alloc | apply pw_below_drewN | apply below_drew1) | exact HB.out)))); (case aL => have := LMc26.out; omega); intro v105 w27 ho hb hg hat; rw [← Ny104.out] at ho; have n0_ := Aside0.mk (hb); have n1_ := Aside0.mk (ho); clear HB; clear HO_3; have HB := n0_; have HO106 := n1_; clear n0_ n1_; clear ho hb hg hat; have hcv28 := own_string (P := Try.prog) Try.underlying77 Try.underlying5 Try.underlying9 (Kd.own_of_R HO106.out)))
     go_ret
     exact ⟨by first | rfl | (simp [errW_none, errW_some] <;> rfl) | (simp [*, errW_none, errW_some] <;> rfl), by repeat (first | (with_reducible first | exact HB.out | apply below_alloc | apply pw_below_drewN | apply below_drew1) | exact HB.out)⟩
    ·rw [if_neg c26] at H
     exact absurd H (by simp)
mutual
def labels_CheckMatchers.l0 : Nat → List (S42) → Int → Int → Option (Int)
 | 0, _, _, _ => none
 | k + 1, x9, x10, x11 => if x11 < x10 then (if 0 ≤ x11 then (if x11 < (x9.length : Int) then (if ((rd_T42 x9 x11).f0) < 0 then (labels_CheckMatchers.j1 k x9 x10 x11 true ((rd_T42 x9 x11).f0) ((rd_T42 x9 x11).f1) ((rd_T42 x9 x11).f2)) else (labels_CheckMatchers.j1 k x9 x10 x11 (decide (((rd_T42 x9 x11).f0) > 3)) ((rd_T42 x9 x11).f0) ((rd_T42 x9 x11).f1) ((rd_T42 x9 x11).f2))) else (none)) else (none)) else (some 0)
def labels_CheckMatchers.j1 : Nat → List (S42) → Int → Int → Bool → Int → ByteArray → ByteArray → Option (Int)
 | 0, _, _, _, _, _, _, _ => none
 | k + 1, x9, x10, x11, x22, x103000, x103001, x103002 => if x22 = true then (some 11) else ((labels_part.f k x103001 x103002).bind fun t103 => (if t103 = 0 then (labels_CheckMatchers.l0 k x9 x10 (wrap64 (x11 + 1))) else (some t103)))
end
def labels_CheckMatchers.f (k : Nat) (l0 : List (S42)) : Option (Int) := if (l0.length : Int) > 16 then (some 12) else (labels_CheckMatchers.l0 k l0 (l0.length : Int) 0)
set_option maxHeartbeats 8000000 in
set_option maxRecDepth 100000 in
theorem labels_CheckMatchers.calls (k : Nat) (A0 : Option Addr) (c0 : Nat) (l0 : List (S42)) (r : Int) (w : World) (hr0 : Kd.C k42 w A0 l0.length l0) (hc0 : l0.length ≤ c0) (h : labels_CheckMatchers.f k l0 = some r) :
  Calls Try.prog 27 #[.slice A0 l0.length c0] w fun e w' => e = .returned (.int .i64 r) ∧ Below w.heap.size w w' := by
 have hu42 := Try.underlying42
 have HR0 := Aside0.mk hr0
 have HC0 := Aside0.mk hc0
 clear hr0 hc0
 have HB := Aside0.mk (Below.refl w.heap.size w)
 have H : (if (l0.length : Int) > 16 then (some 12) else (labels_CheckMatchers.l0 k l0 (l0.length : Int) 0)) = some r := h
 clear h
 by_cases c2 : (l0.length : Int) > 16
 ·rw [if_pos c2] at H
  have c2b0 : decide (16 < (l0.length : Int)) = true := decide_eq_true c2
  have c2b1 : decide (16 < l0.length) = true := decide_eq_true (by omega)
  clear c2
  obtain rfl := Option.some.inj H
  go_enter Try.func27, Try.ntmps27
  go_wp2
  go_ret
  exact ⟨by first | rfl | (simp [errW_none, errW_some] <;> rfl) | (simp [*, errW_none, errW_some] <;> rfl), by repeat (first | (with_reducible first | exact HB.out | apply below_alloc | apply pw_below_drewN | apply below_drew1) | exact HB.out)⟩
 ·rw [if_neg c2] at H
  have c2b0 : decide (16 < (l0.length : Int)) = false := decide_eq_false c2
  have c2b1 : decide (16 < l0.length) = false := decide_eq_false (by omega)
  clear c2
  have H' := Aside0.mk H
  clear H
  go_enter Try.func27, Try.ntmps27
  go_wp2
  go_loopg [11] k (fun kq v11 w' => ∃ (x11_1 : Int), v11 = .int .i64 x11_1 ∧ Aside0 (labels_CheckMatchers.l0 kq l0 (l0.length : Int) x11_1 = some r) ∧ Aside0 (kq ≤ k) ∧ Aside0 (Below w.heap.size w w'))
  case atStart => exact ⟨(0), (by first | rfl | (simp; done) | (simp [*]; done)), H', ⟨Nat.le_refl _⟩, ⟨by repeat (first | (with_reducible first | exact HB.out | apply below_alloc | apply pw_below_drewN | apply below_drew1) | exact HB.out)⟩⟩
  case round =>
   clear H'
   try clear c2
   try clear c2b0
   try clear c2b1
   try clear p2
   obtain ⟨x11_1, rfl, HA, HK1, HB⟩ := hrel
   cases gk with
   | zero => exact absurd HA.out (by simp [labels_CheckMatchers.l0])
   | succ k1 =>
    have H := HA.out
    clear HA
    simp only [labels_CheckMatchers.l0] at H
    by_cases c3 : x11_1 < (l0.length : Int)
    ·rw [if_pos c3] at H
     have c3b0 : decide (x11_1 < (l0.length : Int)) = true := decide_eq_true c3
     clear c3
     by_cases c4 : 0 ≤ x11_1
     ·rw [if_pos c4] at H
      have c4b0 : decide (0 ≤ x11_1) = true := decide_eq_true c4
      clear c4
      by_cases c5 : x11_1 < (l0.length : Int)
      ·rw [if_pos c5] at H
       have c5b0 : decide (x11_1 < (l0.length : Int)) = true := decide_eq_true c5
       clear c5
       have HC6 := Aside0.mk H
       clear H
       have p101 : 0 ≤ (x11_1 : Int) := of_decide_eq_true (by first | (with_reducible assumption) | assumption)
       have q101 : x11_1 < (l0.length : Int) := of_decide_eq_true (by first | (with_reducible assumption) | assumption)
       obtain ⟨ad101, e101, hx101_0, hx101_1, hx101_2⟩ := at_T42 HR0.out x11_1 p101 q101
       cases e101
       replace hx101_0 := (HB.out.cell (World.block_lt_of_cell? w _ hx101_0)).trans hx101_0
       replace hx101_1 := (HB.out.cell (World.block_lt_of_cell? w _ hx101_1)).trans hx101_1
       replace hx101_2 := (HB.out.cell (World.block_lt_of_cell? w _ hx101_2)).trans hx101_2
       replace p101 := eq_true p101
       replace q101 := eq_true q101
       go_upto_region 6 with (first | ((with_reducible refine gate_dst (N := 4) rfl ?_); refine box_event ?hg (N := 4) ?hd (cs := #[.int .i64 0, .string (⟨#[]⟩ : ByteArray), .string (⟨#[]⟩ : ByteArray)]) (t := 42) ?hr ?_; (case hd => rfl); (case hg => rfl); (case hr => first | (go_simp; done) | (go_simp; rfl)); intro gb102 hg w7 hbox hb; have n0_ := Aside0.mk (below_step (by repeat (first | (with_reducible first | exact HB.out | apply below_alloc | apply pw_below_drewN | apply below_drew1) | exact HB.out)) hb); have n1_ := Aside0.mk (hbox); have n2_ := Aside0.mk ((by rw [hg]; exact (below_size (by repeat (first | (with_reducible first | exact HB.out | apply below_alloc | apply pw_below_drewN | apply below_drew1) | exact HB.out))) : w.heap.size ≤ gb102)); have n3_ := Aside0.mk ((by rw [hg]; exact (below_size (by repeat (first | (with_reducible first | exact HB.out | apply below_alloc | apply pw_below_drewN | apply below_drew1) | exact HB.out))) : w.heap.size ≤ gb102)); clear HB; have HB := n0_; have BK102 := n1_; have GW102 := n2_; have GE102 := n3_; clear n0_ n1_ n2_ n3_; clear hb hbox hg; have hcz8_0 : w7.cell? ⟨gb102, 0, none⟩ = some (.int .i64 0) := (blk_cell BK102.out 0).trans rfl; have hcz8_1 : w7.cell? ⟨gb102, 1, none⟩ = some (.string (⟨#[]⟩ : ByteArray)) := (blk_cell BK102.out 1).trans rfl; have hcz8_2 : w7.cell? ⟨gb102, 2, none⟩ = some (.string (⟨#[]⟩ : ByteArray)) := (blk_cell BK102.out 2).trans rfl; have hfz8_0 := blk_frozen BK102.out 0; have hfz8_1 := blk_frozen BK102.out 1; have hfz8_2 := blk_frozen BK102.out 2))
       (try simp only [Act.put, List.setIfInBounds_toArray, List.set_cons_zero, List.set_cons_succ])
       go_cut [22] (fun v22 wc => ∃ (kq : Nat) (x22_5 : Bool), v22 = .bool x22_5 ∧ Aside0 (labels_CheckMatchers.j1 kq l0 (l0.length : Int) x11_1 x22_5 ((rd_T42 l0 x11_1).f0) ((rd_T42 l0 x11_1).f1) ((rd_T42 l0 x11_1).f2) = some r) ∧ Aside0 (kq ≤ k1) ∧ Aside0 (wc.heap[gb102]? = some (.cells #[.int .i64 ((rd_T42 l0 x11_1).f0), .string ((rd_T42 l0 x11_1).f1), .string ((rd_T42 l0 x11_1).f2)] 42 (0, 0))) ∧ Aside0 (Below w.heap.size w wc))
       case first =>
        have H := HC6.out
        clear HC6
        by_cases c9 : ((rd_T42 l0 x11_1).f0) < 0
        ·rw [if_pos c9] at H
         have c9b0 : decide (((rd_T42 l0 x11_1).f0) < 0) = true := decide_eq_true c9
         clear c9
         (first | rw [c9b0] | (simp only [i64_w, i32_w]; rw [c9b0]) | skip)
         have H' := Aside0.mk H
         clear H
         have hcz10_0 : w7.cell? ⟨gb102, 0, none⟩ = some (.int .i64 0) := (blk_cell BK102.out 0).trans rfl
         have hcz10_1 : w7.cell? ⟨gb102, 1, none⟩ = some (.string (⟨#[]⟩ : ByteArray)) := (blk_cell BK102.out 1).trans rfl
         have hcz10_2 : w7.cell? ⟨gb102, 2, none⟩ = some (.string (⟨#[]⟩ : ByteArray)) := (blk_cell BK102.out 2).trans rfl
         have hfz10_0 := blk_frozen BK102.out 0
         have hfz10_1 := blk_frozen BK102.out 1
         have hfz10_2 := blk_frozen BK102.out 2
         go_wp2
         go_meet
         case rel => exact ⟨_, (true), (by first | rfl | (simp; done) | (simp [*]; done)), H', ⟨by have := HK1.out; first | omega | exact Nat.le_refl _⟩, ⟨by (with_reducible repeat (first | refine blk_drewN ?_ _ | refine blk_drew ?_ | refine blk_alloc ?_ _)); refine blk_put (cs := #[.int .i64 ((rd_T42 l0 x11_1).f0), .string ((rd_T42 l0 x11_1).f1), .string (⟨#[]⟩ : ByteArray)]) ?_ 2 _ rfl; (with_reducible repeat (first | refine blk_drewN ?_ _ | refine blk_drew ?_ | refine blk_alloc ?_ _)); refine blk_put (cs := #[.int .i64 ((rd_T42 l0 x11_1).f0), .string (⟨#[]⟩ : ByteArray), .string (⟨#[]⟩ : ByteArray)]) ?_ 1 _ rfl; (with_reducible repeat (first | refine blk_drewN ?_ _ | refine blk_drew ?_ | refine blk_alloc ?_ _)); refine blk_put (cs := #[.int .i64 0, .string (⟨#[]⟩ : ByteArray), .string (⟨#[]⟩ : ByteArray)]) ?_ 0 _ rfl; (with_reducible repeat (first | refine blk_drewN ?_ _ | refine blk_drew ?_ | refine blk_alloc ?_ _)); exact BK102.out⟩, ⟨by repeat (first | (with_reducible first | exact HB.out | apply below_alloc | apply pw_below_drewN | apply below_drew1 | refine below_set ?_ GE102.out) | exact HB.out)⟩⟩
        ·rw [if_neg c9] at H
         have c9b0 : decide (((rd_T42 l0 x11_1).f0) < 0) = false := decide_eq_false c9
         clear c9
         (first | rw [c9b0] | (simp only [i64_w, i32_w]; rw [c9b0]) | skip)
         have H' := Aside0.mk H
         clear H
         have hcz11_0 : w7.cell? ⟨gb102, 0, none⟩ = some (.int .i64 0) := (blk_cell BK102.out 0).trans rfl
         have hcz11_1 : w7.cell? ⟨gb102, 1, none⟩ = some (.string (⟨#[]⟩ : ByteArray)) := (blk_cell BK102.out 1).trans rfl
         have hcz11_2 : w7.cell? ⟨gb102, 2, none⟩ = some (.string (⟨#[]⟩ : ByteArray)) := (blk_cell BK102.out 2).trans rfl
         have hfz11_0 := blk_frozen BK102.out 0
         have hfz11_1 := blk_frozen BK102.out 1
         have hfz11_2 := blk_frozen BK102.out 2
         go_wp2
         go_meet
         case rel => exact ⟨_, (decide (((rd_T42 l0 x11_1).f0) > 3)), (by first | rfl | (simp; done) | (simp [*]; done)), H', ⟨by have := HK1.out; first | omega | exact Nat.le_refl _⟩, ⟨by (with_reducible repeat (first | refine blk_drewN ?_ _ | refine blk_drew ?_ | refine blk_alloc ?_ _)); refine blk_put (cs := #[.int .i64 ((rd_T42 l0 x11_1).f0), .string ((rd_T42 l0 x11_1).f1), .string (⟨#[]⟩ : ByteArray)]) ?_ 2 _ rfl; (with_reducible repeat (first | refine blk_drewN ?_ _ | refine blk_drew ?_ | refine blk_alloc ?_ _)); refine blk_put (cs := #[.int .i64 ((rd_T42 l0 x11_1).f0), .string (⟨#[]⟩ : ByteArray), .string (⟨#[]⟩ : ByteArray)]) ?_ 1 _ rfl; (with_reducible repeat (first | refine blk_drewN ?_ _ | refine blk_drew ?_ | refine blk_alloc ?_ _)); refine blk_put (cs := #[.int .i64 0, .string (⟨#[]⟩ : ByteArray), .string (⟨#[]⟩ : ByteArray)]) ?_ 0 _ rfl; (with_reducible repeat (first | refine blk_drewN ?_ _ | refine blk_drew ?_ | refine blk_alloc ?_ _)); exact BK102.out⟩, ⟨by repeat (first | (with_reducible first | exact HB.out | apply below_alloc | apply pw_below_drewN | apply below_drew1 | refine below_set ?_ GE102.out) | exact HB.out)⟩⟩
       case rest =>
        clear HC6
        try clear p1
        try clear q1
        try clear hx1
        try clear c2
        try clear c2b0
        try clear c2b1
        try clear p2
        try clear c3
        try clear c3b0
        try clear c4
        try clear c4b0
        try clear c5
        try clear c5b0
        try clear c9
        try clear c9b0
        try clear p10
        try clear q10
        try clear hx10
        try clear hcz10_0
        try clear hcz10_1
        try clear hcz10_2
        try clear hcz11_0
        try clear hcz11_1
        try clear hcz11_2
        try clear hcz8_0
        try clear hcz8_1
        try clear hcz8_2
        try clear hfz10_0
        try clear hfz10_1
        try clear hfz10_2
        try clear hfz11_0
        try clear hfz11_1
        try clear hfz11_2
        try clear hfz8_0
        try clear hfz8_1
        try clear hfz8_2
        try clear hx101_0
        try clear hx101_1
        try clear hx101_2
        try clear p101
        try clear p2
        try clear q101
        obtain ⟨kq, x22_5, rfl, HA, HJ5, BK102, HB⟩ := hcut
        cases kq with
        | zero => exact absurd HA.out (by simp [labels_CheckMatchers.j1])
        | succ kj5 =>
         have H := HA.out
         clear HA
         simp only [labels_CheckMatchers.j1] at H
         by_cases c12 : x22_5 = true
         ·subst c12
          have H1 : (some 11) = some r := by rw [if_pos rfl] at H; exact H
          clear H
          have H := H1
          clear H1
          obtain rfl := Option.some.inj H
          go_wp2
          go_ret
          exact ⟨by first | rfl | (simp [errW_none, errW_some] <;> rfl) | (simp [*, errW_none, errW_some] <;> rfl), by repeat (first | (with_reducible first | exact HB.out | apply below_alloc | apply pw_below_drewN | apply below_drew1 | refine below_set ?_ GE102.out) | exact HB.out)⟩
         ·replace c12 := Bool.eq_false_iff.mpr c12
          subst c12
          have H1 : ((labels_part.f kj5 ((rd_T42 l0 x11_1).f1) ((rd_T42 l0 x11_1).f2)).bind fun t103 => (if t103 = 0 then (labels_CheckMatchers.l0 kj5 l0 (l0.length : Int) (wrap64 (x11_1 + 1))) else (some t103))) = some r := by rw [if_neg (show ¬ (false = true) by decide)] at H; exact H
          clear H
          have H := H1
          clear H1
          replace H := Option.bind_eq_some_iff.mp H
          obtain ⟨t103, A130, H⟩ := H
          replace H : (if t103 = 0 then (labels_CheckMatchers.l0 kj5 l0 (l0.length : Int) (wrap64 (x11_1 + 1))) else (some t103)) = some r := H
          have A13 := Aside0.mk A130
          clear A130
          by_cases c14 : t103 = 0
          ·rw [if_pos c14] at H
           have c14b0 : (t103 == 0) = true := beq_iff_eq.mpr c14
           have c14b1 : (t103 != 0) = false := bne_eq_false_iff_eq.mpr c14
           clear c14
           have H' := Aside0.mk H
           clear H
           have hcz15_0 : wc.cell? ⟨gb102, 0, none⟩ = some (.int .i64 ((rd_T42 l0 x11_1).f0)) := (blk_cell BK102.out 0).trans rfl
           have hcz15_1 : wc.cell? ⟨gb102, 1, none⟩ = some (.string ((rd_T42 l0 x11_1).f1)) := (blk_cell BK102.out 1).trans rfl
           have hcz15_2 : wc.cell? ⟨gb102, 2, none⟩ = some (.string ((rd_T42 l0 x11_1).f2)) := (blk_cell BK102.out 2).trans rfl
           have hfz15_0 := blk_frozen BK102.out 0
           have hfz15_1 := blk_frozen BK102.out 1
           have hfz15_2 := blk_frozen BK102.out 2
           go_wp2_with (first | ((with_reducible refine gate_callee (f := 31) rfl ?_); refine goesL_ (some 27) rfl rfl Try.func31 (by kernel_rfl) rfl #[.string ((rd_T42 l0 x11_1).f1), .string ((rd_T42 l0 x11_1).f2)] rfl (by (try simp only [List.map_toArray, List.map_cons, List.map_nil]); first | done | rfl | (simp only [List.length_drop, List.length_take]; rfl)) ?_; (with_reducible refine (labels_part.calls kj5 ((rd_T42 l0 x11_1).f1) ((rd_T42 l0 x11_1).f2) t103 _ A13.out).mono ?_); rintro e w' ⟨rfl, ⟨nd, rfl⟩⟩; refine ⟨_, rfl, ?_⟩; clear A13))
           go_roundg kj5
           case measure => have := HK1.out; have := HJ5.out; omega
           case rel => exact ⟨(wrap64 (x11_1 + 1)), (by first | rfl | (simp; done) | (simp [*]; done)), H', ⟨by have := HK1.out; have := HJ5.out; omega⟩, ⟨by repeat (first | (with_reducible first | exact HB.out | apply below_alloc | apply pw_below_drewN | apply below_drew1 | refine below_set ?_ GE102.out) | exact HB.out)⟩⟩
          ·rw [if_neg c14] at H
           have c14b0 : (t103 == 0) = false := beq_eq_false_iff_ne.mpr c14
           have c14b1 : (t103 != 0) = true := bne_iff_ne.mpr c14
           obtain rfl := Option.some.inj H
           have hcz16_0 : wc.cell? ⟨gb102, 0, none⟩ = some (.int .i64 ((rd_T42 l0 x11_1).f0)) := (blk_cell BK102.out 0).trans rfl
           have hcz16_1 : wc.cell? ⟨gb102, 1, none⟩ = some (.string ((rd_T42 l0 x11_1).f1)) := (blk_cell BK102.out 1).trans rfl
           have hcz16_2 : wc.cell? ⟨gb102, 2, none⟩ = some (.string ((rd_T42 l0 x11_1).f2)) := (blk_cell BK102.out 2).trans rfl
           have hfz16_0 := blk_frozen BK102.out 0
           have hfz16_1 := blk_frozen BK102.out 1
           have hfz16_2 := blk_frozen BK102.out 2
           go_wp2_with (first | ((with_reducible refine gate_callee (f := 31) rfl ?_); refine goesL_ (some 27) rfl rfl Try.func31 (by kernel_rfl) rfl #[.string ((rd_T42 l0 x11_1).f1), .string ((rd_T42 l0 x11_1).f2)] rfl (by (try simp only [List.map_toArray, List.map_cons, List.map_nil]); first | done | rfl | (simp only [List.length_drop, List.length_take]; rfl)) ?_; (with_reducible refine (labels_part.calls kj5 ((rd_T42 l0 x11_1).f1) ((rd_T42 l0 x11_1).f2) t103 _ A13.out).mono ?_); rintro e w' ⟨rfl, ⟨nd, rfl⟩⟩; refine ⟨_, rfl, ?_⟩; clear A13))
           go_ret
           exact ⟨by first | rfl | (simp [errW_none, errW_some] <;> rfl) | (simp [*, errW_none, errW_some] <;> rfl), by repeat (first | (with_reducible first | exact HB.out | apply below_alloc | apply pw_below_drewN | apply below_drew1 | refine below_set ?_ GE102.out) | exact HB.out)⟩
      ·rw [if_neg c5] at H
       exact absurd H (by simp)
     ·rw [if_neg c4] at H
      exact absurd H (by simp)
    ·rw [if_neg c3] at H
     have c3b0 : decide (x11_1 < (l0.length : Int)) = false := decide_eq_false c3
     clear c3
     obtain rfl := Option.some.inj H
     go_wp2
     go_ret
     exact ⟨by first | rfl | (simp [errW_none, errW_some] <;> rfl) | (simp [*, errW_none, errW_some] <;> rfl), by repeat (first | (with_reducible first | exact HB.out | apply below_alloc | apply pw_below_drewN | apply below_drew1) | exact HB.out)⟩
def IsS67 (w0 W : World) (g : Nat) (f0 : ByteArray) (f1 : Bool) : Prop := W.heap[g]? = some (.cells #[.string f0, .bool f1] 67 (0, 0)) ∧ w0.heap.size ≤ g
theorem IsS67.grown {w0 W : World} {g : Nat} {f0 : ByteArray} {f1 : Bool} {W1 : World} {row : Option Nat} (h : IsS67 w0 W g f0 f1) (hw : W.grownBy W1 row) (hne : some g ≠ row) : IsS67 w0 W1 g f0 f1 := by
 obtain ⟨hb, hg⟩ := h
 exact ⟨blk_grown hb hw hne, hg⟩
theorem IsS67.kept {w0 W : World} {g : Nat} {f0 : ByteArray} {f1 : Bool} {W1 : World} {S : Nat → Prop} (h : IsS67 w0 W g f0 f1) (hk : Kept W W1 S) (hne : ¬ S g) : IsS67 w0 W1 g f0 f1 := by
 obtain ⟨hb, hg⟩ := h
 exact ⟨blk_kept hb hk hne, hg⟩
theorem IsS67.below {w0 W : World} {g : Nat} {f0 : ByteArray} {f1 : Bool} {W1 : World} (h : IsS67 w0 W g f0 f1) (hw : Below W.heap.size W W1) : IsS67 w0 W1 g f0 f1 := h.grown (grown_of_below hw none) (by simp)
theorem IsS67.alloc {w0 W : World} {g : Nat} {f0 : ByteArray} {f1 : Bool} (h : IsS67 w0 W g f0 f1) (o : Obj) : IsS67 w0 (W.alloc o) g f0 f1 := h.below (below_alloc (Below.refl _ _) o)
theorem IsS67.drewN {w0 W : World} {g : Nat} {f0 : ByteArray} {f1 : Bool} (h : IsS67 w0 W g f0 f1) (m : Nat) : IsS67 w0 (W.drewN m) g f0 f1 := h
theorem IsS67.drew {w0 W : World} {g : Nat} {f0 : ByteArray} {f1 : Bool} (h : IsS67 w0 W g f0 f1) : IsS67 w0 W.drew g f0 f1 := h
theorem IsS67.at_ {w0 W : World} {g : Nat} {f0 : ByteArray} {f1 : Bool} {w' : World} {m : Nat} (hq : W.drewN m = w') (h : IsS67 w0 W g f0 f1) : IsS67 w0 w' g f0 f1 := by subst hq; exact IsS67.drewN h m
theorem IsS67.apart {w0 W : World} {g : Nat} {f0 : ByteArray} {f1 : Bool} {α : Type} {d : Kd α} {e : Nat} {base : Nat} {ok : Nat → Prop} {v : Value} {xs : List α} (h : IsS67 w0 W g f0 f1) (ho : d.R e W base ok v xs) (ht : ∀ q, q ∈ e :: d.E → q ≠ 67) : d.R e W base (fun k => ok k ∧ k ≠ g) v xs := by
 obtain ⟨hb, hg⟩ := h
 exact Kd.R_types ho hb ht
theorem IsS67.lt {w0 W : World} {g : Nat} {f0 : ByteArray} {f1 : Bool} (h : IsS67 w0 W g f0 f1) : g < W.heap.size := by
 obtain ⟨hb, hg⟩ := h
 exact blk_lt hb
theorem IsS67.ge {w0 W : World} {g : Nat} {f0 : ByteArray} {f1 : Bool} (h : IsS67 w0 W g f0 f1) : w0.heap.size ≤ g := by
 obtain ⟨hb, hg⟩ := h
 exact hg
theorem IsS67.far {w0 W : World} {g : Nat} {f0 : ByteArray} {f1 : Bool} {p : Addr} (h : IsS67 w0 W g f0 f1) (hne : g ≠ p.block) (u : Value) : IsS67 w0 (W.setCell p u) g f0 f1 := by
 obtain ⟨hb, hg⟩ := h
 exact ⟨blk_far hb hne u, hg⟩
theorem cellS67_0 {W : World} {g : Nat} {f0 : ByteArray} {f1 : Bool} (h : W.heap[g]? = some (.cells #[.string f0, .bool f1] 67 (0, 0))) : W.cell? ⟨g, 0, none⟩ = some (.string f0) := (blk_cell h 0).trans rfl
theorem IsS67.set_0 {w0 W : World} {g : Nat} {f0 : ByteArray} {f1 : Bool} (h : IsS67 w0 W g f0 f1) (x : ByteArray) : IsS67 w0 (W.setCell ⟨g, 0, none⟩ (.string x)) g x f1 := by
 obtain ⟨hb, hg⟩ := h
 exact ⟨by simpa using blk_set hb 0 (.string x), hg⟩
theorem cellS67_1 {W : World} {g : Nat} {f0 : ByteArray} {f1 : Bool} (h : W.heap[g]? = some (.cells #[.string f0, .bool f1] 67 (0, 0))) : W.cell? ⟨g, 1, none⟩ = some (.bool f1) := (blk_cell h 1).trans rfl
theorem IsS67.set_1 {w0 W : World} {g : Nat} {f0 : ByteArray} {f1 : Bool} (h : IsS67 w0 W g f0 f1) (x : Bool) : IsS67 w0 (W.setCell ⟨g, 1, none⟩ (.bool x)) g f0 x := by
 obtain ⟨hb, hg⟩ := h
 exact ⟨by simpa using blk_set hb 1 (.bool x), hg⟩
theorem IsS67.new (w0 W : World) (f0 : ByteArray) (f1 : Bool) (hB : Below w0.heap.size w0 W) : IsS67 w0 (W.alloc (.cells #[.string f0, .bool f1] 67)) W.heap.size f0 f1 := ⟨by simpa using heap_alloc_new W _, hB.size⟩
def labels_reader_take.f (s0_0 : ByteArray) (s0_1 : Bool) (a1 : ByteArray) : Option (ByteArray × Bool) := (strings_CutPrefix.f s0_0 a1).bind fun bt101 => (if s0_1 = true then (some (bt101.1, true)) else (some (bt101.1, !bt101.2)))
set_option maxHeartbeats 8000000 in
set_option maxRecDepth 100000 in
theorem labels_reader_take.calls (g : Nat) (s0_0 : ByteArray) (s0_1 : Bool) (a1 : ByteArray) (r1 : ByteArray) (r2 : Bool) (w0 w : World) (hI : IsS67 w0 w g s0_0 s0_1) (hB : Below w0.heap.size w0 w) (h : labels_reader_take.f s0_0 s0_1 a1 = some (r1, r2)) :
  Calls Try.prog 45 #[.pointer (some ⟨g, 0, none⟩), .string a1] w fun e w' => e = .returned (.tuple #[]) ∧ IsS67 w0 w' g r1 r2 ∧ Below w0.heap.size w0 w' ∧ KeepBut w w' g none := by
 have HI0 := Aside0.mk hI
 have HK := Aside0.mk (KeepBut.refl w g none)
 have HL := Aside0.mk hB.size
 clear hI
 have HW0 := Aside0.mk hB.size
 have HB := Aside0.mk hB
 clear hB
 have H : ((strings_CutPrefix.f s0_0 a1).bind fun bt101 => (if s0_1 = true then (some (bt101.1, true)) else (some (bt101.1, !bt101.2)))) = some (r1, r2) := h
 clear h
 replace H := Option.bind_eq_some_iff.mp H
 obtain ⟨⟨t101, t102⟩, A30, H⟩ := H
 replace H : (if s0_1 = true then (some (t101, true)) else (some (t101, !t102))) = some (r1, r2) := H
 have A3 := Aside0.mk A30
 clear A30
 by_cases c4 : s0_1 = true
 ·subst c4
  have H1 : (some (t101, true)) = some (r1, r2) := by rw [if_pos rfl] at H; exact H
  clear H
  have H := H1
  clear H1
  simp only [Option.some.injEq, Prod.mk.injEq] at H
  obtain ⟨rfl, rfl⟩ := H
  obtain ⟨HGz5, hgz5⟩ := HI0.out
  have hcz5_0 := cellS67_0 HGz5
  have hcz5_1 := cellS67_1 HGz5
  have hfz5_0 := blk_frozen HGz5 0
  have hfz5_1 := blk_frozen HGz5 1
  clear HGz5 hgz5
  go_enter Try.func45, Try.ntmps45
  go_wp2_with (first | ((with_reducible refine gate_callee (f := 57) rfl ?_); refine goesL_ (some 12) rfl rfl Try.func57 (by kernel_rfl) rfl #[.string s0_0, .string a1] rfl (by (try simp only [List.map_toArray, List.map_cons, List.map_nil]); first | done | rfl | (simp only [List.length_drop, List.length_take]; rfl)) ?_; (with_reducible refine (strings_CutPrefix.calls s0_0 a1 t101 t102 _ A3.out).mono ?_); rintro e w' ⟨rfl, ⟨nd, rfl⟩⟩; refine ⟨_, rfl, ?_⟩; clear A3; (try (rw [drewN_self w]; generalize hq_ : World.drewN w _ = w; have n0_ : Aside0 (IsS67 w0 w g s0_0 true) := ⟨by rw [← hq_]; exact (by repeat (first | (with_reducible first | exact HI0.out | apply IsS67.alloc | apply IsS67.drewN | apply IsS67.drew | apply IsS67.set_0 | apply IsS67.set_1) | exact HI0.out))⟩; have n1_ : Aside0 (KeepBut _ w g none) := ⟨by rw [← hq_]; exact (by repeat (first | (with_reducible first | exact HK.out | apply KeepBut.set_ | apply keep_drewN | apply keep_drew | apply keep_alloc) | exact HK.out))⟩; have n2_ : Aside0 (Below w0.heap.size w0 w) := ⟨by rw [← hq_]; exact (by repeat (first | (with_reducible first | exact HB.out | apply below_alloc | apply pw_below_drewN | apply below_drew1 | refine below_set ?_ (IsS67.ge HI0.out)) | exact HB.out))⟩; clear HI0 HK HB hq_; have HI0 := n0_; (try (obtain ⟨HGq_, hgq_⟩ := HI0.out; have hcq_0 := cellS67_0 HGq_; have hcq_1 := cellS67_1 HGq_; have hfq_0 := blk_frozen HGq_ 0; have hfq_1 := blk_frozen HGq_ 1; clear HGq_ hgq_)); have HK := n1_; have HB := n2_; clear n0_ n1_ n2_))))
  first | go_end0 | ((try simp only [Exit.inBlock, Exit.then]); refine bodyPost_ret (results_none rfl _ _ _) rfl ?_)
  exact ⟨by first | rfl | (simp [errW_none, errW_some] <;> rfl) | (simp [*, errW_none, errW_some] <;> rfl), by repeat (first | (with_reducible first | exact HI0.out | apply IsS67.alloc | apply IsS67.drewN | apply IsS67.drew | apply IsS67.set_0 | apply IsS67.set_1) | exact HI0.out), by repeat (first | (with_reducible first | exact HB.out | apply below_alloc | apply pw_below_drewN | apply below_drew1 | refine below_set ?_ (IsS67.ge HI0.out)) | exact HB.out), by repeat (first | (with_reducible first | exact HK.out | apply KeepBut.set_ | apply keep_drewN | apply keep_drew | apply keep_alloc) | exact HK.out)⟩
 ·replace c4 := Bool.eq_false_iff.mpr c4
  subst c4
  have H1 : (some (t101, !t102)) = some (r1, r2) := by rw [if_neg (show ¬ (false = true) by decide)] at H; exact H
  clear H
  have H := H1
  clear H1
  simp only [Option.some.injEq, Prod.mk.injEq] at H
  obtain ⟨rfl, rfl⟩ := H
  obtain ⟨HGz6, hgz6⟩ := HI0.out
  have hcz6_0 := cellS67_0 HGz6
  have hcz6_1 := cellS67_1 HGz6
  have hfz6_0 := blk_frozen HGz6 0
  have hfz6_1 := blk_frozen HGz6 1
  clear HGz6 hgz6
  go_enter Try.func45, Try.ntmps45
  go_wp2_with (first | ((with_reducible refine gate_callee (f := 57) rfl ?_); refine goesL_ (some 12) rfl rfl Try.func57 (by kernel_rfl) rfl #[.string s0_0, .string a1] rfl (by (try simp only [List.map_toArray, List.map_cons, List.map_nil]); first | done | rfl | (simp only [List.length_drop, List.length_take]; rfl)) ?_; (with_reducible refine (strings_CutPrefix.calls s0_0 a1 t101 t102 _ A3.out).mono ?_); rintro e w' ⟨rfl, ⟨nd, rfl⟩⟩; refine ⟨_, rfl, ?_⟩; clear A3; (try (rw [drewN_self w]; generalize hq_ : World.drewN w _ = w; have n0_ : Aside0 (IsS67 w0 w g s0_0 false) := ⟨by rw [← hq_]; exact (by repeat (first | (with_reducible first | exact HI0.out | apply IsS67.alloc | apply IsS67.drewN | apply IsS67.drew | apply IsS67.set_0 | apply IsS67.set_1) | exact HI0.out))⟩; have n1_ : Aside0 (KeepBut _ w g none) := ⟨by rw [← hq_]; exact (by repeat (first | (with_reducible first | exact HK.out | apply KeepBut.set_ | apply keep_drewN | apply keep_drew | apply keep_alloc) | exact HK.out))⟩; have n2_ : Aside0 (Below w0.heap.size w0 w) := ⟨by rw [← hq_]; exact (by repeat (first | (with_reducible first | exact HB.out | apply below_alloc | apply pw_below_drewN | apply below_drew1 | refine below_set ?_ (IsS67.ge HI0.out)) | exact HB.out))⟩; clear HI0 HK HB hq_; have HI0 := n0_; (try (obtain ⟨HGq_, hgq_⟩ := HI0.out; have hcq_0 := cellS67_0 HGq_; have hcq_1 := cellS67_1 HGq_; have hfq_0 := blk_frozen HGq_ 0; have hfq_1 := blk_frozen HGq_ 1; clear HGq_ hgq_)); have HK := n1_; have HB := n2_; clear n0_ n1_ n2_))))
  first | go_end0 | ((try simp only [Exit.inBlock, Exit.then]); refine bodyPost_ret (results_none rfl _ _ _) rfl ?_)
  exact ⟨by first | rfl | (simp [errW_none, errW_some] <;> rfl) | (simp [*, errW_none, errW_some] <;> rfl), by repeat (first | (with_reducible first | exact HI0.out | apply IsS67.alloc | apply IsS67.drewN | apply IsS67.drew | apply IsS67.set_0 | apply IsS67.set_1) | exact HI0.out), by repeat (first | (with_reducible first | exact HB.out | apply below_alloc | apply pw_below_drewN | apply below_drew1 | refine below_set ?_ (IsS67.ge HI0.out)) | exact HB.out), by repeat (first | (with_reducible first | exact HK.out | apply KeepBut.set_ | apply keep_drewN | apply keep_drew | apply keep_alloc) | exact HK.out)⟩
def labels_reader_name.l0 : Nat → Int → ByteArray → Bool → Option (ByteArray × ByteArray × Bool)
 | 0, _, _, _ => none
 | k + 1, x3, x1000, x1001 => if x3 < (x1000.size : Int) then (if 0 ≤ x3 then ((labels_letter.f k (bt x1000 x3) false).bind fun t101 => (if t101 = true then (labels_reader_name.l0 k (wrap64 (x3 + 1)) x1000 x1001) else (if x3 ≤ (x1000.size : Int) then (some (x1000.extract 0 (x3 : Int).toNat, x1000.extract (x3 : Int).toNat x1000.size, x1001)) else (none)))) else (none)) else (if 0 ≤ x3 then (if x3 ≤ (x1000.size : Int) then (some (x1000.extract 0 (x3 : Int).toNat, x1000.extract (x3 : Int).toNat x1000.size, x1001)) else (none)) else (none))
def labels_reader_name.f (k : Nat) (s0_0 : ByteArray) (s0_1 : Bool) : Option (ByteArray × ByteArray × Bool) := labels_reader_name.l0 k 0 s0_0 s0_1
set_option maxHeartbeats 8000000 in
set_option maxRecDepth 100000 in
theorem labels_reader_name.calls (k : Nat) (g : Nat) (s0_0 : ByteArray) (s0_1 : Bool) (r1 : ByteArray) (r2 : ByteArray) (r3 : Bool) (w0 w : World) (hI : IsS67 w0 w g s0_0 s0_1) (hB : Below w0.heap.size w0 w) (h : labels_reader_name.f k s0_0 s0_1 = some (r1, r2, r3)) :
  Calls Try.prog 47 #[.pointer (some ⟨g, 0, none⟩)] w fun e w' => e = .returned (.string r1) ∧ IsS67 w0 w' g r2 r3 ∧ Below w0.heap.size w0 w' ∧ KeepBut w w' g none := by
 have HI0 := Aside0.mk hI
 have HK := Aside0.mk (KeepBut.refl w g none)
 have HL := Aside0.mk hB.size
 clear hI
 have HW0 := Aside0.mk hB.size
 have HB := Aside0.mk hB
 clear hB
 have H : (labels_reader_name.l0 k 0 s0_0 s0_1) = some (r1, r2, r3) := h
 clear h
 have H' := Aside0.mk H
 clear H
 go_enter Try.func47, Try.ntmps47
 go_wp2
 go_loopg [3] k (fun kq v3 w' => ∃ (x3_1 : Int), v3 = .int .i64 x3_1 ∧ Aside0 (labels_reader_name.l0 kq x3_1 s0_0 s0_1 = some (r1, r2, r3)) ∧ Aside0 (kq ≤ k) ∧ Aside0 (IsS67 w0 w' g s0_0 s0_1) ∧ Aside0 (KeepBut w w' g none) ∧ Aside0 (Below w0.heap.size w0 w'))
 case atStart => exact ⟨(0), (by first | rfl | (simp; done) | (simp [*]; done)), H', ⟨Nat.le_refl _⟩, ⟨by repeat (first | (with_reducible first | exact HI0.out | apply IsS67.alloc | apply IsS67.drewN | apply IsS67.drew | apply IsS67.set_0 | apply IsS67.set_1) | exact HI0.out)⟩, ⟨by repeat (first | (with_reducible first | exact HK.out | apply KeepBut.set_ | apply keep_drewN | apply keep_drew | apply keep_alloc) | exact HK.out)⟩, ⟨by repeat (first | (with_reducible first | exact HB.out | apply below_alloc | apply pw_below_drewN | apply below_drew1 | refine below_set ?_ (IsS67.ge HI0.out)) | exact HB.out)⟩⟩
 case round =>
  clear H'
  obtain ⟨x3_1, rfl, HA, HK1, HI0, HK, HB⟩ := hrel
  cases gk with
  | zero => exact absurd HA.out (by simp [labels_reader_name.l0])
  | succ k1 =>
   have H := HA.out
   clear HA
   simp only [labels_reader_name.l0] at H
   by_cases c2 : x3_1 < (s0_0.size : Int)
   ·rw [if_pos c2] at H
    have c2b0 : decide (x3_1 < (s0_0.size : Int)) = true := decide_eq_true c2
    clear c2
    by_cases c3 : 0 ≤ x3_1
    ·rw [if_pos c3] at H
     have c3b0 : decide (0 ≤ x3_1) = true := decide_eq_true c3
     clear c3
     replace H := Option.bind_eq_some_iff.mp H
     obtain ⟨t101, A50, H⟩ := H
     replace H : (if t101 = true then (labels_reader_name.l0 k1 (wrap64 (x3_1 + 1)) s0_0 s0_1) else (if x3_1 ≤ (s0_0.size : Int) then (some (s0_0.extract 0 (x3_1 : Int).toNat, s0_0.extract (x3_1 : Int).toNat s0_0.size, s0_1)) else (none))) = some (r1, r2, r3) := H
     have A5 := Aside0.mk A50
     clear A50
     by_cases c6 : t101 = true
     ·subst c6
      have H1 : (labels_reader_name.l0 k1 (wrap64 (x3_1 + 1)) s0_0 s0_1) = some (r1, r2, r3) := by rw [if_pos rfl] at H; exact H
      clear H
      have H := H1
      clear H1
      have H' := Aside0.mk H
      clear H
      obtain ⟨HGz7, hgz7⟩ := HI0.out
      have hcz7_0 := cellS67_0 HGz7
      have hcz7_1 := cellS67_1 HGz7
      have hfz7_0 := blk_frozen HGz7 0
      have hfz7_1 := blk_frozen HGz7 1
      clear HGz7 hgz7
      have p4 : 0 ≤ (x3_1 : Int) := of_decide_eq_true (by first | (with_reducible assumption) | assumption)
      have q4 : x3_1 < (s0_0.size : Int) := of_decide_eq_true (by first | (with_reducible assumption) | assumption)
      have hx4 := bt_at s0_0 x3_1
      replace p4 := eq_true p4
      replace q4 := eq_true q4
      go_wp2_with (first | (go_at_call 56; (with_reducible refine (labels_letter.calls k1 (bt s0_0 x3_1) false true _ A5.out).mono ?_); rintro e w' ⟨rfl, ⟨nd, rfl⟩⟩; clear A5))
      go_roundg k1
      case measure => have := HK1.out; omega
      case rel => exact ⟨(wrap64 (x3_1 + 1)), (by first | rfl | (simp; done) | (simp [*]; done)), H', ⟨by have := HK1.out; omega⟩, ⟨by repeat (first | (with_reducible first | exact HI0.out | apply IsS67.alloc | apply IsS67.drewN | apply IsS67.drew | apply IsS67.set_0 | apply IsS67.set_1) | exact HI0.out)⟩, ⟨by repeat (first | (with_reducible first | exact HK.out | apply KeepBut.set_ | apply keep_drewN | apply keep_drew | apply keep_alloc) | exact HK.out)⟩, ⟨by repeat (first | (with_reducible first | exact HB.out | apply below_alloc | apply pw_below_drewN | apply below_drew1 | refine below_set ?_ (IsS67.ge HI0.out)) | exact HB.out)⟩⟩
     ·replace c6 := Bool.eq_false_iff.mpr c6
      subst c6
      have H1 : (if x3_1 ≤ (s0_0.size : Int) then (some (s0_0.extract 0 (x3_1 : Int).toNat, s0_0.extract (x3_1 : Int).toNat s0_0.size, s0_1)) else (none)) = some (r1, r2, r3) := by rw [if_neg (show ¬ (false = true) by decide)] at H; exact H
      clear H
      have H := H1
      clear H1
      have c8b0 := eq_true (of_decide_eq_true (by first | (with_reducible assumption) | assumption) : 0 ≤ x3_1)
      by_cases c9 : x3_1 ≤ (s0_0.size : Int)
      ·rw [if_pos c9] at H
       have c9b0 := eq_true c9
       have c9b1 : decide (x3_1 ≤ (s0_0.size : Int)) = true := decide_eq_true c9
       clear c9
       have c10b0 := eq_true (of_decide_eq_true (by first | (with_reducible assumption) | assumption) : 0 ≤ x3_1)
       have c11b0 := eq_true (of_decide_eq_true (by first | (with_reducible assumption) | assumption) : x3_1 ≤ (s0_0.size : Int))
       simp only [Option.some.injEq, Prod.mk.injEq] at H
       obtain ⟨rfl, rfl, rfl⟩ := H
       obtain ⟨HGz12, hgz12⟩ := HI0.out
       have hcz12_0 := cellS67_0 HGz12
       have hcz12_1 := cellS67_1 HGz12
       have hfz12_0 := blk_frozen HGz12 0
       have hfz12_1 := blk_frozen HGz12 1
       clear HGz12 hgz12
       have p4 : 0 ≤ (x3_1 : Int) := of_decide_eq_true (by first | (with_reducible assumption) | assumption)
       have q4 : x3_1 < (s0_0.size : Int) := of_decide_eq_true (by first | (with_reducible assumption) | assumption)
       have hx4 := bt_at s0_0 x3_1
       replace p4 := eq_true p4
       replace q4 := eq_true q4
       go_wp2_with (first | (go_at_call 56; (with_reducible refine (labels_letter.calls k1 (bt s0_0 x3_1) false false _ A5.out).mono ?_); rintro e w' ⟨rfl, ⟨nd, rfl⟩⟩; clear A5; (try (rw [drewN_self wr]; generalize hq_ : World.drewN wr _ = wr; have n0_ : Aside0 (IsS67 w0 wr g s0_0 s0_1) := ⟨by rw [← hq_]; exact (by repeat (first | (with_reducible first | exact HI0.out | apply IsS67.alloc | apply IsS67.drewN | apply IsS67.drew | apply IsS67.set_0 | apply IsS67.set_1) | exact HI0.out))⟩; have n1_ : Aside0 (KeepBut w wr g none) := ⟨by rw [← hq_]; exact (by repeat (first | (with_reducible first | exact HK.out | apply KeepBut.set_ | apply keep_drewN | apply keep_drew | apply keep_alloc) | exact HK.out))⟩; have n2_ : Aside0 (Below w0.heap.size w0 wr) := ⟨by rw [← hq_]; exact (by repeat (first | (with_reducible first | exact HB.out | apply below_alloc | apply pw_below_drewN | apply below_drew1 | refine below_set ?_ (IsS67.ge HI0.out)) | exact HB.out))⟩; clear HI0 HK HB hq_; have HI0 := n0_; (try (obtain ⟨HGq_, hgq_⟩ := HI0.out; have hcq_0 := cellS67_0 HGq_; have hcq_1 := cellS67_1 HGq_; have hfq_0 := blk_frozen HGq_ 0; have hfq_1 := blk_frozen HGq_ 1; clear HGq_ hgq_)); have HK := n1_; have HB := n2_; clear n0_ n1_ n2_))))
       go_ret
       exact ⟨by first | rfl | (simp [errW_none, errW_some] <;> rfl) | (simp [*, errW_none, errW_some] <;> rfl), by repeat (first | (with_reducible first | exact HI0.out | apply IsS67.alloc | apply IsS67.drewN | apply IsS67.drew | apply IsS67.set_0 | apply IsS67.set_1) | exact HI0.out), by repeat (first | (with_reducible first | exact HB.out | apply below_alloc | apply pw_below_drewN | apply below_drew1 | refine below_set ?_ (IsS67.ge HI0.out)) | exact HB.out), by repeat (first | (with_reducible first | exact HK.out | apply KeepBut.set_ | apply keep_drewN | apply keep_drew | apply keep_alloc) | exact HK.out)⟩
      ·rw [if_neg c9] at H
       exact absurd H (by simp)
    ·rw [if_neg c3] at H
     exact absurd H (by simp)
   ·rw [if_neg c2] at H
    have c2b0 : decide (x3_1 < (s0_0.size : Int)) = false := decide_eq_false c2
    clear c2
    by_cases c13 : 0 ≤ x3_1
    ·rw [if_pos c13] at H
     have c13b0 := eq_true c13
     have c13b1 : decide (0 ≤ x3_1) = true := decide_eq_true c13
     clear c13
     by_cases c14 : x3_1 ≤ (s0_0.size : Int)
     ·rw [if_pos c14] at H
      have c14b0 := eq_true c14
      have c14b1 : decide (x3_1 ≤ (s0_0.size : Int)) = true := decide_eq_true c14
      clear c14
      have c15b0 := eq_true (of_decide_eq_true (by first | (with_reducible assumption) | assumption) : 0 ≤ x3_1)
      have c16b0 := eq_true (of_decide_eq_true (by first | (with_reducible assumption) | assumption) : x3_1 ≤ (s0_0.size : Int))
      simp only [Option.some.injEq, Prod.mk.injEq] at H
      obtain ⟨rfl, rfl, rfl⟩ := H
      obtain ⟨HGz17, hgz17⟩ := HI0.out
      have hcz17_0 := cellS67_0 HGz17
      have hcz17_1 := cellS67_1 HGz17
      have hfz17_0 := blk_frozen HGz17 0
      have hfz17_1 := blk_frozen HGz17 1
      clear HGz17 hgz17
      go_wp2
      go_ret
      exact ⟨by first | rfl | (simp [errW_none, errW_some] <;> rfl) | (simp [*, errW_none, errW_some] <;> rfl), by repeat (first | (with_reducible first | exact HI0.out | apply IsS67.alloc | apply IsS67.drewN | apply IsS67.drew | apply IsS67.set_0 | apply IsS67.set_1) | exact HI0.out), by repeat (first | (with_reducible first | exact HB.out | apply below_alloc | apply pw_below_drewN | apply below_drew1 | refine below_set ?_ (IsS67.ge HI0.out)) | exact HB.out), by repeat (first | (with_reducible first | exact HK.out | apply KeepBut.set_ | apply keep_drewN | apply keep_drew | apply keep_alloc) | exact HK.out)⟩
     ·rw [if_neg c14] at H
      exact absurd H (by simp)
    ·rw [if_neg c13] at H
     exact absurd H (by simp)
def labels_Get.l0 : Nat → ByteArray → List (S58) → Int → Int → Option (ByteArray × Bool)
 | 0, _, _, _, _ => none
 | k + 1, x1, x8, x9, x10 => if x10 < x9 then (if 0 ≤ x10 then (if x10 < (x8.length : Int) then (if ((rd_T58 x8 x10).f0).toList = x1.toList then (some ((rd_T58 x8 x10).f1, true)) else (labels_Get.l0 k x1 x8 x9 (wrap64 (x10 + 1)))) else (none)) else (none)) else (some ((⟨#[]⟩ : ByteArray), false))
def labels_Get.f (k : Nat) (l0 : List (S58)) (a1 : ByteArray) : Option (ByteArray × Bool) := labels_Get.l0 k a1 l0 (l0.length : Int) 0
set_option maxHeartbeats 8000000 in
set_option maxRecDepth 100000 in
theorem labels_Get.calls (k : Nat) (A0 : Option Addr) (c0 : Nat) (l0 : List (S58)) (a1 : ByteArray) (r1 : ByteArray) (r2 : Bool) (w : World) (hr0 : Kd.C k58 w A0 l0.length l0) (hc0 : l0.length ≤ c0) (h : labels_Get.f k l0 a1 = some (r1, r2)) :
  Calls Try.prog 20 #[.slice A0 l0.length c0, .string a1] w fun e w' => e = .returned (.tuple #[.string r1, .bool r2]) ∧ Below w.heap.size w w' := by
 have hu58 := Try.underlying58
 have HR0 := Aside0.mk hr0
 have HC0 := Aside0.mk hc0
 clear hr0 hc0
 have HB := Aside0.mk (Below.refl w.heap.size w)
 have H : (labels_Get.l0 k a1 l0 (l0.length : Int) 0) = some (r1, r2) := h
 clear h
 have H' := Aside0.mk H
 clear H
 go_enter Try.func20, Try.ntmps20
 go_wp2
 go_loopg [10] k (fun kq v10 w' => ∃ (x10_1 : Int), v10 = .int .i64 x10_1 ∧ Aside0 (labels_Get.l0 kq a1 l0 (l0.length : Int) x10_1 = some (r1, r2)) ∧ Aside0 (kq ≤ k) ∧ Aside0 (Below w.heap.size w w'))
 case atStart => exact ⟨(0), (by first | rfl | (simp; done) | (simp [*]; done)), H', ⟨Nat.le_refl _⟩, ⟨by repeat (first | (with_reducible first | exact HB.out | apply below_alloc | apply pw_below_drewN | apply below_drew1) | exact HB.out)⟩⟩
 case round =>
  clear H'
  try clear c2
  try clear p2
  obtain ⟨x10_1, rfl, HA, HK1, HB⟩ := hrel
  cases gk with
  | zero => exact absurd HA.out (by simp [labels_Get.l0])
  | succ k1 =>
   have H := HA.out
   clear HA
   simp only [labels_Get.l0] at H
   by_cases c3 : x10_1 < (l0.length : Int)
   ·rw [if_pos c3] at H
    have c3b0 : decide (x10_1 < (l0.length : Int)) = true := decide_eq_true c3
    clear c3
    by_cases c4 : 0 ≤ x10_1
    ·rw [if_pos c4] at H
     have c4b0 : decide (0 ≤ x10_1) = true := decide_eq_true c4
     clear c4
     by_cases c5 : x10_1 < (l0.length : Int)
     ·rw [if_pos c5] at H
      have c5b0 : decide (x10_1 < (l0.length : Int)) = true := decide_eq_true c5
      clear c5
      by_cases c6 : ((rd_T58 l0 x10_1).f0).toList = a1.toList
      ·rw [if_pos c6] at H
       have c6b0 : (((rd_T58 l0 x10_1).f0).toList == a1.toList) = true := beq_iff_eq.mpr c6
       have c6b1 : (((rd_T58 l0 x10_1).f0).toList != a1.toList) = false := bne_eq_false_iff_eq.mpr c6
       clear c6
       simp only [Option.some.injEq, Prod.mk.injEq] at H
       obtain ⟨rfl, rfl⟩ := H
       have p101 : 0 ≤ (x10_1 : Int) := of_decide_eq_true (by first | (with_reducible assumption) | assumption)
       have q101 : x10_1 < (l0.length : Int) := of_decide_eq_true (by first | (with_reducible assumption) | assumption)
       obtain ⟨ad101, e101, hx101_0, hx101_1⟩ := at_T58 HR0.out x10_1 p101 q101
       cases e101
       replace hx101_0 := (HB.out.cell (World.block_lt_of_cell? w _ hx101_0)).trans hx101_0
       replace hx101_1 := (HB.out.cell (World.block_lt_of_cell? w _ hx101_1)).trans hx101_1
       replace p101 := eq_true p101
       replace q101 := eq_true q101
       go_wp2_with (first | ((with_reducible refine gate_dst (N := 7) rfl ?_); refine box_event ?hg (N := 7) ?hd (cs := #[.string (⟨#[]⟩ : ByteArray), .string (⟨#[]⟩ : ByteArray)]) (t := 58) ?hr ?_; (case hd => rfl); (case hg => rfl); (case hr => first | (go_simp; done) | (go_simp; rfl)); intro gb102 hg w7 hbox hb; have n0_ := Aside0.mk (below_step (by repeat (first | (with_reducible first | exact HB.out | apply below_alloc | apply pw_below_drewN | apply below_drew1) | exact HB.out)) hb); have n1_ := Aside0.mk (hbox); have n2_ := Aside0.mk ((by rw [hg]; exact (below_size (by repeat (first | (with_reducible first | exact HB.out | apply below_alloc | apply pw_below_drewN | apply below_drew1) | exact HB.out))) : w.heap.size ≤ gb102)); have n3_ := Aside0.mk ((by rw [hg]; exact (below_size (by repeat (first | (with_reducible first | exact HB.out | apply below_alloc | apply pw_below_drewN | apply below_drew1) | exact HB.out))) : w.heap.size ≤ gb102)); clear HB; have HB := n0_; have BK102 := n1_; have GW102 := n2_; have GE102 := n3_; clear n0_ n1_ n2_ n3_; clear hb hbox hg; have hcz8_0 : w7.cell? ⟨gb102, 0, none⟩ = some (.string (⟨#[]⟩ : ByteArray)) := (blk_cell BK102.out 0).trans rfl; have hcz8_1 : w7.cell? ⟨gb102, 1, none⟩ = some (.string (⟨#[]⟩ : ByteArray)) := (blk_cell BK102.out 1).trans rfl; have hfz8_0 := blk_frozen BK102.out 0; have hfz8_1 := blk_frozen BK102.out 1))
       go_ret2
       exact ⟨by first | rfl | (simp [errW_none, errW_some] <;> rfl) | (simp [*, errW_none, errW_some] <;> rfl), by repeat (first | (with_reducible first | exact HB.out | apply below_alloc | apply pw_below_drewN | apply below_drew1 | refine below_set ?_ GE102.out) | exact HB.out)⟩
      ·rw [if_neg c6] at H
       have c6b0 : (((rd_T58 l0 x10_1).f0).toList == a1.toList) = false := beq_eq_false_iff_ne.mpr c6
       have c6b1 : (((rd_T58 l0 x10_1).f0).toList != a1.toList) = true := bne_iff_ne.mpr c6
       have H' := Aside0.mk H
       clear H
       have p101 : 0 ≤ (x10_1 : Int) := of_decide_eq_true (by first | (with_reducible assumption) | assumption)
       have q101 : x10_1 < (l0.length : Int) := of_decide_eq_true (by first | (with_reducible assumption) | assumption)
       obtain ⟨ad101, e101, hx101_0, hx101_1⟩ := at_T58 HR0.out x10_1 p101 q101
       cases e101
       replace hx101_0 := (HB.out.cell (World.block_lt_of_cell? w _ hx101_0)).trans hx101_0
       replace hx101_1 := (HB.out.cell (World.block_lt_of_cell? w _ hx101_1)).trans hx101_1
       replace p101 := eq_true p101
       replace q101 := eq_true q101
       go_wp2_with (first | ((with_reducible refine gate_dst (N := 7) rfl ?_); refine box_event ?hg (N := 7) ?hd (cs := #[.string (⟨#[]⟩ : ByteArray), .string (⟨#[]⟩ : ByteArray)]) (t := 58) ?hr ?_; (case hd => rfl); (case hg => rfl); (case hr => first | (go_simp; done) | (go_simp; rfl)); intro gb102 hg w9 hbox hb; have n0_ := Aside0.mk (below_step (by repeat (first | (with_reducible first | exact HB.out | apply below_alloc | apply pw_below_drewN | apply below_drew1) | exact HB.out)) hb); have n1_ := Aside0.mk (hbox); have n2_ := Aside0.mk ((by rw [hg]; exact (below_size (by repeat (first | (with_reducible first | exact HB.out | apply below_alloc | apply pw_below_drewN | apply below_drew1) | exact HB.out))) : w.heap.size ≤ gb102)); have n3_ := Aside0.mk ((by rw [hg]; exact (below_size (by repeat (first | (with_reducible first | exact HB.out | apply below_alloc | apply pw_below_drewN | apply below_drew1) | exact HB.out))) : w.heap.size ≤ gb102)); clear HB; have HB := n0_; have BK102 := n1_; have GW102 := n2_; have GE102 := n3_; clear n0_ n1_ n2_ n3_; clear hb hbox hg; have hcz10_0 : w9.cell? ⟨gb102, 0, none⟩ = some (.string (⟨#[]⟩ : ByteArray)) := (blk_cell BK102.out 0).trans rfl; have hcz10_1 : w9.cell? ⟨gb102, 1, none⟩ = some (.string (⟨#[]⟩ : ByteArray)) := (blk_cell BK102.out 1).trans rfl; have hfz10_0 := blk_frozen BK102.out 0; have hfz10_1 := blk_frozen BK102.out 1))
       go_roundg k1
       case measure => have := HK1.out; omega
       case rel => exact ⟨(wrap64 (x10_1 + 1)), (by first | rfl | (simp; done) | (simp [*]; done)), H', ⟨by have := HK1.out; omega⟩, ⟨by repeat (first | (with_reducible first | exact HB.out | apply below_alloc | apply pw_below_drewN | apply below_drew1 | refine below_set ?_ GE102.out) | exact HB.out)⟩⟩
     ·rw [if_neg c5] at H
      exact absurd H (by simp)
    ·rw [if_neg c4] at H
     exact absurd H (by simp)
   ·rw [if_neg c3] at H
    have c3b0 : decide (x10_1 < (l0.length : Int)) = false := decide_eq_false c3
    clear c3
    simp only [Option.some.injEq, Prod.mk.injEq] at H
    obtain ⟨rfl, rfl⟩ := H
    go_wp2
    go_ret2
    exact ⟨by first | rfl | (simp [errW_none, errW_some] <;> rfl) | (simp [*, errW_none, errW_some] <;> rfl), by repeat (first | (with_reducible first | exact HB.out | apply below_alloc | apply pw_below_drewN | apply below_drew1) | exact HB.out)⟩
end Go.Proofs.Ytbfiacnmielajaa.P
namespace Go.Proofs.Ytbfiacnmielajaa.P
open Go.RowKit Go.Proofs.YtbfiacnmielajaaW.PrintWords Go.Proofs.YtbfiacnmielajaaW.PrintLast Go.Proofs.YtbfiacnmielajaaW.PrintMore
attribute [local go_sem] max2_int min2_int max_two min_two max_three min_three max_four min_four
set_option linter.unusedVariables false
set_option linter.unusedSimpArgs false
attribute [local go_sem high] leq_str gtr_str
def labels_Text.l0 : Nat → List ByteArray → List (S58) → Int → Int → Option (ByteArray × Int)
 | 0, _, _, _, _ => none
 | k + 1, x5, x13, x14, x15 => if x15 < x14 then (if 0 ≤ x15 then (if x15 < (x13.length : Int) then (if ((rd_T58 x13 x15).f0).size + 1 ≤ 9223372036854775807 then ((labels_quoted.f k ((rd_T58 x13 x15).f1)).bind fun t104 => (if (((rd_T58 x13 x15).f0) ++ (⟨#[61]⟩ : ByteArray)).size + t104.size ≤ 9223372036854775807 then (if x5.length < 8796093022208 then (labels_Text.l0 k (x5 ++ [(((rd_T58 x13 x15).f0) ++ (⟨#[61]⟩ : ByteArray)) ++ t104]) x13 x14 (wrap64 (x15 + 1))) else (none)) else (none))) else (none)) else (none)) else (none)) else ((labels_braced.f x5).bind fun t108 => (some (t108, 0)))
def labels_Text.f (k : Nat) (l0 : List (S58)) : Option (ByteArray × Int) := (labels_Check.f k l0).bind fun t101 => (if t101 = 0 then (labels_Text.l0 k ([] : List ByteArray) l0 (l0.length : Int) 0) else (some ((⟨#[]⟩ : ByteArray), t101)))
def labels_Text.T8 : Bool × List (List Nat × List Nat) := (true, [([], []), ([], []), ([1], [1]), ([2], [2]), ([], []), ([4], [4]), ([5], [5]), ([3, 6], [3, 6]), ([7], [7]), ([0, 8, 6], [0, 8]), ([9, 9, 0, 1, 2, 3, 4, 5, 6, 7, 8, 9], [0, 9])])
def labels_Text.B8 : List Nat := [0, 0, 2, 6, 0, 16, 48, 126, 254, 511, 1023]
theorem labels_Text.tab8 : rtab .any (opsOf Try.f13 8) = labels_Text.T8 := by kernel_rfl
theorem labels_Text.bits8 : waitsOk labels_Text.T8.2 labels_Text.B8 = true := by kernel_rfl
set_option maxHeartbeats 8000000 in
set_option maxRecDepth 100000 in
theorem labels_Text.calls (k : Nat) (A0 : Option Addr) (c0 : Nat) (l0 : List (S58)) (r1 : ByteArray) (r2 : Int) (w : World) (hr0 : Kd.C k58 w A0 l0.length l0) (hc0 : l0.length ≤ c0) (h : labels_Text.f k l0 = some (r1, r2)) :
  Calls Try.prog 13 #[.slice A0 l0.length c0] w fun e w' => e = .returned (.tuple #[.string r1, .int .i64 r2]) ∧ Below w.heap.size w w' := by
 have hu58 := Try.underlying58
 have HR0 := Aside0.mk hr0
 have HC0 := Aside0.mk hc0
 clear hr0 hc0
 have HB := Aside0.mk (Below.refl w.heap.size w)
 have H : ((labels_Check.f k l0).bind fun t101 => (if t101 = 0 then (labels_Text.l0 k ([] : List ByteArray) l0 (l0.length : Int) 0) else (some ((⟨#[]⟩ : ByteArray), t101)))) = some (r1, r2) := h
 clear h
 replace H := Option.bind_eq_some_iff.mp H
 obtain ⟨t101, A20, H⟩ := H
 replace H : (if t101 = 0 then (labels_Text.l0 k ([] : List ByteArray) l0 (l0.length : Int) 0) else (some ((⟨#[]⟩ : ByteArray), t101))) = some (r1, r2) := H
 have A2 := Aside0.mk A20
 clear A20
 by_cases c3 : t101 = 0
 ·rw [if_pos c3] at H
  have c3b0 : (t101 == 0) = true := beq_iff_eq.mpr c3
  have c3b1 : (t101 != 0) = false := bne_eq_false_iff_eq.mpr c3
  clear c3
  have H' := Aside0.mk H
  clear H
  go_enter Try.func13, Try.ntmps13
  go_wp2_with (first | ((with_reducible refine gate_callee (f := 14) rfl ?_); refine goesL_ (some 9) rfl rfl Try.func14 (by kernel_rfl) rfl #[.slice A0 l0.length c0] rfl (by (try simp only [List.map_toArray, List.map_cons, List.map_nil]); first | done | rfl | (simp only [List.length_drop, List.length_take]; rfl)) ?_; (with_reducible refine (labels_Check.calls k _ _ l0 t101 _ ?side1 ?side2 A2.out).mono ?_); (case side1 => repeat (first | exact HR0.out | (with_reducible refine Kd.C_alloc ?_ _) | (with_reducible refine Kd.C_drewN ?_ _) | (with_reducible refine Kd.C_drew ?_))); (case side2 => exact HC0.out); rintro e w4 ⟨rfl, hb⟩; refine ⟨_, rfl, ?_⟩; have n0_ := Aside0.mk (below_step (by repeat (first | (with_reducible first | exact HB.out | apply below_alloc | apply pw_below_drewN | apply below_drew1) | exact HB.out)) hb); clear HB; have HB := n0_; clear n0_; (try clear hb); (try clear hb2); (try clear hk); (try clear hi); clear A2))
  go_loopg [5, 15] k (fun kq v5 v15 w' => ∃ (x5_1 : List ByteArray) (x15_1 : Int), v15 = .int .i64 x15_1 ∧ Aside0 (labels_Text.l0 kq x5_1 l0 (l0.length : Int) x15_1 = some (r1, r2)) ∧ Aside0 (kq ≤ k) ∧ Aside0 (Kd.R Kd.string 9 w' w.heap.size (fun _ => True) v5 x5_1) ∧ Aside0 (Below w.heap.size w w'))
  case atStart => exact ⟨(([] : List ByteArray)), (0), (by first | rfl | (simp; done) | (simp [*]; done)), H', ⟨Nat.le_refl _⟩, ⟨by first | exact Kd.R_nil _ _ _ _ _ | exact Kd.N_nil _ _ _ _ _ | exact Kd.V_nil _ _ _ _ _ | exact Kd.Q_nil _ _ _ _ _ | exact Kd.S_nil _ _ _ _ _⟩, ⟨by repeat (first | (with_reducible first | exact HB.out | apply below_alloc | apply pw_below_drewN | apply below_drew1) | exact HB.out)⟩⟩
  case round =>
   clear H'
   try clear c1
   try clear p2
   try clear c3
   try clear c3b0
   try clear c3b1
   obtain ⟨x5_1, x15_1, rfl, HA, HK1, HO_5, HB⟩ := hrel
   cases gk with
   | zero => exact absurd HA.out (by simp [labels_Text.l0])
   | succ k1 =>
    have H := HA.out
    clear HA
    simp only [labels_Text.l0] at H
    by_cases c5 : x15_1 < (l0.length : Int)
    ·rw [if_pos c5] at H
     have c5b0 : decide (x15_1 < (l0.length : Int)) = true := decide_eq_true c5
     clear c5
     by_cases c6 : 0 ≤ x15_1
     ·rw [if_pos c6] at H
      have c6b0 : decide (0 ≤ x15_1) = true := decide_eq_true c6
      clear c6
      by_cases c7 : x15_1 < (l0.length : Int)
      ·rw [if_pos c7] at H
       have c7b0 : decide (x15_1 < (l0.length : Int)) = true := decide_eq_true c7
       clear c7
       by_cases c8 : ((rd_T58 l0 x15_1).f0).size + 1 ≤ 9223372036854775807
       ·rw [if_pos c8] at H
        have c8b0 := eq_true c8
        have c8b1 : decide (((rd_T58 l0 x15_1).f0).size + 1 ≤ 9223372036854775807) = true := decide_eq_true c8
        try have c8b2 : (9223372036854775807 < ((rd_T58 l0 x15_1).f0).size + 1) = False := eq_false (Nat.not_lt.2 c8)
        replace H := Option.bind_eq_some_iff.mp H
        obtain ⟨t104, A90, H⟩ := H
        replace H : (if (((rd_T58 l0 x15_1).f0) ++ (⟨#[61]⟩ : ByteArray)).size + t104.size ≤ 9223372036854775807 then (if x5_1.length < 8796093022208 then (labels_Text.l0 k1 (x5_1 ++ [(((rd_T58 l0 x15_1).f0) ++ (⟨#[61]⟩ : ByteArray)) ++ t104]) l0 (l0.length : Int) (wrap64 (x15_1 + 1))) else (none)) else (none)) = some (r1, r2) := H
        have A9 := Aside0.mk A90
        clear A90
        by_cases c10 : (((rd_T58 l0 x15_1).f0) ++ (⟨#[61]⟩ : ByteArray)).size + t104.size ≤ 9223372036854775807
        ·rw [if_pos c10] at H
         have c10b0 := eq_true c10
         have c10b1 : decide ((((rd_T58 l0 x15_1).f0) ++ (⟨#[61]⟩ : ByteArray)).size + t104.size ≤ 9223372036854775807) = true := decide_eq_true c10
         try have c10b2 : (9223372036854775807 < (((rd_T58 l0 x15_1).f0) ++ (⟨#[61]⟩ : ByteArray)).size + t104.size) = False := eq_false (Nat.not_lt.2 c10)
         have c10b3 : (9223372036854775807 < (((rd_T58 l0 x15_1).f0)).size + 1 + t104.size) = False := eq_false (by have h_ := c10; rw [ByteArray.size_append] at h_; exact Nat.not_lt.2 h_)
         by_cases c11 : x5_1.length < 8796093022208
         ·rw [if_pos c11] at H
          have LMc11 := Aside0.mk c11
          clear c11
          obtain ⟨y105, hy105⟩ : ∃ y_ : List ByteArray, y_ = (x5_1 ++ [(((rd_T58 l0 x15_1).f0) ++ (⟨#[61]⟩ : ByteArray)) ++ t104]) := ⟨_, rfl⟩
          replace H : (labels_Text.l0 k1 y105 l0 (l0.length : Int) (wrap64 (x15_1 + 1))) = some (r1, r2) := by first | (rw [hy105]; with_reducible exact H) | (have H2_ := (Option.bind_some _ _).symm.trans H; rw [hy105]; with_reducible exact H2_) | (have H2_ := (Option.bind_some _ _).symm.trans H; with_reducible exact H2_) | with_reducible exact H | (rw [hy105]; exact H) | exact H
          have Ny105 := Aside0.mk hy105
          clear hy105
          have H' := Aside0.mk H
          clear H
          have p102 : 0 ≤ (x15_1 : Int) := of_decide_eq_true (by first | (with_reducible assumption) | assumption)
          have q102 : x15_1 < (l0.length : Int) := of_decide_eq_true (by first | (with_reducible assumption) | assumption)
          obtain ⟨ad102, e102, hx102_0, hx102_1⟩ := at_T58 HR0.out x15_1 p102 q102
          cases e102
          replace hx102_0 := (HB.out.cell (World.block_lt_of_cell? w _ hx102_0)).trans hx102_0
          replace hx102_1 := (HB.out.cell (World.block_lt_of_cell? w _ hx102_1)).trans hx102_1
          replace p102 := eq_true p102
          replace q102 := eq_true q102
          try go_wp2_with (first | ((with_reducible refine gate_dst (N := 7) rfl ?_); refine box_event ?hg (N := 7) ?hd (cs := #[.string (⟨#[]⟩ : ByteArray), .string (⟨#[]⟩ : ByteArray)]) (t := 58) ?hr ?_; (case hd => rfl); (case hg => rfl); (case hr => first | (go_simp; done) | (go_simp; rfl)); intro gb103 hg w12 hbox hb; have n0_ := Aside0.mk (Kd.R_below (by (with_reducible repeat (first | apply Kd.R_alloc | apply Kd.R_drewN | apply Kd.R_drew)); exact HO_5.out) hb); have n1_ := Aside0.mk (below_step (by repeat (first | (with_reducible first | exact HB.out | apply below_alloc | apply pw_below_drewN | apply below_drew1) | exact HB.out)) hb); have n2_ := Aside0.mk (hbox); have n3_ := Aside0.mk ((by rw [hg]; exact (below_size (by repeat (first | (with_reducible first | exact HB.out | apply below_alloc | apply pw_below_drewN | apply below_drew1) | exact HB.out))) : w.heap.size ≤ gb103)); have n4_ := Aside0.mk ((by rw [hg]; exact (below_size (by repeat (first | (with_reducible first | exact HB.out | apply below_alloc | apply pw_below_drewN | apply below_drew1) | exact HB.out))) : w.heap.size ≤ gb103)); clear HO_5; clear HB; have HO_5 := n0_; have HB := n1_; have BK103 := n2_; have GW103 := n3_; have GE103 := n4_; clear n0_ n1_ n2_ n3_ n4_; clear hb hbox hg; have hcz13_0 : w12.cell? ⟨gb103, 0, none⟩ = some (.string (⟨#[]⟩ : ByteArray)) := (blk_cell BK103.out 0).trans rfl; have hcz13_1 : w12.cell? ⟨gb103, 1, none⟩ = some (.string (⟨#[]⟩ : ByteArray)) := (blk_cell BK103.out 1).trans rfl; have hfz13_0 := blk_frozen BK103.out 0; have hfz13_1 := blk_frozen BK103.out 1))
          have n0_ : Aside0 (Kd.R Kd.string 9 ((w12.setCell ⟨gb103, 0, none⟩ (.string ((rd_T58 l0 x15_1).f0))).setCell ⟨gb103, 1, none⟩ (.string ((rd_T58 l0 x15_1).f1))) w.heap.size (fun _ => True) u5 x5_1) := ⟨by (with_reducible repeat (first | apply Kd.R_alloc | apply Kd.R_drewN | apply Kd.R_drew)); exact Kd.R_mono (Kd.R_far (p := ⟨gb103, 1, none⟩) (Kd.R_far (p := ⟨gb103, 0, none⟩) (Kd.R_types HO_5.out BK103.out (by decide)) (fun _ hk => hk.2) (.string ((rd_T58 l0 x15_1).f0))) (fun _ hk => hk.2) (.string ((rd_T58 l0 x15_1).f1))) (fun _ hk => trivial)⟩
          have n1_ : Aside0 (((w12.setCell ⟨gb103, 0, none⟩ (.string ((rd_T58 l0 x15_1).f0))).setCell ⟨gb103, 1, none⟩ (.string ((rd_T58 l0 x15_1).f1))).heap[gb103]? = some (.cells #[.string ((rd_T58 l0 x15_1).f0), .string ((rd_T58 l0 x15_1).f1)] 58 (0, 0))) := ⟨by (with_reducible repeat (first | refine blk_drewN ?_ _ | refine blk_drew ?_ | refine blk_alloc ?_ _)); refine blk_put (cs := #[.string ((rd_T58 l0 x15_1).f0), .string (⟨#[]⟩ : ByteArray)]) ?_ 1 _ rfl; (with_reducible repeat (first | refine blk_drewN ?_ _ | refine blk_drew ?_ | refine blk_alloc ?_ _)); refine blk_put (cs := #[.string (⟨#[]⟩ : ByteArray), .string (⟨#[]⟩ : ByteArray)]) ?_ 0 _ rfl; (with_reducible repeat (first | refine blk_drewN ?_ _ | refine blk_drew ?_ | refine blk_alloc ?_ _)); exact BK103.out⟩
          have n2_ : Aside0 (Below w.heap.size w ((w12.setCell ⟨gb103, 0, none⟩ (.string ((rd_T58 l0 x15_1).f0))).setCell ⟨gb103, 1, none⟩ (.string ((rd_T58 l0 x15_1).f1)))) := ⟨by repeat (first | (with_reducible first | exact HB.out | apply below_alloc | apply pw_below_drewN | apply below_drew1 | refine below_set ?_ GE103.out) | exact HB.out)⟩
          (try clear HO_5)
          (try clear BK103)
          (try clear HB)
          generalize ((w12.setCell ⟨gb103, 0, none⟩ (.string ((rd_T58 l0 x15_1).f0))).setCell ⟨gb103, 1, none⟩ (.string ((rd_T58 l0 x15_1).f1))) = w14 at n0_ n1_ n2_ ⊢
          have HO_5 := n0_
          have BK103 := n1_
          have HB := n2_
          clear n0_ n1_ n2_
          have n0_ := Aside0.mk (Kd.R_drew HO_5.out)
          have n1_ := Aside0.mk (blk_drew BK103.out)
          have n2_ := Aside0.mk (below_drew1 HB.out)
          clear HO_5
          clear BK103
          clear HB
          have HO_5 := n0_
          have BK103 := n1_
          have HB := n2_
          clear n0_ n1_ n2_
          refine start_ (n := 11) (S := fun w' => w'.cell? ⟨gb103, 0, none⟩ = some (.string ((rd_T58 l0 x15_1).f0)) ∧ w'.cell? ⟨gb103, 1, none⟩ = some (.string ((rd_T58 l0 x15_1).f1))) (ds := []) #[false, false, false, false, false, false, false, false, false, false, false] (by kernel_rfl) rfl rfl ⟨(blk_cell BK103.out 0).trans rfl, (blk_cell BK103.out 1).trans rfl⟩ (fun hHeld => ?_); refine with_tabW labels_Text.tab8 labels_Text.bits8 (fun HT_ HW_ => ?_)
          generalize w14.drew = w15 at HO_5 BK103 HB hHeld ⊢
          refine pure_ (i := 0) (N := some 19) (v := ?_) (a' := ?_) #[true, false, false, false, false, false, false, false, false, false, false] rfl rfl (any_of HT_.out (by kernel_rfl)) (fun _ _ _ h => h) (Or.inl ⟨by rfl, ?_⟩) ?_ ?_
          rotate_left
          ·intro w'
           go_simp
           with_reducible rfl
          rotate_left
          ·simp only [Act.put, List.setIfInBounds_toArray, List.set_cons_zero, List.set_cons_succ, i64_w, i32_w]
           rfl
          refine pure_ (i := 1) (N := some 20) (v := ?_) (a' := ?_) #[true, true, false, false, false, false, false, false, false, false, false] rfl rfl (any_of HT_.out (by kernel_rfl)) (fun _ _ _ h => h) (Or.inl ⟨by rfl, ?_⟩) ?_ ?_
          rotate_left
          ·intro w'
           go_simp
           with_reducible rfl
          rotate_left
          ·simp only [Act.put, List.setIfInBounds_toArray, List.set_cons_zero, List.set_cons_succ, i64_w, i32_w]
           rfl
          refine pure_ (i := 4) (N := some 23) (v := ?_) (a' := ?_) #[true, true, false, false, true, false, false, false, false, false, false] rfl rfl (any_of HT_.out (by kernel_rfl)) (fun _ _ _ h => h) (Or.inl ⟨by rfl, ?_⟩) ?_ ?_
          rotate_left
          ·intro w'
           go_simp
           with_reducible rfl
          rotate_left
          ·simp only [Act.put, List.setIfInBounds_toArray, List.set_cons_zero, List.set_cons_succ, i64_w, i32_w]
           rfl
          refine take_ (i := 2) (N := some 21) (v := ?_) (a' := ?_) #[true, true, true, false, true, false, false, false, false, false, false] rfl rfl (take_ofW HT_.out HW_.out (by kernel_rfl)) (fun _ _ _ h => h) (Or.inl ⟨by rfl, ?_⟩) hHeld ?_ ?_
          rotate_left
          ·rintro w' ⟨s0, s1⟩
           go_simp
           with_reducible rfl
          rotate_left
          ·simp only [Act.put, List.setIfInBounds_toArray, List.set_cons_zero, List.set_cons_succ, i64_w, i32_w]
           rfl
          refine pure_ (i := 3) (N := some 22) (v := ?_) (a' := ?_) #[true, true, true, true, true, false, false, false, false, false, false] rfl rfl (any_of HT_.out (by kernel_rfl)) (fun _ _ _ h => h) (Or.inl ⟨by rfl, ?_⟩) ?_ ?_
          rotate_left
          ·intro w'
           go_simp
           with_reducible rfl
          rotate_left
          ·simp only [Act.put, List.setIfInBounds_toArray, List.set_cons_zero, List.set_cons_succ, i64_w, i32_w]
           rfl
          refine take_ (i := 5) (N := some 24) (v := ?_) (a' := ?_) #[true, true, true, true, true, true, false, false, false, false, false] rfl rfl (take_ofW HT_.out HW_.out (by kernel_rfl)) (fun _ _ _ h => h) (Or.inl ⟨by rfl, ?_⟩) hHeld ?_ ?_
          rotate_left
          ·rintro w' ⟨s0, s1⟩
           go_simp
           with_reducible rfl
          rotate_left
          ·simp only [Act.put, List.setIfInBounds_toArray, List.set_cons_zero, List.set_cons_succ, i64_w, i32_w]
           rfl
          refine one_ (i := 6) (N := some 25) #[true, true, true, true, true, true, true, false, false, false, false] rfl rfl (one_of HT_.out (by kernel_rfl)) (by decide) (fun K hK => ?_)
          refine goes_ Try.func29 (by kernel_rfl) rfl #[.string ((rd_T58 l0 x15_1).f1)] (by rfl) rfl rfl (by (try simp only [List.map_toArray, List.map_cons, List.map_nil]); first | done | rfl | (simp only [List.length_drop, List.length_take]; rfl)) ?_
          with_reducible refine (labels_quoted.calls k1 ((rd_T58 l0 x15_1).f1) t104 _ A9.out).mono ?_
          rintro e w16 ⟨rfl, hb⟩
          refine ⟨_, rfl, ?_⟩
          have n0_ := Aside0.mk (Kd.R_below (by (with_reducible repeat (first | apply Kd.R_alloc | apply Kd.R_drewN | apply Kd.R_drew)); exact HO_5.out) hb)
          have n1_ := Aside0.mk (blk_below (g := gb103) (o := .cells #[.string ((rd_T58 l0 x15_1).f0), .string ((rd_T58 l0 x15_1).f1)] 58 (0, 0)) (by (with_reducible repeat (first | refine blk_drewN ?_ _ | refine blk_drew ?_ | refine blk_alloc ?_ _)); exact BK103.out) hb)
          have n2_ := Aside0.mk (below_step (by repeat (first | (with_reducible first | exact HB.out | apply below_alloc | apply pw_below_drewN | apply below_drew1 | refine below_set ?_ GE103.out) | exact HB.out)) hb)
          clear HO_5
          clear BK103
          clear HB
          have HO_5 := n0_
          have BK103 := n1_
          have HB := n2_
          clear n0_ n1_ n2_
          (try clear hb)
          (try clear hb2)
          (try clear hk)
          (try clear hi)
          refine hK.out _ _ ⟨(blk_cell BK103.out 0).trans rfl, (blk_cell BK103.out 1).trans rfl⟩ (fun hHeld => ?_)
          clear hK K
          refine norm_ (a' := ?_) ?_ ?_
          rotate_left
          ·show Act.put _ (some 25) _ = _
           simp only [Act.put, List.setIfInBounds_toArray, List.set_cons_zero, List.set_cons_succ, i64_w, i32_w]
           rfl
          refine pure_ (i := 7) (N := some 26) (v := ?_) (a' := ?_) #[true, true, true, true, true, true, true, true, false, false, false] rfl rfl (any_of HT_.out (by kernel_rfl)) (fun _ _ _ h => h) (Or.inl ⟨by rfl, ?_⟩) ?_ ?_
          rotate_left
          ·intro w'
           go_simp
           with_reducible rfl
          rotate_left
          ·simp only [Act.put, List.setIfInBounds_toArray, List.set_cons_zero, List.set_cons_succ, i64_w, i32_w]
           rfl
          refine one_ (i := 8) (N := some 27) #[true, true, true, true, true, true, true, true, true, false, false] rfl rfl (one_of HT_.out (by kernel_rfl)) (by decide) (fun K hK => ?_)
          refine value_ (w1 := ?_) (v := ?_) (by rfl) rfl ?_ ?_
          rotate_left 2
          ·go_simp
           constructor
           ·rfl
           ·rfl
          refine hK.out _ _ ⟨(blk_cell (blk_alloc BK103.out _) 0).trans rfl, (blk_cell (blk_alloc BK103.out _) 1).trans rfl⟩ (fun hHeld => ?_)
          clear hK K
          refine norm_ (a' := ?_) ?_ ?_
          rotate_left
          ·show Act.put _ (some 27) _ = _
           simp only [Act.put, List.setIfInBounds_toArray, List.set_cons_zero, List.set_cons_succ, i64_w, i32_w]
           rfl
          refine one_ (i := 9) (N := some 28) #[true, true, true, true, true, true, true, true, true, true, false] rfl rfl (one_of HT_.out (by kernel_rfl)) (by decide) (fun K hK => ?_)
          refine Kd.R_append_step Kd.string (w0 := w) w.heap.size (by rfl) (.tmp 19) (.tmp 27) 60 9 (.string ⟨#[]⟩) 16 rfl Try.underlying60 info9 rfl (by decide) (by omega) u5 x5_1 ((((rd_T58 l0 x15_1).f0) ++ (⟨#[61]⟩ : ByteArray)) ++ t104) [.string ((((rd_T58 l0 x15_1).f0) ++ (⟨#[61]⟩ : ByteArray)) ++ t104)] (fun _ => True) (fun _ => False) rfl rfl ?aP (fun _ hk => hk.elim) ?aF ?aO ?aB ?aS ?aL ?_
          (case aP => exact rfl)
          (case aB => exact (by repeat (first | (with_reducible first | exact HB.out | apply below_alloc | apply pw_below_drewN | apply below_drew1 | refine below_set ?_ GE103.out) | exact HB.out)))
          (case aF => exact (fun _ _ => trivial))
          (case aO => exact (by (with_reducible repeat (first | apply Kd.R_alloc | apply Kd.R_drewN | apply Kd.R_drew)); exact HO_5.out))
          (case aS => exact (below_size (by repeat (first | (with_reducible first | exact HB.out | apply below_alloc | apply pw_below_drewN | apply below_drew1 | refine below_set ?_ GE103.out) | exact HB.out))))
          (case aL => have := LMc11.out; omega)
          intro v106 w17 ho hb hg hat
          rw [← Ny105.out] at ho
          have n0_ := Aside0.mk (blk_grown (g := gb103) (o := .cells #[.string ((rd_T58 l0 x15_1).f0), .string ((rd_T58 l0 x15_1).f1)] 58 (0, 0)) (by (with_reducible repeat (first | refine blk_drewN ?_ _ | refine blk_drew ?_ | refine blk_alloc ?_ _)); exact BK103.out) hg (Kd.R_ne HO_5.out BK103.out (by decide)))
          have n1_ := Aside0.mk (hb)
          have n2_ := Aside0.mk (ho)
          clear BK103
          clear HB
          clear HO_5
          have BK103 := n0_
          have HB := n1_
          have HO107 := n2_
          clear n0_ n1_ n2_
          clear ho hb hg hat
          refine hK.out _ _ ⟨(blk_cell BK103.out 0).trans rfl, (blk_cell BK103.out 1).trans rfl⟩ (fun hHeld => ?_)
          clear hK K
          refine norm_ (a' := ?_) ?_ ?_
          rotate_left
          ·show Act.put _ (some 28) _ = _
           simp only [Act.put, List.setIfInBounds_toArray, List.set_cons_zero, List.set_cons_succ, i64_w, i32_w]
           rfl
          refine pure_ (i := 10) (N := some 5) (v := ?_) (a' := ?_) #[true, true, true, true, true, true, true, true, true, true, true] rfl rfl (any_of HT_.out (by kernel_rfl)) (fun _ _ _ h => h) (Or.inl ⟨by rfl, ?_⟩) ?_ ?_
          rotate_left
          ·intro w'
           go_simp
           with_reducible rfl
          rotate_left
          ·simp only [Act.put, List.setIfInBounds_toArray, List.set_cons_zero, List.set_cons_succ, i64_w, i32_w]
           rfl
          refine done_ (done_of HT_.out (by kernel_rfl)) ?_
          try go_wp2
          go_roundg k1
          case measure => have := HK1.out; omega
          case rel => exact ⟨(y105), (wrap64 (x15_1 + 1)), (by first | rfl | (simp; done) | (simp [*]; done)), H', ⟨by have := HK1.out; omega⟩, ⟨by (with_reducible repeat (first | apply Kd.R_alloc | apply Kd.R_drewN | apply Kd.R_drew)); exact HO107.out⟩, ⟨by repeat (first | (with_reducible first | exact HB.out | apply below_alloc | apply pw_below_drewN | apply below_drew1 | refine below_set ?_ GE103.out) | exact HB.out)⟩⟩
         ·rw [if_neg c11] at H
          exact absurd H (by simp)
        ·rw [if_neg c10] at H
         exact absurd H (by simp)
       ·rw [if_neg c8] at H
        exact absurd H (by simp)
      ·rw [if_neg c7] at H
       exact absurd H (by simp)
     ·rw [if_neg c6] at H
      exact absurd H (by simp)
    ·rw [if_neg c5] at H
     have c5b0 : decide (x15_1 < (l0.length : Int)) = false := decide_eq_false c5
     clear c5
     replace H := Option.bind_eq_some_iff.mp H
     obtain ⟨t108, A180, H⟩ := H
     replace H : (some (t108, 0)) = some (r1, r2) := H
     have A18 := Aside0.mk A180
     clear A180
     simp only [Option.some.injEq, Prod.mk.injEq] at H
     obtain ⟨rfl, rfl⟩ := H
     obtain ⟨Ao19, co19, eo19⟩ := Kd.R_slice HO_5.out
     subst eo19
     go_wp2_with (first | ((with_reducible refine gate_callee (f := 30) rfl ?_); refine goesL_ (some 31) rfl rfl Try.func30 (by kernel_rfl) rfl #[.slice Ao19 x5_1.length co19] rfl (by (try simp only [List.map_toArray, List.map_cons, List.map_nil]); first | done | rfl | (simp only [List.length_drop, List.length_take]; rfl)) ?_; (with_reducible refine (labels_braced.calls _ _ x5_1 t108 _ ?side1 ?side2 A18.out).mono ?_); (case side1 => repeat (first | exact (Kd.R_reads' HO_5.out).2.2 | (with_reducible refine Kd.C_alloc ?_ _) | (with_reducible refine Kd.C_drewN ?_ _) | (with_reducible refine Kd.C_drew ?_))); (case side2 => exact (Kd.R_reads' HO_5.out).2.1); rintro e w20 ⟨rfl, hb⟩; refine ⟨_, rfl, ?_⟩; have n0_ := Aside0.mk (Kd.R_below (by (with_reducible repeat (first | apply Kd.R_alloc | apply Kd.R_drewN | apply Kd.R_drew)); exact HO_5.out) hb); have n1_ := Aside0.mk (below_step (by repeat (first | (with_reducible first | exact HB.out | apply below_alloc | apply pw_below_drewN | apply below_drew1) | exact HB.out)) hb); clear HO_5; clear HB; have HO_5 := n0_; have HB := n1_; clear n0_ n1_; (try clear hb); (try clear hb2); (try clear hk); (try clear hi); clear A18))
     go_ret2
     exact ⟨by first | rfl | (simp [errW_none, errW_some] <;> rfl) | (simp [*, errW_none, errW_some] <;> rfl), by repeat (first | (with_reducible first | exact HB.out | apply below_alloc | apply pw_below_drewN | apply below_drew1) | exact HB.out)⟩
 ·rw [if_neg c3] at H
  have c3b0 : (t101 == 0) = false := beq_eq_false_iff_ne.mpr c3
  have c3b1 : (t101 != 0) = true := bne_iff_ne.mpr c3
  simp only [Option.some.injEq, Prod.mk.injEq] at H
  obtain ⟨rfl, rfl⟩ := H
  go_enter Try.func13, Try.ntmps13
  go_wp2_with (first | ((with_reducible refine gate_callee (f := 14) rfl ?_); refine goesL_ (some 9) rfl rfl Try.func14 (by kernel_rfl) rfl #[.slice A0 l0.length c0] rfl (by (try simp only [List.map_toArray, List.map_cons, List.map_nil]); first | done | rfl | (simp only [List.length_drop, List.length_take]; rfl)) ?_; (with_reducible refine (labels_Check.calls k _ _ l0 t101 _ ?side1 ?side2 A2.out).mono ?_); (case side1 => repeat (first | exact HR0.out | (with_reducible refine Kd.C_alloc ?_ _) | (with_reducible refine Kd.C_drewN ?_ _) | (with_reducible refine Kd.C_drew ?_))); (case side2 => exact HC0.out); rintro e w21 ⟨rfl, hb⟩; refine ⟨_, rfl, ?_⟩; have n0_ := Aside0.mk (below_step (by repeat (first | (with_reducible first | exact HB.out | apply below_alloc | apply pw_below_drewN | apply below_drew1) | exact HB.out)) hb); clear HB; have HB := n0_; clear n0_; (try clear hb); (try clear hb2); (try clear hk); (try clear hi); clear A2))
  go_ret2
  exact ⟨by first | rfl | (simp [errW_none, errW_some] <;> rfl) | (simp [*, errW_none, errW_some] <;> rfl), by repeat (first | (with_reducible first | exact HB.out | apply below_alloc | apply pw_below_drewN | apply below_drew1) | exact HB.out)⟩
end Go.Proofs.Ytbfiacnmielajaa.P
namespace Go.Proofs.Ytbfiacnmielajaa.P
open Go.RowKit Go.Proofs.YtbfiacnmielajaaW.PrintWords Go.Proofs.YtbfiacnmielajaaW.PrintLast Go.Proofs.YtbfiacnmielajaaW.PrintMore
attribute [local go_sem] max2_int min2_int max_two min_two max_three min_three max_four min_four
set_option linter.unusedVariables false
set_option linter.unusedSimpArgs false
def sgn : Nat → ByteArray
  | 0 => ⟨#[61]⟩
  | 1 => ⟨#[33, 61]⟩
  | 2 => ⟨#[94, 61]⟩
  | _ => ⟨#[42, 61]⟩
set_option maxHeartbeats 4000000 in
set_option maxRecDepth 100000 in
theorem signs_c (w : World) : Calls Try.prog 42 #[] w fun e w' => e = .returned (.agg #[.string ⟨#[61]⟩, .string ⟨#[33, 61]⟩, .string ⟨#[94, 61]⟩, .string ⟨#[42, 61]⟩]) ∧ Below w.heap.size w w' := by
  go_enter Try.func42, Try.ntmps42
  go_wp2
  refine bodyPost_ret (v := .agg #[.string ⟨#[61]⟩, .string ⟨#[33, 61]⟩, .string ⟨#[94, 61]⟩, .string ⟨#[42, 61]⟩]) ?_ rfl ⟨rfl, ?_⟩
  · simp [results, Try.results42, go_sem]
  · exact below_alloc (Below.refl _ _) _
theorem run_index_arr {P : Program} {t e : TypeId} {n : Nat} {i : TypeInfo} (h : P.underlying t = some (.array n e)) (hi : P.info? e = some i) (hc : P.cellsOf e = 1) (he : P.plainKey e = true) {cs : Array Value} {x : Int} {v : Value} (h0 : 0 ≤ x) (h1 : x < n) (hv : cs[x.toNat]? = some v) (w : World) :
    (Instr.index t (.agg cs) (.int .i64 x)).run P w = .ok v w := by
  have hp : ∀ w, (part e cs x.toNat).run P w = .ok v w := fun w => run_part_plain w he hv
  have hh : 0 ≤ x ∧ x < (n : Int) := ⟨h0, h1⟩
  simp [Instr.index, run_underlying h, asIntOf, hh, run_sizeOf w hi, hc, hp]
theorem sg_at (i : Nat) (hi : i < 4) (w : World) : (Instr.index 64 (.agg #[.string ⟨#[61]⟩, .string ⟨#[33, 61]⟩, .string ⟨#[94, 61]⟩, .string ⟨#[42, 61]⟩]) (.int .i64 (i : Int))).run Try.prog w = .ok (.string (sgn i)) w := by
  have h4 : ∃ j, Try.prog.info? 9 = some j := by
    have : (Try.prog.info? 9).isSome = true := by kernel_rfl
    exact Option.isSome_iff_exists.1 this
  obtain ⟨j, hj⟩ := h4
  refine run_index_arr Try.underlying64 hj (by kernel_rfl) (by kernel_rfl) (by omega) (by omega) ?_ w
  obtain rfl | rfl | rfl | rfl : i = 0 ∨ i = 1 ∨ i = 2 ∨ i = 3 := by omega
  all_goals rfl
theorem sg0 (w : World) : (Instr.index 64 (.agg #[.string ⟨#[61]⟩, .string ⟨#[33, 61]⟩, .string ⟨#[94, 61]⟩, .string ⟨#[42, 61]⟩]) (.int .i64 0)).run Try.prog w = .ok (.string (sgn 0)) w := sg_at 0 (by decide) w
theorem sg1 (w : World) : (Instr.index 64 (.agg #[.string ⟨#[61]⟩, .string ⟨#[33, 61]⟩, .string ⟨#[94, 61]⟩, .string ⟨#[42, 61]⟩]) (.int .i64 1)).run Try.prog w = .ok (.string (sgn 1)) w := sg_at 1 (by decide) w
theorem sg2 (w : World) : (Instr.index 64 (.agg #[.string ⟨#[61]⟩, .string ⟨#[33, 61]⟩, .string ⟨#[94, 61]⟩, .string ⟨#[42, 61]⟩]) (.int .i64 2)).run Try.prog w = .ok (.string (sgn 2)) w := sg_at 2 (by decide) w
theorem sg3 (w : World) : (Instr.index 64 (.agg #[.string ⟨#[61]⟩, .string ⟨#[33, 61]⟩, .string ⟨#[94, 61]⟩, .string ⟨#[42, 61]⟩]) (.int .i64 3)).run Try.prog w = .ok (.string (sgn 3)) w := sg_at 3 (by decide) w
def labels_reader_sign.l0 : Nat → Nat → ByteArray → Bool → Option (Int × ByteArray × Bool)
  | 0, _, s, _ => some (0, s, true)
  | d + 1, i, s, bad => (strings_HasPrefix.f s (sgn i)).bind fun b => if b = true then (labels_reader_take.f s bad (sgn i)).bind fun t => some ((i : Int), t.1, t.2) else labels_reader_sign.l0 d (i + 1) s bad
def labels_reader_sign.f (s0_0 : ByteArray) (s0_1 : Bool) : Option (Int × ByteArray × Bool) := labels_reader_sign.l0 4 0 s0_0 s0_1
set_option maxHeartbeats 8000000 in
set_option maxRecDepth 100000 in
theorem labels_reader_sign.calls (g : Nat) (s0_0 : ByteArray) (s0_1 : Bool) (r1 : Int) (r2 : ByteArray) (r3 : Bool) (w0 w : World) (hI : IsS67 w0 w g s0_0 s0_1) (hB : Below w0.heap.size w0 w) (h : labels_reader_sign.f s0_0 s0_1 = some (r1, r2, r3)) :
    Calls Try.prog 48 #[.pointer (some ⟨g, 0, none⟩)] w fun e w' => e = .returned (.int .i64 r1) ∧ IsS67 w0 w' g r2 r3 ∧ Below w0.heap.size w0 w' ∧ KeepBut w w' g none := by
  have HI0 := Aside0.mk hI
  have HB := Aside0.mk hB
  have HK := Aside0.mk (KeepBut.refl w g none)
  have H := Aside0.mk h
  clear hI hB h
  have hs0 := sg0
  have hs1 := sg1
  have hs2 := sg2
  have hs3 := sg3
  go_enter Try.func48, Try.ntmps48
  go_wp2_with (go_at_call 42; (with_reducible refine (signs_c _).mono ?_); rintro e W1 ⟨rfl, hb⟩; replace HI0 := Aside0.mk (HI0.out.below hb); replace HK := Aside0.mk (HK.out.trans (KeepBut.of_below hb g none) (.inl rfl)); replace HB := Aside0.mk (below_then HB.out HB.out.size hb); clear hb)
  go_loopg [6] 4 (fun gg v6 wr => ∃ (i : Nat) (x : Int), i + gg = 4 ∧ x = i ∧ v6 = .int .i64 x ∧ Aside0 (labels_reader_sign.l0 gg i s0_0 s0_1 = some (r1, r2, r3)) ∧ Aside0 (IsS67 w0 wr g s0_0 s0_1) ∧ Aside0 (Below w0.heap.size w0 wr) ∧ Aside0 (KeepBut w wr g none))
  case atStart => exact ⟨0, 0, by omega, rfl, rfl, H, HI0, HB, HK⟩
  case round =>
    clear H HI0 HB HK
    obtain ⟨i, x, hi, hx, rfl, H, HI0, HB, HK⟩ := hrel
    have hc0 := cellS67_0 HI0.out.1
    have hc1 := cellS67_1 HI0.out.1
    have hf0 := blk_frozen HI0.out.1 0
    have hf1 := blk_frozen HI0.out.1 1
    cases gk with
    | zero =>
      obtain rfl : i = 4 := by omega
      obtain rfl : x = 4 := hx
      have h := H.out
      simp only [labels_reader_sign.l0, Option.some.injEq, Prod.mk.injEq] at h
      obtain ⟨rfl, rfl, rfl⟩ := h
      clear H hi
      go_wp2
      go_ret
      exact ⟨rfl, HI0.out.set_1 true, below_set HB.out HI0.out.ge, HK.out.set_ 1 _⟩
    | succ g1 =>
      have h := H.out
      simp only [labels_reader_sign.l0] at h
      replace h := Option.bind_eq_some_iff.mp h
      obtain ⟨b, hp, h⟩ := h
      have HP := Aside0.mk hp
      clear H hp
      cases b with
      | true =>
        rw [if_pos rfl] at h
        replace h := Option.bind_eq_some_iff.mp h
        obtain ⟨⟨t1, t2⟩, ht, h⟩ := h
        simp only [Option.some.injEq, Prod.mk.injEq] at h
        obtain ⟨rfl, rfl, rfl⟩ := h
        have HT := Aside0.mk ht
        clear ht
        (obtain ⟨rfl, rfl⟩ | ⟨rfl, rfl⟩ | ⟨rfl, rfl⟩ | ⟨rfl, rfl⟩ : (i = 0 ∧ x = 0) ∨ (i = 1 ∧ x = 1) ∨ (i = 2 ∧ x = 2) ∨ (i = 3 ∧ x = 3) := by omega) <;> (
          clear hi hx
          go_wp2_with (first | (go_at_call 46; (with_reducible refine (strings_HasPrefix.calls s0_0 _ true _ HP.out).mono ?_); rintro e w' ⟨rfl, ⟨nd, rfl⟩⟩) | (go_at_call 45; (with_reducible refine (labels_reader_take.calls g s0_0 s0_1 _ t1 t2 w0 _ (IsS67.drewN HI0.out _) (pw_below_drewN HB.out _) HT.out).mono ?_); rintro e w' ⟨rfl, hI, hB, hK⟩; replace HI0 := Aside0.mk hI; replace HB := Aside0.mk hB; replace HK := Aside0.mk ((keep_drewN HK.out _).trans hK (.inl rfl)); clear hI hB hK hc0 hc1 hf0 hf1))
          go_ret
          exact ⟨rfl, HI0.out, HB.out, HK.out⟩)
      | false =>
        replace h : labels_reader_sign.l0 g1 (i + 1) s0_0 s0_1 = some (r1, r2, r3) := h
        have H := Aside0.mk h
        clear h
        (obtain ⟨rfl, rfl⟩ | ⟨rfl, rfl⟩ | ⟨rfl, rfl⟩ | ⟨rfl, rfl⟩ : (i = 0 ∧ x = 0) ∨ (i = 1 ∧ x = 1) ∨ (i = 2 ∧ x = 2) ∨ (i = 3 ∧ x = 3) := by omega) <;> (
          clear hx
          go_wp2_with (go_at_call 46; (with_reducible refine (strings_HasPrefix.calls s0_0 _ false _ HP.out).mono ?_); rintro e w' ⟨rfl, ⟨nd, rfl⟩⟩)
          go_roundg g1
          case measure => omega
          case rel =>
            refine ⟨_, _, ?_, ?_, rfl, H, ⟨IsS67.drewN HI0.out _⟩, ⟨pw_below_drewN HB.out _⟩, ⟨keep_drewN HK.out _⟩⟩
            · omega
            · rfl)
end Go.Proofs.Ytbfiacnmielajaa.P
namespace Go.Proofs.Ytbfiacnmielajaa.P
open Go.RowKit Go.Proofs.YtbfiacnmielajaaW.PrintWords Go.Proofs.YtbfiacnmielajaaW.PrintLast Go.Proofs.YtbfiacnmielajaaW.PrintMore
attribute [local go_sem] max2_int min2_int max_two min_two max_three min_three max_four min_four
set_option linter.unusedVariables false
set_option linter.unusedSimpArgs false
def cut1 (s : ByteArray) : ByteArray := s.extract 1 s.size
def hp1 (s : ByteArray) (c : Int) : Bool := decide (0 < s.size) && decide (bt s 0 = c)
theorem hasPrefix1 (s : ByteArray) (x : UInt8) : strings_HasPrefix.f s ⟨#[x]⟩ = some (hp1 s x.toNat) := by
  unfold strings_HasPrefix.f stringslite_HasPrefix.f hp1
  have h1 : ((⟨#[x]⟩ : ByteArray).size : Int) = 1 := rfl
  rw [h1]
  by_cases h : 0 < s.size
  · rw [if_pos (by omega), if_pos (by omega), if_pos (by omega), decide_eq_true h]
    simp only [Option.bind_some, Bool.true_and]
    congr 1
    have e : (s.extract 0 (1 : Int).toNat).toList = [s[0]'h] := by
      have : (s.extract 0 1).data.toList = [s[0]'h] := by
        rw [ByteArray.data_extract, Array.toList_extract]
        cases hs : s.data.toList with
        | nil => have : s.data.size = 0 := by rw [← Array.length_toList, hs]; rfl
                 exact absurd h (by show ¬ 0 < s.data.size; omega)
        | cons a l =>
          have : s[0]'h = a := by
            show s.data[0]'h = a
            have : s.data.toList[0]'(by rw [hs]; simp) = a := by simp [hs]
            rw [← this]; rfl
          simp [this, List.extract]
      rw [Go.ByteArray.toList_eq]; exact this
    rw [e]
    have e2 : (⟨#[x]⟩ : ByteArray).toList = [x] := by rw [Go.ByteArray.toList_eq]
    rw [e2]
    have e3 : bt s 0 = ((s[0]'h).toNat : Int) := (bt_at s 0 (by simpa using h)).symm
    rw [e3]
    by_cases hx : s[0]'h = x
    · rw [hx]; simp
    · have hx' : ¬ ((s[0]'h).toNat : Int) = (x.toNat : Int) := fun e => hx (UInt8.toNat_inj.1 (by omega))
      rw [decide_eq_false hx']; simp [hx]
  · rw [if_neg (by omega), decide_eq_false h]; rfl
theorem cut1_size (s : ByteArray) : (cut1 s).size = s.size - 1 := by unfold cut1; rw [ByteArray.size_extract]; omega
def valL : Nat → ByteArray → Bool → List Int → Option (List Int × ByteArray × Bool)
  | 0, _, _, _ => none
  | d + 1, s, bad, o =>
    if s.size = 0 then some (o, s, bad) else if bt s 0 = 34 then some (o, s, bad) else
    if bt s 0 = 10 then valL d (cut1 s) true (o ++ [10]) else
    if bt s 0 = 92 then
      (if hp1 (cut1 s) 110 = true then valL d (cut1 (cut1 s)) bad (o ++ [10]) else
       if hp1 (cut1 s) 34 = true then valL d (cut1 (cut1 s)) bad (o ++ [34]) else
       if hp1 (cut1 s) 92 = true then valL d (cut1 (cut1 s)) bad (o ++ [92]) else valL d (cut1 s) true (o ++ [92]))
    else valL d (cut1 s) bad (o ++ [bt s 0])
def labels_reader_value.f (s0_0 : ByteArray) (s0_1 : Bool) : Option (ByteArray × ByteArray × Bool) :=
  if s0_0.size ≤ 1000000 then
    (labels_reader_take.f s0_0 s0_1 ⟨#[34]⟩).bind fun t => (valL (t.1.size + 1) t.1 t.2 []).bind fun v =>
      (labels_reader_take.f v.2.1 v.2.2 ⟨#[34]⟩).bind fun u => some (strOfNums v.1, u.1, u.2)
  else none
theorem take_size {s : ByteArray} {b : Bool} {t : ByteArray} {r1 : ByteArray} {r2 : Bool} (h : labels_reader_take.f s b t = some (r1, r2)) : r1.size ≤ s.size := by
  unfold labels_reader_take.f strings_CutPrefix.f stringslite_CutPrefix.f at h
  have key : ∀ p, strings_HasPrefix.f s t = p → True := fun _ _ => trivial
  revert h
  cases hp : stringslite_HasPrefix.f s t with
  | none => intro h; simp at h
  | some q =>
    simp only [Option.bind_some]
    cases q with
    | false => intro h; cases b <;> simp at h <;> (obtain ⟨rfl, _⟩ := h; exact Nat.le_refl _)
    | true =>
      simp only [if_true]
      by_cases c1 : 0 ≤ (t.size : Int)
      · by_cases c2 : (t.size : Int) ≤ s.size
        · rw [if_pos c1, if_pos c2]
          intro h
          cases b <;> simp at h <;> (obtain ⟨rfl, _⟩ := h; rw [ByteArray.size_extract]; omega)
        · rw [if_pos c1, if_neg c2]; intro h; simp at h
      · rw [if_neg c1]; intro h; simp at h
set_option maxHeartbeats 16000000 in
set_option maxRecDepth 100000 in
theorem labels_reader_value.calls (g : Nat) (s0_0 : ByteArray) (s0_1 : Bool) (r1 : ByteArray) (r2 : ByteArray) (r3 : Bool) (w0 w : World) (hI : IsS67 w0 w g s0_0 s0_1) (hB : Below w0.heap.size w0 w) (h : labels_reader_value.f s0_0 s0_1 = some (r1, r2, r3)) :
    Calls Try.prog 49 #[.pointer (some ⟨g, 0, none⟩)] w fun e w' => e = .returned (.string r1) ∧ IsS67 w0 w' g r2 r3 ∧ Below w0.heap.size w0 w' ∧ KeepBut w w' g none := by
  unfold labels_reader_value.f at h
  by_cases hs : s0_0.size ≤ 1000000
  rotate_left
  · rw [if_neg hs] at h; cases h
  rw [if_pos hs] at h
  replace h := Option.bind_eq_some_iff.mp h
  obtain ⟨⟨t1, t2⟩, ht, h⟩ := h
  replace h := Option.bind_eq_some_iff.mp h
  obtain ⟨⟨v1, v2, v3⟩, hv, h⟩ := h
  replace h := Option.bind_eq_some_iff.mp h
  obtain ⟨⟨q1, q2⟩, hq, h⟩ := h
  simp only [Option.some.injEq, Prod.mk.injEq] at h
  obtain ⟨rfl, rfl, rfl⟩ := h
  dsimp only at hv hq
  have hz := take_size ht
  have HZ := Aside0.mk (show t1.size ≤ 1000000 by omega)
  have HT := Aside0.mk ht
  have HV := Aside0.mk hv
  have HQ := Aside0.mk hq
  have HI0 := Aside0.mk hI
  have HB := Aside0.mk hB
  have HK := Aside0.mk (KeepBut.refl w g none)
  have HG := Aside0.mk hI.lt
  clear hI hB ht hv hq hz hs
  go_enter Try.func49, Try.ntmps49
  go_wp2_with (go_at_call 45; (with_reducible refine (labels_reader_take.calls g s0_0 s0_1 _ t1 t2 w0 _ HI0.out HB.out HT.out).mono ?_); rintro e w1 ⟨rfl, hI, hB, hK⟩; replace HI0 := Aside0.mk hI; replace HB := Aside0.mk hB; replace HK := Aside0.mk (HK.out.trans hK (.inl rfl)); clear hI hB hK)
  go_loopg [3, 4, 34, 40, 58, 88] (t1.size + 1) (fun gg z3 _ _ _ _ _ wr => ∃ (s : ByteArray) (bad : Bool) (o : List Int), Aside0 (o.length + s.size ≤ t1.size) ∧ Aside0 (s.size < gg) ∧ Aside0 (valL gg s bad o = some (v1, v2, v3)) ∧ Aside0 (IsS67 w0 wr g s bad) ∧ Aside0 (Below w0.heap.size w0 wr) ∧ Aside0 (KeepBut w wr g none) ∧ Aside0 (Kd.R (Kd.int .u8) 5 wr w0.heap.size (fun k => w.heap.size ≤ k) z3 o))
  case atStart => exact ⟨t1, t2, [], ⟨by simp⟩, ⟨by omega⟩, HV, HI0, HB, HK, ⟨Kd.R_nil _ _ _ _ _⟩⟩
  case round =>
    clear HV HI0 HB HK HT
    obtain ⟨s, bad, o, HL, HF, HV, HI0, HB, HK, HO⟩ := hrel
    have hc0 := cellS67_0 HI0.out.1
    have hc1 := cellS67_1 HI0.out.1
    have hf0 := blk_frozen HI0.out.1 0
    have hf1 := blk_frozen HI0.out.1 1
    cases gk with
    | zero => exact absurd HF.out (by omega)
    | succ d =>
      have h := HV.out
      simp only [valL] at h
      clear HV
      have HW : Aside0 (w.heap.size ≤ wr.heap.size) := ⟨HK.out.1⟩
      by_cases c0 : s.size = 0
      · rw [if_pos c0] at h
        have d0 : decide ((0 : Int) < (s.size : Int)) = false := decide_eq_false (by omega)
        have d1 : decide (0 < s.size) = false := decide_eq_false (by omega)
        clear c0
        simp only [Option.some.injEq, Prod.mk.injEq] at h
        obtain ⟨rfl, rfl, rfl⟩ := h
        have hcv := own_string (P := Try.prog) Try.underlying77 Try.underlying5 Try.underlying9 (Kd.own_of_R HO.out)
        go_wp2_with (go_at_call 45; (with_reducible refine (labels_reader_take.calls g s bad _ q1 q2 w0 _ HI0.out HB.out HQ.out).mono ?_); rintro e w1 ⟨rfl, hI, hB, hK⟩; replace HI0 := Aside0.mk hI; replace HB := Aside0.mk hB; replace HO := Aside0.mk (Kd.R_keep HO.out hK (fun k hk => by have := HG.out; omega)); replace HK := Aside0.mk (HK.out.trans hK (.inl rfl)); clear hI hB hK hcv; have hcv := own_string (P := Try.prog) Try.underlying77 Try.underlying5 Try.underlying9 (Kd.own_of_R HO.out))
        go_ret
        exact ⟨rfl, HI0.out, HB.out, HK.out⟩
      rw [if_neg c0] at h
      have hp0 : 0 < s.size := by omega
      have d0 : decide ((0 : Int) < (s.size : Int)) = true := decide_eq_true (by omega)
      have d1 : decide (0 < s.size) = true := decide_eq_true (by omega)
      have hx0 : ∀ h : 0 < s.size, ((s[0]'h).toNat : Int) = bt s 0 := fun h => by have := bt_at s 0 (by simpa using h); simpa using this
      generalize hcc : bt s 0 = c at *
      clear hcc c0
      by_cases c1 : c = 34
      · rw [if_pos c1] at h
        have d2 : (c != 34) = false := by simp [c1]
        clear c1
        simp only [Option.some.injEq, Prod.mk.injEq] at h
        obtain ⟨rfl, rfl, rfl⟩ := h
        have hcv := own_string (P := Try.prog) Try.underlying77 Try.underlying5 Try.underlying9 (Kd.own_of_R HO.out)
        go_wp2_with (go_at_call 45; (with_reducible refine (labels_reader_take.calls g s bad _ q1 q2 w0 _ HI0.out HB.out HQ.out).mono ?_); rintro e w1 ⟨rfl, hI, hB, hK⟩; replace HI0 := Aside0.mk hI; replace HB := Aside0.mk hB; replace HO := Aside0.mk (Kd.R_keep HO.out hK (fun k hk => by have := HG.out; omega)); replace HK := Aside0.mk (HK.out.trans hK (.inl rfl)); clear hI hB hK hcv; have hcv := own_string (P := Try.prog) Try.underlying77 Try.underlying5 Try.underlying9 (Kd.own_of_R HO.out))
        go_ret
        exact ⟨rfl, HI0.out, HB.out, HK.out⟩
      rw [if_neg c1] at h
      have d2 : (c != 34) = true := bne_iff_ne.2 c1
      unfold cut1 at h
      by_cases c2 : c = 10
      · subst c2
        rw [if_pos rfl] at h
        have HV := Aside0.mk h
        clear h
        clear c1 d2
        go_wp2_with (first | ((with_reducible refine gate_builtin (b := .append) (xs := #[.tmp 94, .tmp 96]) rfl ?_); at_builtin; refine Kd.R_append (Kd.int .u8) (w0 := w0) w0.heap.size rfl (.tmp 94) (.tmp 96) 77 5 (.int .u8 0) 1 rfl Try.underlying77 info5 rfl (by decide) (by omega) u3 o 10 [.int .u8 10] (fun k => w.heap.size ≤ k) (fun _ => False) rfl (by first | rfl | (go_simp; done) | (simp [World.setCell]; done) | (simp [World.setCell]; rfl)) ?aP (fun _ hk => hk.elim) ?aF ?aO ?aB ?aS ?aL ?_; (case aP => exact rfl); (case aB => exact (by repeat (first | exact HB.out | apply pw_below_drewN | apply below_drew1 | refine below_set ?_ (IsS67.ge HI0.out)))); (case aF => exact (fun k hk => Nat.le_trans (keep_size (w := w) (g := g) (row := none) (by repeat (first | exact HK.out | apply KeepBut.set_ | apply keep_drewN | apply keep_drew))) hk)); (case aO => exact Kd.R_keep HO.out (by repeat (first | exact KeepBut.refl _ _ _ | apply KeepBut.set_ | apply keep_drewN | apply keep_drew)) (fun k (hk : w.heap.size ≤ k) => by have := HG.out; omega)); (case aS => exact below_size (by repeat (first | exact HB.out | apply pw_below_drewN | apply below_drew1 | refine below_set ?_ (IsS67.ge HI0.out)))); (case aL => have := HL.out; have := HZ.out; omega); intro z4 w5 ho hb hg hat; have HI1 := Aside0.mk (IsS67.grown (f0 := (s.extract 1 s.size)) (f1 := true) (by repeat (first | exact HI0.out | apply IsS67.set_0 | apply IsS67.set_1 | apply IsS67.drewN | apply IsS67.drew)) hg (fun e => by have := HO.out.1 _ e.symm; have := HG.out; omega)); replace HK := Aside0.mk (KeepBut.trans (by repeat (first | exact HK.out | apply KeepBut.set_ | apply keep_drewN | apply keep_drew)) (KeepBut.of_grown hg g) (by cases hq_ : u3.ownBlock with | none => exact .inl rfl | some q_ => exact .inr ⟨q_, rfl, HO.out.1 _ hq_⟩)); replace HB := Aside0.mk hb; replace HO := Aside0.mk ho; replace HI0 := HI1; clear ho hb hg hat HI1))
        go_roundg d
        case measure => omega
        case rel =>
          refine ⟨(s.extract 1 s.size), true, _, ⟨?_⟩, ⟨?_⟩, HV, HI0, HB, HK, HO⟩
          · have h1_ := HL.out; rw [List.length_append]; have h2_ := cut1_size s; unfold cut1 at h2_; simp only [List.length_cons, List.length_nil, ByteArray.size_extract]; omega
          · have h1_ := HF.out; simp only [ByteArray.size_extract]; omega
      rw [if_neg c2] at h
      have d3 : (c == 10) = false := beq_eq_false_iff_ne.2 c2
      by_cases c3 : c = 92
      · subst c3
        rw [if_pos rfl] at h
        clear c1 c2 d2 d3
        have HSZ : Aside0 ((s.extract 1 s.size).size + 1 = s.size) := ⟨by rw [ByteArray.size_extract]; omega⟩
        by_cases b110 : hp1 (s.extract 1 s.size) 110 = true
        · rw [if_pos b110] at h
          have HV := Aside0.mk h
          clear h
          have P110 : Aside0 (strings_HasPrefix.f (s.extract 1 s.size) ⟨#[110]⟩ = some true) := ⟨by rw [hasPrefix1]; exact congrArg some b110⟩
          have hz1 : 0 < (s.extract 1 s.size).size := by unfold hp1 at b110; simp only [Bool.and_eq_true, decide_eq_true_eq] at b110; exact b110.1
          have hc1_ : bt (s.extract 1 s.size) 0 = 110 := by unfold hp1 at b110; simp only [Bool.and_eq_true, decide_eq_true_eq] at b110; exact b110.2
          have hx1 : ∀ h : 0 < (s.extract 1 s.size).size, (((s.extract 1 s.size)[0]'h).toNat : Int) = 110 := fun h => by have := bt_at (s.extract 1 s.size) 0 (by simpa using h); rw [hc1_] at this; simpa using this
          have hz2 : 1 ≤ (s.extract 1 s.size).size := hz1
          have hz3 : (1 : Int) ≤ ((s.extract 1 s.size).size : Int) := by omega
          clear hc1_
          go_wp2_with (go_at_call 46; ((with_reducible refine (strings_HasPrefix.calls (s.extract 1 s.size) ⟨#[110]⟩ true _ P110.out).mono ?_); rintro e w' ⟨rfl, ⟨nd, rfl⟩⟩; have n0 := Aside0.mk (IsS67.drewN (HI0.out.set_0 (s.extract 1 s.size)) nd); have n1 := Aside0.mk (keep_drewN (HK.out.set_ 0 (.string (s.extract 1 s.size))) nd); have n2 := Aside0.mk (pw_below_drewN (below_set (j := 0) (v := .string (s.extract 1 s.size)) HB.out (IsS67.ge HI0.out)) nd); have n3 := Aside0.mk (Kd.R_keep HO.out (keep_drewN ((KeepBut.refl wr g none).set_ 0 (.string (s.extract 1 s.size))) nd) (fun k (hk : w.heap.size ≤ k) => by have := HG.out; omega)); clear HI0 HK HB HO HW hc0 hc1 hf0 hf1; generalize World.drewN (wr.setCell ⟨g, 0, none⟩ (.string (s.extract 1 s.size))) nd = WA at n0 n1 n2 n3 ⊢; have HI0 := n0; have HK := n1; have HB := n2; have HO := n3; clear n0 n1 n2 n3; have HW : Aside0 (w.heap.size ≤ WA.heap.size) := ⟨HK.out.1⟩; have hc0 := cellS67_0 HI0.out.1; have hc1 := cellS67_1 HI0.out.1; have hf0 := blk_frozen HI0.out.1 0; have hf1 := blk_frozen HI0.out.1 1; generalize s.extract 1 s.size = s1 at *))
          have hcs : World.cell? { WA with drawn := WA.drawn + 1 } ⟨g, 0, none⟩ = some (.string s1) := hc0
          go_still_tail 9, (by kernel_rfl)
          change wpList _ _ _ _ _ WA.drew
          clear hcs
          have n0 := Aside0.mk (IsS67.drew HI0.out)
          have n1 := Aside0.mk (keep_drew HK.out)
          have n2 := Aside0.mk (below_drew1 HB.out)
          have n3 := Aside0.mk (Kd.R_keep HO.out (keep_drew (KeepBut.refl WA g none)) (fun k (hk : w.heap.size ≤ k) => by have := HG.out; omega))
          clear HI0 HK HB HO HW hc0 hc1 hf0 hf1
          generalize WA.drew = WD at n0 n1 n2 n3 ⊢
          have HI0 := n0
          have HK := n1
          have HB := n2
          have HO := n3
          clear n0 n1 n2 n3
          have HW : Aside0 (w.heap.size ≤ WD.heap.size) := ⟨HK.out.1⟩
          have hc0 := cellS67_0 HI0.out.1
          have hc1 := cellS67_1 HI0.out.1
          have hf0 := blk_frozen HI0.out.1 0
          have hf1 := blk_frozen HI0.out.1 1
          go_wp2_with ((with_reducible refine gate_builtin (b := .append) (xs := #[.tmp 94, .tmp 96]) rfl ?_); at_builtin; refine Kd.R_append (Kd.int .u8) (w0 := w0) w0.heap.size rfl (.tmp 94) (.tmp 96) 77 5 (.int .u8 0) 1 rfl Try.underlying77 info5 rfl (by decide) (by omega) u3 o 10 [.int .u8 10] (fun k => w.heap.size ≤ k) (fun _ => False) rfl (by first | rfl | (go_simp; done) | (simp [World.setCell]; done) | (simp [World.setCell]; rfl)) ?aP (fun _ hk => hk.elim) ?aF ?aO ?aB ?aS ?aL ?_; (case aP => exact rfl); (case aB => exact (by repeat (first | exact HB.out | apply pw_below_drewN | apply below_drew1 | refine below_set ?_ (IsS67.ge HI0.out)))); (case aF => exact (fun k hk => Nat.le_trans (keep_size (w := w) (g := g) (row := none) (by repeat (first | exact HK.out | apply KeepBut.set_ | apply keep_drewN | apply keep_drew))) hk)); (case aO => exact Kd.R_keep HO.out (by repeat (first | exact KeepBut.refl WD g none | apply KeepBut.set_ | apply keep_drewN | apply keep_drew)) (fun k (hk : w.heap.size ≤ k) => by have := HG.out; omega)); (case aS => exact below_size (by repeat (first | exact HB.out | apply pw_below_drewN | apply below_drew1 | refine below_set ?_ (IsS67.ge HI0.out)))); (case aL => have := HL.out; have := HZ.out; omega); intro z4 w5 ho hb hg hat; have HI1 := Aside0.mk (IsS67.grown (f0 := (s1.extract 1 s1.size)) (f1 := bad) (by repeat (first | exact HI0.out | apply IsS67.set_0 | apply IsS67.set_1 | apply IsS67.drewN | apply IsS67.drew)) hg (fun e => by have := HO.out.1 _ e.symm; have := HG.out; omega)); replace HK := Aside0.mk (KeepBut.trans (by repeat (first | exact HK.out | apply KeepBut.set_ | apply keep_drewN | apply keep_drew)) (KeepBut.of_grown hg g) (by cases hq_ : u3.ownBlock with | none => exact .inl rfl | some q_ => exact .inr ⟨q_, rfl, HO.out.1 _ hq_⟩)); replace HB := Aside0.mk hb; replace HO := Aside0.mk ho; replace HI0 := HI1; clear ho hb hg hat HI1)
          go_roundg d
          case measure => omega
          case rel =>
            refine ⟨(s1.extract 1 s1.size), bad, _, ⟨?_⟩, ⟨?_⟩, HV, HI0, HB, HK, HO⟩
            · have h1_ := HL.out; have h2_ := HSZ.out; rw [List.length_append]; simp only [List.length_cons, List.length_nil]; (try simp only [ByteArray.size_extract]); omega
            · have h1_ := HF.out; have h2_ := HSZ.out; (try simp only [ByteArray.size_extract]); omega
        rw [if_neg b110] at h
        replace b110 := Bool.eq_false_iff.2 b110
        by_cases b34 : hp1 (s.extract 1 s.size) 34 = true
        · rw [if_pos b34] at h
          have HV := Aside0.mk h
          clear h
          have P110 : Aside0 (strings_HasPrefix.f (s.extract 1 s.size) ⟨#[110]⟩ = some false) := ⟨by rw [hasPrefix1]; exact congrArg some b110⟩
          have P34 : Aside0 (strings_HasPrefix.f (s.extract 1 s.size) ⟨#[34]⟩ = some true) := ⟨by rw [hasPrefix1]; exact congrArg some b34⟩
          have hz1 : 0 < (s.extract 1 s.size).size := by unfold hp1 at b34; simp only [Bool.and_eq_true, decide_eq_true_eq] at b34; exact b34.1
          have hc1_ : bt (s.extract 1 s.size) 0 = 34 := by unfold hp1 at b34; simp only [Bool.and_eq_true, decide_eq_true_eq] at b34; exact b34.2
          have hx1 : ∀ h : 0 < (s.extract 1 s.size).size, (((s.extract 1 s.size)[0]'h).toNat : Int) = 34 := fun h => by have := bt_at (s.extract 1 s.size) 0 (by simpa using h); rw [hc1_] at this; simpa using this
          have hz2 : 1 ≤ (s.extract 1 s.size).size := hz1
          have hz3 : (1 : Int) ≤ ((s.extract 1 s.size).size : Int) := by omega
          clear hc1_
          go_wp2_with (first | (go_at_call 46; ((with_reducible refine (strings_HasPrefix.calls (s.extract 1 s.size) ⟨#[110]⟩ false _ P110.out).mono ?_); rintro e w' ⟨rfl, ⟨nd, rfl⟩⟩; have n0 := Aside0.mk (IsS67.drewN (HI0.out.set_0 (s.extract 1 s.size)) nd); have n1 := Aside0.mk (keep_drewN (HK.out.set_ 0 (.string (s.extract 1 s.size))) nd); have n2 := Aside0.mk (pw_below_drewN (below_set (j := 0) (v := .string (s.extract 1 s.size)) HB.out (IsS67.ge HI0.out)) nd); have n3 := Aside0.mk (Kd.R_keep HO.out (keep_drewN ((KeepBut.refl wr g none).set_ 0 (.string (s.extract 1 s.size))) nd) (fun k (hk : w.heap.size ≤ k) => by have := HG.out; omega)); clear HI0 HK HB HO HW hc0 hc1 hf0 hf1; generalize World.drewN (wr.setCell ⟨g, 0, none⟩ (.string (s.extract 1 s.size))) nd = WA at n0 n1 n2 n3 ⊢; have HI0 := n0; have HK := n1; have HB := n2; have HO := n3; clear n0 n1 n2 n3; have HW : Aside0 (w.heap.size ≤ WA.heap.size) := ⟨HK.out.1⟩; have hc0 := cellS67_0 HI0.out.1; have hc1 := cellS67_1 HI0.out.1; have hf0 := blk_frozen HI0.out.1 0; have hf1 := blk_frozen HI0.out.1 1; generalize s.extract 1 s.size = s1 at *)) | (go_at_call 46; ((with_reducible refine (strings_HasPrefix.calls s1 ⟨#[34]⟩ true _ P34.out).mono ?_); rintro e w' ⟨rfl, ⟨nd, rfl⟩⟩; have n0 := Aside0.mk (IsS67.drewN (HI0.out) nd); have n1 := Aside0.mk (keep_drewN (HK.out) nd); have n2 := Aside0.mk (pw_below_drewN (HB.out) nd); have n3 := Aside0.mk (Kd.R_keep HO.out (keep_drewN (KeepBut.refl WA g none) nd) (fun k (hk : w.heap.size ≤ k) => by have := HG.out; omega)); clear HI0 HK HB HO HW hc0 hc1 hf0 hf1; generalize World.drewN (WA) nd = WB at n0 n1 n2 n3 ⊢; have HI0 := n0; have HK := n1; have HB := n2; have HO := n3; clear n0 n1 n2 n3; have HW : Aside0 (w.heap.size ≤ WB.heap.size) := ⟨HK.out.1⟩; have hc0 := cellS67_0 HI0.out.1; have hc1 := cellS67_1 HI0.out.1; have hf0 := blk_frozen HI0.out.1 0; have hf1 := blk_frozen HI0.out.1 1)))
          have hcs : World.cell? { WB with drawn := WB.drawn + 1 } ⟨g, 0, none⟩ = some (.string s1) := hc0
          go_still_tail 14, (by kernel_rfl)
          change wpList _ _ _ _ _ WB.drew
          clear hcs
          have n0 := Aside0.mk (IsS67.drew HI0.out)
          have n1 := Aside0.mk (keep_drew HK.out)
          have n2 := Aside0.mk (below_drew1 HB.out)
          have n3 := Aside0.mk (Kd.R_keep HO.out (keep_drew (KeepBut.refl WB g none)) (fun k (hk : w.heap.size ≤ k) => by have := HG.out; omega))
          clear HI0 HK HB HO HW hc0 hc1 hf0 hf1
          generalize WB.drew = WD at n0 n1 n2 n3 ⊢
          have HI0 := n0
          have HK := n1
          have HB := n2
          have HO := n3
          clear n0 n1 n2 n3
          have HW : Aside0 (w.heap.size ≤ WD.heap.size) := ⟨HK.out.1⟩
          have hc0 := cellS67_0 HI0.out.1
          have hc1 := cellS67_1 HI0.out.1
          have hf0 := blk_frozen HI0.out.1 0
          have hf1 := blk_frozen HI0.out.1 1
          go_wp2_with ((with_reducible refine gate_builtin (b := .append) (xs := #[.tmp 94, .tmp 96]) rfl ?_); at_builtin; refine Kd.R_append (Kd.int .u8) (w0 := w0) w0.heap.size rfl (.tmp 94) (.tmp 96) 77 5 (.int .u8 0) 1 rfl Try.underlying77 info5 rfl (by decide) (by omega) u3 o 34 [.int .u8 34] (fun k => w.heap.size ≤ k) (fun _ => False) rfl (by first | rfl | (go_simp; done) | (simp [World.setCell]; done) | (simp [World.setCell]; rfl)) ?aP (fun _ hk => hk.elim) ?aF ?aO ?aB ?aS ?aL ?_; (case aP => exact rfl); (case aB => exact (by repeat (first | exact HB.out | apply pw_below_drewN | apply below_drew1 | refine below_set ?_ (IsS67.ge HI0.out)))); (case aF => exact (fun k hk => Nat.le_trans (keep_size (w := w) (g := g) (row := none) (by repeat (first | exact HK.out | apply KeepBut.set_ | apply keep_drewN | apply keep_drew))) hk)); (case aO => exact Kd.R_keep HO.out (by repeat (first | exact KeepBut.refl WD g none | apply KeepBut.set_ | apply keep_drewN | apply keep_drew)) (fun k (hk : w.heap.size ≤ k) => by have := HG.out; omega)); (case aS => exact below_size (by repeat (first | exact HB.out | apply pw_below_drewN | apply below_drew1 | refine below_set ?_ (IsS67.ge HI0.out)))); (case aL => have := HL.out; have := HZ.out; omega); intro z4 w5 ho hb hg hat; have HI1 := Aside0.mk (IsS67.grown (f0 := (s1.extract 1 s1.size)) (f1 := bad) (by repeat (first | exact HI0.out | apply IsS67.set_0 | apply IsS67.set_1 | apply IsS67.drewN | apply IsS67.drew)) hg (fun e => by have := HO.out.1 _ e.symm; have := HG.out; omega)); replace HK := Aside0.mk (KeepBut.trans (by repeat (first | exact HK.out | apply KeepBut.set_ | apply keep_drewN | apply keep_drew)) (KeepBut.of_grown hg g) (by cases hq_ : u3.ownBlock with | none => exact .inl rfl | some q_ => exact .inr ⟨q_, rfl, HO.out.1 _ hq_⟩)); replace HB := Aside0.mk hb; replace HO := Aside0.mk ho; replace HI0 := HI1; clear ho hb hg hat HI1)
          go_roundg d
          case measure => omega
          case rel =>
            refine ⟨(s1.extract 1 s1.size), bad, _, ⟨?_⟩, ⟨?_⟩, HV, HI0, HB, HK, HO⟩
            · have h1_ := HL.out; have h2_ := HSZ.out; rw [List.length_append]; simp only [List.length_cons, List.length_nil]; (try simp only [ByteArray.size_extract]); omega
            · have h1_ := HF.out; have h2_ := HSZ.out; (try simp only [ByteArray.size_extract]); omega
        rw [if_neg b34] at h
        replace b34 := Bool.eq_false_iff.2 b34
        by_cases b92 : hp1 (s.extract 1 s.size) 92 = true
        · rw [if_pos b92] at h
          have HV := Aside0.mk h
          clear h
          have P110 : Aside0 (strings_HasPrefix.f (s.extract 1 s.size) ⟨#[110]⟩ = some false) := ⟨by rw [hasPrefix1]; exact congrArg some b110⟩
          have P34 : Aside0 (strings_HasPrefix.f (s.extract 1 s.size) ⟨#[34]⟩ = some false) := ⟨by rw [hasPrefix1]; exact congrArg some b34⟩
          have P92 : Aside0 (strings_HasPrefix.f (s.extract 1 s.size) ⟨#[92]⟩ = some true) := ⟨by rw [hasPrefix1]; exact congrArg some b92⟩
          have hz1 : 0 < (s.extract 1 s.size).size := by unfold hp1 at b92; simp only [Bool.and_eq_true, decide_eq_true_eq] at b92; exact b92.1
          have hc1_ : bt (s.extract 1 s.size) 0 = 92 := by unfold hp1 at b92; simp only [Bool.and_eq_true, decide_eq_true_eq] at b92; exact b92.2
          have hx1 : ∀ h : 0 < (s.extract 1 s.size).size, (((s.extract 1 s.size)[0]'h).toNat : Int) = 92 := fun h => by have := bt_at (s.extract 1 s.size) 0 (by simpa using h); rw [hc1_] at this; simpa using this
          have hz2 : 1 ≤ (s.extract 1 s.size).size := hz1
          have hz3 : (1 : Int) ≤ ((s.extract 1 s.size).size : Int) := by omega
          clear hc1_
          go_wp2_with (first | (go_at_call 46; ((with_reducible refine (strings_HasPrefix.calls (s.extract 1 s.size) ⟨#[110]⟩ false _ P110.out).mono ?_); rintro e w' ⟨rfl, ⟨nd, rfl⟩⟩; have n0 := Aside0.mk (IsS67.drewN (HI0.out.set_0 (s.extract 1 s.size)) nd); have n1 := Aside0.mk (keep_drewN (HK.out.set_ 0 (.string (s.extract 1 s.size))) nd); have n2 := Aside0.mk (pw_below_drewN (below_set (j := 0) (v := .string (s.extract 1 s.size)) HB.out (IsS67.ge HI0.out)) nd); have n3 := Aside0.mk (Kd.R_keep HO.out (keep_drewN ((KeepBut.refl wr g none).set_ 0 (.string (s.extract 1 s.size))) nd) (fun k (hk : w.heap.size ≤ k) => by have := HG.out; omega)); clear HI0 HK HB HO HW hc0 hc1 hf0 hf1; generalize World.drewN (wr.setCell ⟨g, 0, none⟩ (.string (s.extract 1 s.size))) nd = WA at n0 n1 n2 n3 ⊢; have HI0 := n0; have HK := n1; have HB := n2; have HO := n3; clear n0 n1 n2 n3; have HW : Aside0 (w.heap.size ≤ WA.heap.size) := ⟨HK.out.1⟩; have hc0 := cellS67_0 HI0.out.1; have hc1 := cellS67_1 HI0.out.1; have hf0 := blk_frozen HI0.out.1 0; have hf1 := blk_frozen HI0.out.1 1; generalize s.extract 1 s.size = s1 at *)) | (go_at_call 46; ((with_reducible refine (strings_HasPrefix.calls s1 ⟨#[34]⟩ false _ P34.out).mono ?_); rintro e w' ⟨rfl, ⟨nd, rfl⟩⟩; have n0 := Aside0.mk (IsS67.drewN (HI0.out) nd); have n1 := Aside0.mk (keep_drewN (HK.out) nd); have n2 := Aside0.mk (pw_below_drewN (HB.out) nd); have n3 := Aside0.mk (Kd.R_keep HO.out (keep_drewN (KeepBut.refl WA g none) nd) (fun k (hk : w.heap.size ≤ k) => by have := HG.out; omega)); clear HI0 HK HB HO HW hc0 hc1 hf0 hf1; generalize World.drewN (WA) nd = WB at n0 n1 n2 n3 ⊢; have HI0 := n0; have HK := n1; have HB := n2; have HO := n3; clear n0 n1 n2 n3; have HW : Aside0 (w.heap.size ≤ WB.heap.size) := ⟨HK.out.1⟩; have hc0 := cellS67_0 HI0.out.1; have hc1 := cellS67_1 HI0.out.1; have hf0 := blk_frozen HI0.out.1 0; have hf1 := blk_frozen HI0.out.1 1)) | (go_at_call 46; ((with_reducible refine (strings_HasPrefix.calls s1 ⟨#[92]⟩ true _ P92.out).mono ?_); rintro e w' ⟨rfl, ⟨nd, rfl⟩⟩; have n0 := Aside0.mk (IsS67.drewN (HI0.out) nd); have n1 := Aside0.mk (keep_drewN (HK.out) nd); have n2 := Aside0.mk (pw_below_drewN (HB.out) nd); have n3 := Aside0.mk (Kd.R_keep HO.out (keep_drewN (KeepBut.refl WB g none) nd) (fun k (hk : w.heap.size ≤ k) => by have := HG.out; omega)); clear HI0 HK HB HO HW hc0 hc1 hf0 hf1; generalize World.drewN (WB) nd = WC at n0 n1 n2 n3 ⊢; have HI0 := n0; have HK := n1; have HB := n2; have HO := n3; clear n0 n1 n2 n3; have HW : Aside0 (w.heap.size ≤ WC.heap.size) := ⟨HK.out.1⟩; have hc0 := cellS67_0 HI0.out.1; have hc1 := cellS67_1 HI0.out.1; have hf0 := blk_frozen HI0.out.1 0; have hf1 := blk_frozen HI0.out.1 1)))
          have hcs : World.cell? { WC with drawn := WC.drawn + 1 } ⟨g, 0, none⟩ = some (.string s1) := hc0
          go_still_tail 14, (by kernel_rfl)
          change wpList _ _ _ _ _ WC.drew
          clear hcs
          have n0 := Aside0.mk (IsS67.drew HI0.out)
          have n1 := Aside0.mk (keep_drew HK.out)
          have n2 := Aside0.mk (below_drew1 HB.out)
          have n3 := Aside0.mk (Kd.R_keep HO.out (keep_drew (KeepBut.refl WC g none)) (fun k (hk : w.heap.size ≤ k) => by have := HG.out; omega))
          clear HI0 HK HB HO HW hc0 hc1 hf0 hf1
          generalize WC.drew = WD at n0 n1 n2 n3 ⊢
          have HI0 := n0
          have HK := n1
          have HB := n2
          have HO := n3
          clear n0 n1 n2 n3
          have HW : Aside0 (w.heap.size ≤ WD.heap.size) := ⟨HK.out.1⟩
          have hc0 := cellS67_0 HI0.out.1
          have hc1 := cellS67_1 HI0.out.1
          have hf0 := blk_frozen HI0.out.1 0
          have hf1 := blk_frozen HI0.out.1 1
          go_wp2_with ((with_reducible refine gate_builtin (b := .append) (xs := #[.tmp 94, .tmp 96]) rfl ?_); at_builtin; refine Kd.R_append (Kd.int .u8) (w0 := w0) w0.heap.size rfl (.tmp 94) (.tmp 96) 77 5 (.int .u8 0) 1 rfl Try.underlying77 info5 rfl (by decide) (by omega) u3 o 92 [.int .u8 92] (fun k => w.heap.size ≤ k) (fun _ => False) rfl (by first | rfl | (go_simp; done) | (simp [World.setCell]; done) | (simp [World.setCell]; rfl)) ?aP (fun _ hk => hk.elim) ?aF ?aO ?aB ?aS ?aL ?_; (case aP => exact rfl); (case aB => exact (by repeat (first | exact HB.out | apply pw_below_drewN | apply below_drew1 | refine below_set ?_ (IsS67.ge HI0.out)))); (case aF => exact (fun k hk => Nat.le_trans (keep_size (w := w) (g := g) (row := none) (by repeat (first | exact HK.out | apply KeepBut.set_ | apply keep_drewN | apply keep_drew))) hk)); (case aO => exact Kd.R_keep HO.out (by repeat (first | exact KeepBut.refl WD g none | apply KeepBut.set_ | apply keep_drewN | apply keep_drew)) (fun k (hk : w.heap.size ≤ k) => by have := HG.out; omega)); (case aS => exact below_size (by repeat (first | exact HB.out | apply pw_below_drewN | apply below_drew1 | refine below_set ?_ (IsS67.ge HI0.out)))); (case aL => have := HL.out; have := HZ.out; omega); intro z4 w5 ho hb hg hat; have HI1 := Aside0.mk (IsS67.grown (f0 := (s1.extract 1 s1.size)) (f1 := bad) (by repeat (first | exact HI0.out | apply IsS67.set_0 | apply IsS67.set_1 | apply IsS67.drewN | apply IsS67.drew)) hg (fun e => by have := HO.out.1 _ e.symm; have := HG.out; omega)); replace HK := Aside0.mk (KeepBut.trans (by repeat (first | exact HK.out | apply KeepBut.set_ | apply keep_drewN | apply keep_drew)) (KeepBut.of_grown hg g) (by cases hq_ : u3.ownBlock with | none => exact .inl rfl | some q_ => exact .inr ⟨q_, rfl, HO.out.1 _ hq_⟩)); replace HB := Aside0.mk hb; replace HO := Aside0.mk ho; replace HI0 := HI1; clear ho hb hg hat HI1)
          go_roundg d
          case measure => omega
          case rel =>
            refine ⟨(s1.extract 1 s1.size), bad, _, ⟨?_⟩, ⟨?_⟩, HV, HI0, HB, HK, HO⟩
            · have h1_ := HL.out; have h2_ := HSZ.out; rw [List.length_append]; simp only [List.length_cons, List.length_nil]; (try simp only [ByteArray.size_extract]); omega
            · have h1_ := HF.out; have h2_ := HSZ.out; (try simp only [ByteArray.size_extract]); omega
        rw [if_neg b92] at h
        replace b92 := Bool.eq_false_iff.2 b92
        have HV := Aside0.mk h
        clear h
        have P110 : Aside0 (strings_HasPrefix.f (s.extract 1 s.size) ⟨#[110]⟩ = some false) := ⟨by rw [hasPrefix1]; exact congrArg some b110⟩
        have P34 : Aside0 (strings_HasPrefix.f (s.extract 1 s.size) ⟨#[34]⟩ = some false) := ⟨by rw [hasPrefix1]; exact congrArg some b34⟩
        have P92 : Aside0 (strings_HasPrefix.f (s.extract 1 s.size) ⟨#[92]⟩ = some false) := ⟨by rw [hasPrefix1]; exact congrArg some b92⟩
        go_wp2_with (first | (go_at_call 46; ((with_reducible refine (strings_HasPrefix.calls (s.extract 1 s.size) ⟨#[110]⟩ false _ P110.out).mono ?_); rintro e w' ⟨rfl, ⟨nd, rfl⟩⟩; have n0 := Aside0.mk (IsS67.drewN (HI0.out.set_0 (s.extract 1 s.size)) nd); have n1 := Aside0.mk (keep_drewN (HK.out.set_ 0 (.string (s.extract 1 s.size))) nd); have n2 := Aside0.mk (pw_below_drewN (below_set (j := 0) (v := .string (s.extract 1 s.size)) HB.out (IsS67.ge HI0.out)) nd); have n3 := Aside0.mk (Kd.R_keep HO.out (keep_drewN ((KeepBut.refl wr g none).set_ 0 (.string (s.extract 1 s.size))) nd) (fun k (hk : w.heap.size ≤ k) => by have := HG.out; omega)); clear HI0 HK HB HO HW hc0 hc1 hf0 hf1; generalize World.drewN (wr.setCell ⟨g, 0, none⟩ (.string (s.extract 1 s.size))) nd = WA at n0 n1 n2 n3 ⊢; have HI0 := n0; have HK := n1; have HB := n2; have HO := n3; clear n0 n1 n2 n3; have HW : Aside0 (w.heap.size ≤ WA.heap.size) := ⟨HK.out.1⟩; have hc0 := cellS67_0 HI0.out.1; have hc1 := cellS67_1 HI0.out.1; have hf0 := blk_frozen HI0.out.1 0; have hf1 := blk_frozen HI0.out.1 1; generalize s.extract 1 s.size = s1 at *)) | (go_at_call 46; ((with_reducible refine (strings_HasPrefix.calls s1 ⟨#[34]⟩ false _ P34.out).mono ?_); rintro e w' ⟨rfl, ⟨nd, rfl⟩⟩; have n0 := Aside0.mk (IsS67.drewN (HI0.out) nd); have n1 := Aside0.mk (keep_drewN (HK.out) nd); have n2 := Aside0.mk (pw_below_drewN (HB.out) nd); have n3 := Aside0.mk (Kd.R_keep HO.out (keep_drewN (KeepBut.refl WA g none) nd) (fun k (hk : w.heap.size ≤ k) => by have := HG.out; omega)); clear HI0 HK HB HO HW hc0 hc1 hf0 hf1; generalize World.drewN (WA) nd = WB at n0 n1 n2 n3 ⊢; have HI0 := n0; have HK := n1; have HB := n2; have HO := n3; clear n0 n1 n2 n3; have HW : Aside0 (w.heap.size ≤ WB.heap.size) := ⟨HK.out.1⟩; have hc0 := cellS67_0 HI0.out.1; have hc1 := cellS67_1 HI0.out.1; have hf0 := blk_frozen HI0.out.1 0; have hf1 := blk_frozen HI0.out.1 1)) | (go_at_call 46; ((with_reducible refine (strings_HasPrefix.calls s1 ⟨#[92]⟩ false _ P92.out).mono ?_); rintro e w' ⟨rfl, ⟨nd, rfl⟩⟩; have n0 := Aside0.mk (IsS67.drewN (HI0.out) nd); have n1 := Aside0.mk (keep_drewN (HK.out) nd); have n2 := Aside0.mk (pw_below_drewN (HB.out) nd); have n3 := Aside0.mk (Kd.R_keep HO.out (keep_drewN (KeepBut.refl WB g none) nd) (fun k (hk : w.heap.size ≤ k) => by have := HG.out; omega)); clear HI0 HK HB HO HW hc0 hc1 hf0 hf1; generalize World.drewN (WB) nd = WC at n0 n1 n2 n3 ⊢; have HI0 := n0; have HK := n1; have HB := n2; have HO := n3; clear n0 n1 n2 n3; have HW : Aside0 (w.heap.size ≤ WC.heap.size) := ⟨HK.out.1⟩; have hc0 := cellS67_0 HI0.out.1; have hc1 := cellS67_1 HI0.out.1; have hf0 := blk_frozen HI0.out.1 0; have hf1 := blk_frozen HI0.out.1 1)) | ((with_reducible refine gate_builtin (b := .append) (xs := #[.tmp 94, .tmp 96]) rfl ?_); at_builtin; refine Kd.R_append (Kd.int .u8) (w0 := w0) w0.heap.size rfl (.tmp 94) (.tmp 96) 77 5 (.int .u8 0) 1 rfl Try.underlying77 info5 rfl (by decide) (by omega) u3 o 92 [.int .u8 92] (fun k => w.heap.size ≤ k) (fun _ => False) rfl (by first | rfl | (go_simp; done) | (simp [World.setCell]; done) | (simp [World.setCell]; rfl)) ?aP (fun _ hk => hk.elim) ?aF ?aO ?aB ?aS ?aL ?_; (case aP => exact rfl); (case aB => exact (by repeat (first | exact HB.out | apply pw_below_drewN | apply below_drew1 | refine below_set ?_ (IsS67.ge HI0.out)))); (case aF => exact (fun k hk => Nat.le_trans (keep_size (w := w) (g := g) (row := none) (by repeat (first | exact HK.out | apply KeepBut.set_ | apply keep_drewN | apply keep_drew))) hk)); (case aO => exact Kd.R_keep HO.out (by repeat (first | exact KeepBut.refl WC g none | apply KeepBut.set_ | apply keep_drewN | apply keep_drew)) (fun k (hk : w.heap.size ≤ k) => by have := HG.out; omega)); (case aS => exact below_size (by repeat (first | exact HB.out | apply pw_below_drewN | apply below_drew1 | refine below_set ?_ (IsS67.ge HI0.out)))); (case aL => have := HL.out; have := HZ.out; omega); intro z4 w5 ho hb hg hat; have HI1 := Aside0.mk (IsS67.grown (f0 := s1) (f1 := true) (by repeat (first | exact HI0.out | apply IsS67.set_0 | apply IsS67.set_1 | apply IsS67.drewN | apply IsS67.drew)) hg (fun e => by have := HO.out.1 _ e.symm; have := HG.out; omega)); replace HK := Aside0.mk (KeepBut.trans (by repeat (first | exact HK.out | apply KeepBut.set_ | apply keep_drewN | apply keep_drew)) (KeepBut.of_grown hg g) (by cases hq_ : u3.ownBlock with | none => exact .inl rfl | some q_ => exact .inr ⟨q_, rfl, HO.out.1 _ hq_⟩)); replace HB := Aside0.mk hb; replace HO := Aside0.mk ho; replace HI0 := HI1; clear ho hb hg hat HI1))
        go_roundg d
        case measure => omega
        case rel =>
          refine ⟨s1, true, _, ⟨?_⟩, ⟨?_⟩, HV, HI0, HB, HK, HO⟩
          · have h1_ := HL.out; have h2_ := HSZ.out; rw [List.length_append]; simp only [List.length_cons, List.length_nil]; (try simp only [ByteArray.size_extract]); omega
          · have h1_ := HF.out; have h2_ := HSZ.out; (try simp only [ByteArray.size_extract]); omega
      rw [if_neg c3] at h
      have d4 : (c == 92) = false := beq_eq_false_iff_ne.2 c3
      have HV := Aside0.mk h
      clear h
      clear c1 c2 c3
      go_wp2_with (first | ((with_reducible refine gate_builtin (b := .append) (xs := #[.tmp 94, .tmp 96]) rfl ?_); at_builtin; refine Kd.R_append (Kd.int .u8) (w0 := w0) w0.heap.size rfl (.tmp 94) (.tmp 96) 77 5 (.int .u8 0) 1 rfl Try.underlying77 info5 rfl (by decide) (by omega) u3 o c [.int .u8 c] (fun k => w.heap.size ≤ k) (fun _ => False) rfl (by first | rfl | (go_simp; done) | (simp [World.setCell]; done) | (simp [World.setCell]; rfl)) ?aP (fun _ hk => hk.elim) ?aF ?aO ?aB ?aS ?aL ?_; (case aP => exact rfl); (case aB => exact (by repeat (first | exact HB.out | apply pw_below_drewN | apply below_drew1 | refine below_set ?_ (IsS67.ge HI0.out)))); (case aF => exact (fun k hk => Nat.le_trans (keep_size (w := w) (g := g) (row := none) (by repeat (first | exact HK.out | apply KeepBut.set_ | apply keep_drewN | apply keep_drew))) hk)); (case aO => exact Kd.R_keep HO.out (by repeat (first | exact KeepBut.refl _ _ _ | apply KeepBut.set_ | apply keep_drewN | apply keep_drew)) (fun k (hk : w.heap.size ≤ k) => by have := HG.out; omega)); (case aS => exact below_size (by repeat (first | exact HB.out | apply pw_below_drewN | apply below_drew1 | refine below_set ?_ (IsS67.ge HI0.out)))); (case aL => have := HL.out; have := HZ.out; omega); intro z4 w5 ho hb hg hat; have HI1 := Aside0.mk (IsS67.grown (f0 := (s.extract 1 s.size)) (f1 := bad) (by repeat (first | exact HI0.out | apply IsS67.set_0 | apply IsS67.set_1 | apply IsS67.drewN | apply IsS67.drew)) hg (fun e => by have := HO.out.1 _ e.symm; have := HG.out; omega)); replace HK := Aside0.mk (KeepBut.trans (by repeat (first | exact HK.out | apply KeepBut.set_ | apply keep_drewN | apply keep_drew)) (KeepBut.of_grown hg g) (by cases hq_ : u3.ownBlock with | none => exact .inl rfl | some q_ => exact .inr ⟨q_, rfl, HO.out.1 _ hq_⟩)); replace HB := Aside0.mk hb; replace HO := Aside0.mk ho; replace HI0 := HI1; clear ho hb hg hat HI1))
      go_roundg d
      case measure => omega
      case rel =>
        refine ⟨(s.extract 1 s.size), bad, _, ⟨?_⟩, ⟨?_⟩, HV, HI0, HB, HK, HO⟩
        · have h1_ := HL.out; rw [List.length_append]; have h2_ := cut1_size s; unfold cut1 at h2_; simp only [List.length_cons, List.length_nil, ByteArray.size_extract]; omega
        · have h1_ := HF.out; simp only [ByteArray.size_extract]; omega
end Go.Proofs.Ytbfiacnmielajaa.P
