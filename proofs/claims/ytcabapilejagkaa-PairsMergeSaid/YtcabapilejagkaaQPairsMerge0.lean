/- PairsMerge: the part that this text bears of the proof that the statement answers true for every input. No condition. -/
import Derived.Test.YtcabapilejagkaaProg
import Derived.Below
import Derived.Deep.Draws
import Derived.Deep.AppendLies
import Derived.Maps.AppendAt
import Derived.OwnWalk
import Derived.Laws.BytesArg
import Derived.Laws.MakeOwn
import Derived.Laws.OwnMore
import Derived.Deep.OwnRows
import Derived.Tactics
import Derived.Lib.ConvBytes
import Derived.Laws.Slices
import Derived.WalkKit
import Derived.KernelRfl
import Derived.RowKit3
import Derived.Deep.LoopGhost
import Derived.Deep.QuietTactic
import Derived.BigQuiet
import Derived.WideLaws
import Derived.Deep.DeepCutAuto
import Derived.Deep.CutBlock
import Derived.Deep.RegionHeld3
import Derived.Laws.Rows
import Derived.Lib.AppendStr
import Derived.ArgAppend
import Derived.Laws.IdiomCopy
import Derived.OrdersHeld
import Derived.Laws.BitsLemmas
import Derived.RowKit
import Derived.Shelf.Abstract
import Derived.WalkSpells
import Derived.RangeFuncNested
import Derived.RangeFuncBound
import Derived.RangeFuncCalls
import Derived.RangeFuncLeaves
import Derived.RangeFuncBox
import Derived.OwnWalkIn
import Derived.TacticsInMore
import Derived.LoopNIn
import Derived.LoopIn
import Derived.Deep.Slices
import Derived.ChangeArms
import Derived.ProofKit
import Derived.JoinedOf
import Derived.OpenShut
import Derived.ShutString
import Derived.ChangeOld
import Derived.SizedLaws
import Derived.Test.YtcabapilejagkaaQPairsMergeWWords
import Derived.Test.YtcabapilejagkaaQPairsMergeWLast
import Derived.Test.YtcabapilejagkaaQPairsMergeWTab
import Derived.Test.YtcabapilejagkaaQPairsMergeWFour
import Derived.Test.YtcabapilejagkaaQPairsMergeWQPut
import Derived.Test.YtcabapilejagkaaQPairsMergeWApart
import Derived.Test.YtcabapilejagkaaQPairsMergeWArr
import Derived.Test.YtcabapilejagkaaQPairsMergeWZeros
import Derived.Test.YtcabapilejagkaaQPairsMergeWFoot
import Derived.Test.YtcabapilejagkaaQPairsMergeWKept
import Derived.Test.YtcabapilejagkaaQPairsMergeWShare
import Derived.Test.YtcabapilejagkaaQPairsMergeWN
import Derived.Test.YtcabapilejagkaaQPairsMergeWFootNe
import Derived.Test.YtcabapilejagkaaQPairsMergeWAt
import Derived.Test.YtcabapilejagkaaQPairsMergeWEqStruct
import Derived.Test.YtcabapilejagkaaQPairsMergeWRepsOne
import Derived.Test.YtcabapilejagkaaQPairsMergeWInv
import Derived.Test.YtcabapilejagkaaQPairsMergeWInvWords
import Derived.Test.YtcabapilejagkaaQPairsMergeWGuard
import Derived.Test.YtcabapilejagkaaQPairsMergeWNEv
import Derived.Test.YtcabapilejagkaaQPairsMergeWMore
import Derived.Test.YtcabapilejagkaaRows
namespace Go.Proofs.Ytcabapilejagkaa.P
open Go.RowKit Go.Proofs.YtcabapilejagkaaW.PrintWords Go.Proofs.YtcabapilejagkaaW.PrintLast Go.Proofs.YtcabapilejagkaaW.PrintMore
attribute [local go_sem] max2_int min2_int max_two min_two max_three min_three max_four min_four
set_option linter.unusedVariables false
set_option linter.unusedSimpArgs false
def errW : Option Int → Value
 | none => .nilIface
 | some c => .iface 0 (.int .i64 c)
theorem errW_none : errW none = .nilIface := rfl
theorem errW_some (c : Int) : errW (some c) = .iface 0 (.int .i64 c) := rfl
theorem info2 : (Try.prog.info? 2).map (fun i => (i.zero, i.size, i.bytes)) = some (some (.int .i64 0), 1, 8) := by kernel_rfl
theorem info3 : (Try.prog.info? 3).map (fun i => (i.zero, i.size, i.bytes)) = some (some (.int .i64 0), 1, 8) := by kernel_rfl
theorem info30 : (Try.prog.info? 30).map (fun i => (i.zero, i.size, i.bytes)) = some (some (.agg #[(.int .i64 0), (.int .i64 0)]), 2, 16) := by kernel_rfl
theorem info106 : (Try.prog.info? 106).map (fun i => (i.zero, i.size, i.bytes)) = some (some (.agg #[(.int .i64 0), (.int .i64 0)]), 2, 16) := by kernel_rfl
theorem info108 : (Try.prog.info? 108).map (fun i => (i.zero, i.size, i.bytes)) = some (some (.agg #[(.int .i64 0), (.int .i64 0)]), 2, 16) := by kernel_rfl
structure S106 where
 f0 : Int
 f1 : Int
def z106 : S106 := ⟨(0 : Int), (0 : Int)⟩
def k106 : Kd S106 := Kd.iso (Kd.pair (Kd.int .i64) (Kd.int .i64)) (fun x : S106 => (x.f0, x.f1))
theorem k106_open {w : World} {x : S106} {cs : List Value} (h : k106.K w x cs) : cs = [.int .i64 x.f0, .int .i64 x.f1] := by
 obtain ⟨_, _, rfl, rfl, rfl⟩ := h
 exact rfl
theorem k106_mkM (w : World) (base : Nat) (ok : Nat → Prop) (x : S106)  : k106.M w base ok x [.int .i64 x.f0, .int .i64 x.f1] := ⟨[.int .i64 x.f0], [.int .i64 x.f1], rfl, rfl, rfl⟩
def rd_T106 (xs : List S106) (i : Int) : S106 := xs.getD i.toNat z106
theorem at_T106 {w : World} {A : Option Addr} {n : Nat} {xs : List S106} (h : Kd.C k106 w A n xs) (i : Int) (h0 : 0 ≤ i) (h1 : i < n) : ∃ ad , A = some ad ∧ w.cell? (ad.add (i.toNat * 2)) = some (.int .i64 (rd_T106 xs i).f0) ∧ w.cell? ⟨(ad.add (i.toNat * 2)).block, (ad.add (i.toNat * 2)).off + 1, none⟩ = some (.int .i64 (rd_T106 xs i).f1) := by
 obtain ⟨ad, c, e, _, hK, hc0⟩ := Kd.C_get h z106 i h0 h1
 have hc : ∀ j u, c[j]? = some u → w.cell? (ad.add (i.toNat * 2 + j)) = some u := hc0
 obtain rfl := k106_open hK
 exact ⟨ad, e, hc 0 _ rfl, by rw [← add_field _ _ 1 (by omega)]; exact hc 1 _ rfl⟩
structure S30 where
 f0 : Int
 f1 : Int
def z30 : S30 := ⟨(0 : Int), (0 : Int)⟩
def k30 : Kd S30 := Kd.iso (Kd.pair (Kd.int .i64) (Kd.int .i64)) (fun x : S30 => (x.f0, x.f1))
theorem k30_heap : Kd.Heap k30 := Kd.heap_iso _ (Kd.heap_pair (Kd.heap_int .i64) (Kd.heap_int .i64))
theorem k30_open {w : World} {x : S30} {cs : List Value} (h : k30.K w x cs) : cs = [.int .i64 x.f0, .int .i64 x.f1] := by
 obtain ⟨_, _, rfl, rfl, rfl⟩ := h
 exact rfl
theorem k30_openM {w : World} {base : Nat} {ok : Nat → Prop} {x : S30} {cs : List Value} (h : k30.M w base ok x cs) : cs = [.int .i64 x.f0, .int .i64 x.f1] := by
 obtain ⟨_, _, rfl, rfl, rfl⟩ := h
 exact rfl
theorem k30_mk (w : World) (x : S30)  : k30.K w x [.int .i64 x.f0, .int .i64 x.f1] := ⟨[.int .i64 x.f0], [.int .i64 x.f1], rfl, rfl, rfl⟩
theorem k30_mkM (w : World) (base : Nat) (ok : Nat → Prop) (x : S30)  : k30.M w base ok x [.int .i64 x.f0, .int .i64 x.f1] := ⟨[.int .i64 x.f0], [.int .i64 x.f1], rfl, rfl, rfl⟩
def rd_T30 (xs : List S30) (i : Int) : S30 := xs.getD i.toNat z30
theorem at_T30 {w : World} {A : Option Addr} {n : Nat} {xs : List S30} (h : Kd.C k30 w A n xs) (i : Int) (h0 : 0 ≤ i) (h1 : i < n) : ∃ ad , A = some ad ∧ w.cell? (ad.add (i.toNat * 2)) = some (.int .i64 (rd_T30 xs i).f0) ∧ w.cell? ⟨(ad.add (i.toNat * 2)).block, (ad.add (i.toNat * 2)).off + 1, none⟩ = some (.int .i64 (rd_T30 xs i).f1) := by
 obtain ⟨ad, c, e, _, hK, hc0⟩ := Kd.C_get h z30 i h0 h1
 have hc : ∀ j u, c[j]? = some u → w.cell? (ad.add (i.toNat * 2 + j)) = some u := hc0
 obtain rfl := k30_open hK
 exact ⟨ad, e, hc 0 _ rfl, by rw [← add_field _ _ 1 (by omega)]; exact hc 1 _ rfl⟩
structure S108 where
 f0 : Int
 f1 : Int
def z108 : S108 := ⟨(0 : Int), (0 : Int)⟩
def k108 : Kd S108 := Kd.iso (Kd.pair (Kd.int .i64) (Kd.int .i64)) (fun x : S108 => (x.f0, x.f1))
theorem k108_open {w : World} {x : S108} {cs : List Value} (h : k108.K w x cs) : cs = [.int .i64 x.f0, .int .i64 x.f1] := by
 obtain ⟨_, _, rfl, rfl, rfl⟩ := h
 exact rfl
theorem k108_openM {w : World} {base : Nat} {ok : Nat → Prop} {x : S108} {cs : List Value} (h : k108.M w base ok x cs) : cs = [.int .i64 x.f0, .int .i64 x.f1] := by
 obtain ⟨_, _, rfl, rfl, rfl⟩ := h
 exact rfl
theorem k108_mk (w : World) (x : S108)  : k108.K w x [.int .i64 x.f0, .int .i64 x.f1] := ⟨[.int .i64 x.f0], [.int .i64 x.f1], rfl, rfl, rfl⟩
theorem k108_mkM (w : World) (base : Nat) (ok : Nat → Prop) (x : S108)  : k108.M w base ok x [.int .i64 x.f0, .int .i64 x.f1] := ⟨[.int .i64 x.f0], [.int .i64 x.f1], rfl, rfl, rfl⟩
def rd_T108 (xs : List S108) (i : Int) : S108 := xs.getD i.toNat z108
theorem at_T108 {w : World} {A : Option Addr} {n : Nat} {xs : List S108} (h : Kd.C k108 w A n xs) (i : Int) (h0 : 0 ≤ i) (h1 : i < n) : ∃ ad , A = some ad ∧ w.cell? (ad.add (i.toNat * 2)) = some (.int .i64 (rd_T108 xs i).f0) ∧ w.cell? ⟨(ad.add (i.toNat * 2)).block, (ad.add (i.toNat * 2)).off + 1, none⟩ = some (.int .i64 (rd_T108 xs i).f1) := by
 obtain ⟨ad, c, e, _, hK, hc0⟩ := Kd.C_get h z108 i h0 h1
 have hc : ∀ j u, c[j]? = some u → w.cell? (ad.add (i.toNat * 2 + j)) = some u := hc0
 obtain rfl := k108_open hK
 exact ⟨ad, e, hc 0 _ rfl, by rw [← add_field _ _ 1 (by omega)]; exact hc 1 _ rfl⟩
end Go.Proofs.Ytcabapilejagkaa.P
namespace Go.Proofs.Ytcabapilejagkaa.P
open Go.RowKit Go.Shelf Go.Proofs.YtcabapilejagkaaW.PrintWords Go.Proofs.YtcabapilejagkaaW.PrintLast Go.Proofs.YtcabapilejagkaaW.PrintMore
set_option linter.unusedVariables false
set_option linter.unusedSimpArgs false
def idxP {α : Type} (p : α → Bool) (l : List α) : Int := match l.findIdx? p with
  | some i => (i : Int)
  | none => -1
theorem idxP_hit {α : Type} (p : α → Bool) (l : List α) (i : Nat) (h : i < l.length) (hp : p l[i] = true) (hb : ∀ j (hj : j < i), p (l[j]'(Nat.lt_trans hj h)) = false) : idxP p l = i := by
  have : l.findIdx? p = some i := by
    rw [List.findIdx?_eq_some_iff_getElem]
    exact ⟨h, hp, fun j hj => by simp [hb j hj]⟩
  unfold idxP; rw [this]
theorem idxP_miss {α : Type} (p : α → Bool) (l : List α) (hb : ∀ j (hj : j < l.length), p l[j] = false) : idxP p l = -1 := by
  have : l.findIdx? p = none := by
    rw [List.findIdx?_eq_none_iff]
    intro x hx
    obtain ⟨j, hj, rfl⟩ := List.getElem_of_mem hx
    exact hb j hj
  unfold idxP; rw [this]
theorem of_ite_some {α : Type} {c : Prop} [Decidable c] {a r : α} (h : (if c then some a else none) = some r) : c ∧ a = r := by
  by_cases hc : c
  · rw [if_pos hc] at h; exact ⟨hc, Option.some.inj h⟩
  · rw [if_neg hc] at h; cases h
theorem find_idx {α : Type} (p : α → Bool) (l : List α) : (idxP p l = -1 ∧ l.find? p = none) ∨ (∃ i : Nat, ∃ h : i < l.length, idxP p l = (i : Int) ∧ l.find? p = some l[i]) := by
  unfold idxP
  cases h : l.findIdx? p with
  | none => exact .inl ⟨rfl, by rw [List.find?_eq_none]; rw [List.findIdx?_eq_none_iff] at h; intro x hx; simp [h x hx]⟩
  | some i =>
    rw [List.findIdx?_eq_some_iff_getElem] at h
    obtain ⟨hi, hp, hb⟩ := h
    exact .inr ⟨i, hi, rfl, by rw [List.find?_eq_some_iff_getElem]; exact ⟨hp, i, hi, rfl, fun j hj => by simpa using hb j hj⟩⟩
theorem R_beyond {α : Type} {d : Kd α} (hM : ∀ w w1 base ok x cs, d.M w base ok x cs → d.M w1 base ok x cs) {e : Nat} {w : World} {base : Nat} {ok : Nat → Prop} {g n cap : Nat} {xs : List α}
    (h : d.R e w base ok (.slice (some ⟨g, 0, none⟩) n cap) xs) (o : Nat) (seg : List Value) (ho : n * d.sz ≤ o) (hs : o + seg.length ≤ cap * d.sz) : d.R e (w.setCells g o seg) base ok (.slice (some ⟨g, 0, none⟩) n cap) xs := by
  obtain ⟨h0, inner, hown, hr⟩ := h
  refine ⟨h0, inner, ⟨hown.1, ?_⟩, hr.imp_ (fun p c hp => hM _ _ _ _ _ _ hp)⟩
  rcases hown.2 with ⟨hv, _⟩ | ⟨g', cap', cur, hv, hb, hh, hnc, hcm, hcs, ht⟩
  · cases hv
  injection hv with ha hn hc
  injection ha with ha
  injection ha with hg'
  subst hg'; subst hc
  obtain ⟨cur', h3, h4, h5⟩ := setCells_row seg o w cur hh (by omega)
  refine .inr ⟨g, cap, cur', by rw [hn], hb, h3, hnc, hcm, by omega, ?_⟩
  rw [← hn] at ht ⊢
  have hl : cur.toList.length = cap * d.sz := by rw [Array.length_toList]; exact hcs
  rw [h5, List.append_assoc, List.take_append_of_le_length (by rw [List.length_take]; omega), List.take_take, Nat.min_eq_left ho]
  exact ht
theorem piece_there {w : World} {g : Nat} {cur : Array Value} {e : TypeId} (hh : w.heap[g]? = some (.cells cur e (0, 0))) (o n : Nat) (h : o + n ≤ cur.size) :
    (∀ j, j < n → (w.cell? ⟨g, o + j, none⟩).isSome = true) ∧ (∀ j, j < n → w.frozen? ⟨g, o + j, none⟩ = false) :=
  ⟨fun j hj => by rw [blk_cell hh]; simp; omega, fun j _ => blk_frozen hh _⟩
theorem run_clear_cells {P : Program} (w : World) (t e ty : TypeId) (z : Value) (ht : P.underlying t = some (.slice e)) (hv : ∀ w, (zeroValue e).run P w = .ok z w) (g o n c : Nat) (hn : 0 < n)
    (hz : ∀ v ∈ (Builtin.zeroCells z.cells n).toList, v.oneCell' = true)
    (hc : ∀ j, j < (Builtin.zeroCells z.cells n).toList.length → (w.cell? ⟨g, o + j, none⟩).isSome = true) (hf : ∀ j, j < (Builtin.zeroCells z.cells n).toList.length → w.frozen? ⟨g, o + j, none⟩ = false) :
    (Builtin.clear_ #[t] ty #[.slice (some ⟨g, o, none⟩) n c]).run P w = .ok (.tuple #[]) (w.setCells g o (Builtin.zeroCells z.cells n).toList) := by
  have hst := run_storeCells_cells (P := P) g o (Builtin.zeroCells z.cells n).toList 0 w (by simpa using hc) (by simpa using hf) hz
  simp only [Nat.add_zero] at hst
  obtain ⟨m, rfl⟩ : ∃ m, n = m + 1 := ⟨n - 1, by omega⟩
  simp [Builtin.clear_, run_underlying ht, hv, hst]
structure DelInv {α : Type} (p : α → Bool) (xs : List α) (i j : Nat) (ys : List α) : Prop where
  len : ys.length = xs.length
  lt : i < j
  le : j ≤ xs.length
  low : ys.take i = (xs.take j).filter (fun x => !p x)
  high : ys.drop j = xs.drop j
theorem DelInv.start {α : Type} {p : α → Bool} {xs : List α} {i : Nat} (h : i < xs.length) (hp : p xs[i] = true) (hb : ∀ j (hj : j < i), p (xs[j]'(Nat.lt_trans hj h)) = false) : DelInv p xs i (i + 1) xs := by
  refine ⟨rfl, Nat.lt_succ_self _, h, ?_, rfl⟩
  rw [List.take_succ_eq_append_getElem h, List.filter_append]
  have h1 : (xs.take i).filter (fun x => !p x) = xs.take i := by
    rw [List.filter_eq_self]
    intro x hx
    obtain ⟨j, hj, rfl⟩ := List.getElem_of_mem hx
    rw [List.length_take] at hj
    rw [List.getElem_take, hb j (by omega)]; rfl
  rw [h1]; simp [hp]
theorem DelInv.at_ {α : Type} {p : α → Bool} {xs ys : List α} {i j : Nat} (h : DelInv p xs i j ys) (hj : j < xs.length) : ∃ h2 : j < ys.length, ys[j] = xs[j] := by
  have h2 : j < ys.length := by rw [h.len]; exact hj
  refine ⟨h2, ?_⟩
  have := congrArg (fun l => l[0]?) h.high
  simp only [List.getElem?_drop, Nat.add_zero, List.getElem?_eq_getElem h2, List.getElem?_eq_getElem hj] at this
  exact Option.some.inj this
theorem DelInv.skip {α : Type} {p : α → Bool} {xs ys : List α} {i j : Nat} (h : DelInv p xs i j ys) (hj : j < xs.length) (hp : p xs[j] = true) : DelInv p xs i (j + 1) ys := by
  refine ⟨h.len, by have := h.lt; omega, hj, ?_, ?_⟩
  · rw [h.low, List.take_succ_eq_append_getElem hj, List.filter_append]; simp [hp]
  · have := congrArg (List.drop 1) h.high
    rwa [List.drop_drop, List.drop_drop] at this
theorem DelInv.keep {α : Type} {p : α → Bool} {xs ys : List α} {i j : Nat} (h : DelInv p xs i j ys) (hj : j < xs.length) (hp : p xs[j] = false) : DelInv p xs (i + 1) (j + 1) (ys.set i xs[j]) := by
  have hlt := h.lt
  have hi : i < ys.length := by rw [h.len]; omega
  refine ⟨by rw [List.length_set]; exact h.len, by omega, hj, ?_, ?_⟩
  · rw [List.take_succ_eq_append_getElem (by rw [List.length_set]; exact hi), List.getElem_set_self, List.take_set_of_le (by omega), h.low, List.take_succ_eq_append_getElem hj, List.filter_append]; simp [hp]
  · rw [List.drop_set_of_lt (by omega)]
    have := congrArg (List.drop 1) h.high
    rwa [List.drop_drop, List.drop_drop] at this
theorem DelInv.done {α : Type} {p : α → Bool} {xs ys : List α} {i : Nat} (h : DelInv p xs i xs.length ys) : ys.take i = xs.filter (fun x => !p x) := by
  rw [h.low, List.take_of_length_le (Nat.le_refl _)]
theorem idxP_cases {α : Type} (p : α → Bool) (l : List α) : (idxP p l = -1 ∧ l.filter (fun x => !p x) = l) ∨ (∃ i : Nat, ∃ h : i < l.length, idxP p l = (i : Int) ∧ p l[i] = true ∧ ∀ j (hj : j < i), p (l[j]'(Nat.lt_trans hj h)) = false) := by
  unfold idxP
  cases h : l.findIdx? p with
  | none =>
    refine .inl ⟨rfl, ?_⟩
    rw [List.findIdx?_eq_none_iff] at h
    rw [List.filter_eq_self]
    intro x hx; simp [h x hx]
  | some i =>
    rw [List.findIdx?_eq_some_iff_getElem] at h
    obtain ⟨hi, hp, hb⟩ := h
    exact .inr ⟨i, hi, rfl, hp, fun j hj => by simpa using hb j hj⟩
theorem C_of_blk {α : Type} {d : Kd α} {W : World} {g : Nat} {cs : Array Value} {e : TypeId} {fr : Nat × Nat} (xs : List α) (h : W.heap[g]? = some (.cells cs e fr)) (hr : Reps (d.K W) d.sz xs cs.toList) (hm : xs.length ≤ 9223372036854775807) : d.C W (some ⟨g, 0, none⟩) xs.length xs := by
  refine ⟨rfl, hm, fun _ => ⟨_, rfl, fun j p hj => ⟨(cs.toList.drop (j * d.sz)).take d.sz, ?_, hr.2 j p hj, fun i u hu => ?_⟩⟩⟩
  · exact d.K_len (hr.2 j p hj)
  · rw [add_plain, cell_of_row W g _ cs e fr h]
    rw [List.getElem?_take] at hu
    split at hu
    · rw [List.getElem?_drop] at hu
      simpa using hu
    · cases hu
theorem reps_nums (w : World) (k : IntKind) (xs : List Int) : Reps ((Kd.int k).K w) 1 xs (nums k xs) := by
  refine ⟨by simp [nums], fun j p hj => ?_⟩
  show ((nums k xs).drop (j * 1)).take 1 = [Value.int k p]
  rw [Nat.mul_one]
  unfold nums
  rw [← List.map_drop, ← List.map_take]
  have : (xs.drop j).take 1 = [p] := by
    rw [List.take_one, List.head?_drop, hj]; rfl
  rw [this]; rfl
end Go.Proofs.Ytcabapilejagkaa.P
namespace Go.Proofs.Ytcabapilejagkaa.P
open Go.RowKit Go.Shelf Go.Proofs.YtcabapilejagkaaW.PrintWords Go.Proofs.YtcabapilejagkaaW.PrintLast Go.Proofs.YtcabapilejagkaaW.PrintMore
set_option linter.unusedVariables false
set_option linter.unusedSimpArgs false
def slices_Clone_span.f (l0 : List S108) : Option (List S108) := if l0.length < 8796093022208 then some l0 else none
set_option maxHeartbeats 2000000 in
set_option maxRecDepth 100000 in
theorem slices_Clone_span.calls (A0 : Option Addr) (c0 : Nat) (l0 r : List S108) (w : World) (hr0 : Kd.C k108 w A0 l0.length l0) (hc0 : l0.length ≤ c0) (h : slices_Clone_span.f l0 = some r) :
    Calls Try.prog 73 #[.slice A0 l0.length c0] w fun e w' => ∃ v0_ : Value, e = .returned (v0_) ∧ Kd.R k108 108 w' w.heap.size (fun _ => True) v0_ r ∧ Below w.heap.size w w' := by
  obtain ⟨hm, h2⟩ := of_ite_some h
  subst h2
  clear h
  have hu := Try.underlying34
  have HM := Aside0.mk hm
  clear hm
  cases A0 with
  | none =>
    have hl : l0 = [] := by
      rcases Nat.eq_zero_or_pos l0.length with h | h
      · exact List.length_eq_zero_iff.1 h
      · obtain ⟨ad, e, _⟩ := hr0.2.2 h
        cases e
    subst hl
    have hn : ∀ W n c, (binOp .eql 34 (.slice none n c) (.slice none 0 0)).run Try.prog W = .ok (.bool true) W := fun W n c => by
      exact Lib.run_eql_slice_nil W _ _ none n c 0 0 Try.underlying34
    go_enter Try.func73, Try.ntmps73
    go_wp2
    go_ret
    exact ⟨_, rfl, Kd.R_nil _ _ _ _ _, Below.refl _ _⟩
  | some ad =>
    have hn : ∀ W n c, (binOp .eql 34 (.slice (some ad) n c) (.slice none 0 0)).run Try.prog W = .ok (.bool false) W := fun W n c => by
      exact Lib.run_eql_slice_nil W _ _ (some ad) n c 0 0 Try.underlying34
    have HR := Aside0.mk hr0
    clear hr0
    go_enter Try.func73, Try.ntmps73
    go_wp2_with ((with_reducible refine gate_builtin (b := .append) (xs := #[.tmp 5, .tmp 6]) rfl ?_); at_builtin; refine Kd.R_append_rows k108 (w0 := w) (Rr := k108.K w) w.heap.size rfl (.tmp 5) (.tmp 6) 34 108 _ 16 rfl Try.underlying34 info108 rfl (by decide) (by omega) (.slice (some ⟨w.heap.size, 0, none⟩) 0 0) [] l0 (some ad) l0.length c0 (fun _ => True) (fun _ => False) rfl rfl ?aO ?aR ?aK (fun _ hk => hk.elim) (fun _ _ => trivial) ?aB ?aS ?aL ?_; (case aO => exact ⟨fun _ _ => trivial, [], ⟨rfl, .inr ⟨w.heap.size, 0, #[], rfl, Nat.le_refl _, by simpa using blk_new w _, Nat.le_refl _, by unfold maxLen; omega, rfl, rfl⟩⟩, Reps.none _ _⟩); (case aR => exact HR.out.imp_ (below_alloc (Below.refl _ _) _) (fun _ _ h => h)); (case aK => intro x cs hx; rw [k108_open hx]; exact k108_mkM _ _ _ x); (case aB => exact below_alloc (Below.refl _ _) _); (case aS => simp); (case aL => have := HM.out; simp; omega); intro v1 w1 ho hb hg hat; rw [List.nil_append] at ho; have HO := Aside0.mk ho; have HB := Aside0.mk hb; clear ho hb hg hat)
    go_ret
    exact ⟨_, rfl, HO.out, HB.out⟩
end Go.Proofs.Ytcabapilejagkaa.P
namespace Go.Proofs.Ytcabapilejagkaa.P
open Go.RowKit Go.Proofs.YtcabapilejagkaaW.PrintWords Go.Proofs.YtcabapilejagkaaW.PrintLast Go.Proofs.YtcabapilejagkaaW.PrintMore
attribute [local go_sem] max2_int min2_int max_two min_two max_three min_three max_four min_four
set_option linter.unusedVariables false
set_option linter.unusedSimpArgs false
def span_in.f (a0 : Int) : Option (Bool) := if a0 ≥ (-1048576) then (some (decide (a0 ≤ 1048576))) else (some false)
set_option maxHeartbeats 8000000 in
set_option maxRecDepth 100000 in
theorem span_in.calls (a0 : Int) (r : Bool) (w : World) (h : span_in.f a0 = some r) :
  Calls Try.prog 149 #[.int .i64 a0] w fun e w' => e = .returned (.bool r) ∧ Drawn0 w w' := by
 have H : (if a0 ≥ (-1048576) then (some (decide (a0 ≤ 1048576))) else (some false)) = some r := h
 clear h
 by_cases c2 : a0 ≥ (-1048576)
 ·rw [if_pos c2] at H
  have c2b0 : decide ((-1048576) ≤ a0) = true := decide_eq_true c2
  clear c2
  obtain rfl := Option.some.inj H
  go_enter Try.func149, Try.ntmps149
  go_wp2
  go_ret
  exact ⟨by first | rfl | (simp; done) | (simp [*]; done), by repeat (first | exact Drawn0.refl _ | apply Drawn0.step)⟩
 ·rw [if_neg c2] at H
  have c2b0 : decide ((-1048576) ≤ a0) = false := decide_eq_false c2
  clear c2
  obtain rfl := Option.some.inj H
  go_enter Try.func149, Try.ntmps149
  go_wp2
  go_ret
  exact ⟨by first | rfl | (simp; done) | (simp [*]; done), by repeat (first | exact Drawn0.refl _ | apply Drawn0.step)⟩
mutual
def span_right.l0 : Nat → Int → Int → List (S108) → Int → Int → Option (Bool)
 | 0, _, _, _, _, _ => none
 | k + 1, x3, x4, x7, x8, x9 => if x9 < x8 then (if 0 ≤ x9 then (if x9 < (x7.length : Int) then (if ((rd_T108 x7 x9).f0) > 2097152 then (span_right.j1 k x3 x4 x7 x8 x9 true ((rd_T108 x7 x9).f0) ((rd_T108 x7 x9).f1)) else (if ((rd_T108 x7 x9).f1) < 0 then (span_right.j1 k x3 x4 x7 x8 x9 true ((rd_T108 x7 x9).f0) ((rd_T108 x7 x9).f1)) else (if ((rd_T108 x7 x9).f1) > 4096 then (span_right.j1 k x3 x4 x7 x8 x9 true ((rd_T108 x7 x9).f0) ((rd_T108 x7 x9).f1)) else (if ((rd_T108 x7 x9).f0) < 0 then (if x9 > 0 then (span_right.j1 k x3 x4 x7 x8 x9 true ((rd_T108 x7 x9).f0) ((rd_T108 x7 x9).f1)) else ((span_in.f ((rd_T108 x7 x9).f0)).bind fun t103 => (span_right.j1 k x3 x4 x7 x8 x9 (!t103) ((rd_T108 x7 x9).f0) ((rd_T108 x7 x9).f1)))) else (span_right.j1 k x3 x4 x7 x8 x9 false ((rd_T108 x7 x9).f0) ((rd_T108 x7 x9).f1)))))) else (none)) else (none)) else (some true)
def span_right.j1 : Nat → Int → Int → List (S108) → Int → Int → Bool → Int → Int → Option (Bool)
 | 0, _, _, _, _, _, _, _, _ => none
 | k + 1, x3, x4, x7, x8, x9, x41, x103000, x103001 => if x41 = true then (some false) else ((span_in.f (wrap64 (x3 + x103000))).bind fun t104 => (if t104 = true then ((span_in.f (wrap64 ((wrap64 (x3 + x103000)) + (mx (wrap64 (x103001 - 1)) 0)))).bind fun t105 => (if t105 = true then (if (wrap64 (x4 + x103001)) > 4096 then (some false) else (span_right.l0 k (wrap64 ((wrap64 (x3 + x103000)) + x103001)) (wrap64 (x4 + x103001)) x7 x8 (wrap64 (x9 + 1)))) else (some false))) else (some false)))
end
def span_right.f (k : Nat) (l0 : List (S108)) : Option (Bool) := span_right.l0 k 0 0 l0 (l0.length : Int) 0
set_option maxHeartbeats 8000000 in
set_option maxRecDepth 100000 in
theorem span_right.calls (k : Nat) (A0 : Option Addr) (c0 : Nat) (l0 : List (S108)) (r : Bool) (w : World) (hr0 : Kd.C k108 w A0 l0.length l0) (hc0 : l0.length ≤ c0) (h : span_right.f k l0 = some r) :
  Calls Try.prog 153 #[.slice A0 l0.length c0] w fun e w' => e = .returned (.bool r) ∧ Below w.heap.size w w' := by
 have hu108 := Try.underlying108
 have HR0 := Aside0.mk hr0
 have HC0 := Aside0.mk hc0
 clear hr0 hc0
 have HB := Aside0.mk (Below.refl w.heap.size w)
 have H : (span_right.l0 k 0 0 l0 (l0.length : Int) 0) = some r := h
 clear h
 have H' := Aside0.mk H
 clear H
 go_enter Try.func153, Try.ntmps153
 go_wp2
 go_loopg [3, 4, 9] k (fun kq v3 v4 v9 w' => ∃ (x3_1 : Int) (x4_1 : Int) (x9_1 : Int), v3 = .int .i64 x3_1 ∧ v4 = .int .i64 x4_1 ∧ v9 = .int .i64 x9_1 ∧ Aside0 (span_right.l0 kq x3_1 x4_1 l0 (l0.length : Int) x9_1 = some r) ∧ Aside0 (kq ≤ k) ∧ Aside0 (Below w.heap.size w w'))
 case atStart => exact ⟨(0), (0), (0), (by first | rfl | (simp; done) | (simp [*]; done)), (by first | rfl | (simp; done) | (simp [*]; done)), (by first | rfl | (simp; done) | (simp [*]; done)), H', ⟨Nat.le_refl _⟩, ⟨by repeat (first | (with_reducible first | exact HB.out | apply below_alloc | apply pw_below_drewN | apply below_drew1) | exact HB.out)⟩⟩
 case round =>
  clear H'
  try clear c1
  obtain ⟨x3_1, x4_1, x9_1, rfl, rfl, rfl, HA, HK1, HB⟩ := hrel
  cases gk with
  | zero => exact absurd HA.out (by simp [span_right.l0])
  | succ k1 =>
   have H := HA.out
   clear HA
   simp only [span_right.l0] at H
   by_cases c2 : x9_1 < (l0.length : Int)
   ·rw [if_pos c2] at H
    have c2b0 : decide (x9_1 < (l0.length : Int)) = true := decide_eq_true c2
    clear c2
    by_cases c3 : 0 ≤ x9_1
    ·rw [if_pos c3] at H
     have c3b0 : decide (0 ≤ x9_1) = true := decide_eq_true c3
     clear c3
     by_cases c4 : x9_1 < (l0.length : Int)
     ·rw [if_pos c4] at H
      have c4b0 : decide (x9_1 < (l0.length : Int)) = true := decide_eq_true c4
      clear c4
      have HC5 := Aside0.mk H
      clear H
      have p101 : 0 ≤ (x9_1 : Int) := of_decide_eq_true (by first | (with_reducible assumption) | assumption)
      have q101 : x9_1 < (l0.length : Int) := of_decide_eq_true (by first | (with_reducible assumption) | assumption)
      obtain ⟨ad101, e101, hx101_0, hx101_1⟩ := at_T108 HR0.out x9_1 p101 q101
      cases e101
      replace hx101_0 := (HB.out.cell (World.block_lt_of_cell? w _ hx101_0)).trans hx101_0
      replace hx101_1 := (HB.out.cell (World.block_lt_of_cell? w _ hx101_1)).trans hx101_1
      replace p101 := eq_true p101
      replace q101 := eq_true q101
      go_upto_region 5 with (first | ((with_reducible refine gate_dst (N := 6) rfl ?_); (try (refine gate_guard (by rfl) ?_; dsimp only)); refine box_event ?hg (N := 6) ?hd (cs := #[.int .i64 0, .int .i64 0]) (t := 108) ?hr ?_; (case hd => rfl); (case hg => rfl); (case hr => first | (go_simp; done) | (go_simp; rfl)); intro gb102 hg w6 hbox hb; have n0_ := Aside0.mk (below_step (by repeat (first | (with_reducible first | exact HB.out | apply below_alloc | apply pw_below_drewN | apply below_drew1) | exact HB.out)) hb); have n1_ := Aside0.mk (hbox); have n2_ := Aside0.mk ((by rw [hg]; exact (below_size (by repeat (first | (with_reducible first | exact HB.out | apply below_alloc | apply pw_below_drewN | apply below_drew1) | exact HB.out))) : w.heap.size ≤ gb102)); have n3_ := Aside0.mk ((by rw [hg]; exact (below_size (by repeat (first | (with_reducible first | exact HB.out | apply below_alloc | apply pw_below_drewN | apply below_drew1) | exact HB.out))) : w.heap.size ≤ gb102)); clear HB; have HB := n0_; have BK102 := n1_; have GW102 := n2_; have GE102 := n3_; clear n0_ n1_ n2_ n3_; clear hb hbox hg; have hcz7_0 : w6.cell? ⟨gb102, 0, none⟩ = some (.int .i64 0) := (blk_cell BK102.out 0).trans rfl; have hcz7_1 : w6.cell? ⟨gb102, 1, none⟩ = some (.int .i64 0) := (blk_cell BK102.out 1).trans rfl; have hfz7_0 := blk_frozen BK102.out 0; have hfz7_1 := blk_frozen BK102.out 1))
      (try simp only [Act.put, List.setIfInBounds_toArray, List.set_cons_zero, List.set_cons_succ])
      go_cut [41] (fun v41 wc => ∃ (kq : Nat) (x41_4 : Bool), v41 = .bool x41_4 ∧ Aside0 (span_right.j1 kq x3_1 x4_1 l0 (l0.length : Int) x9_1 x41_4 ((rd_T108 l0 x9_1).f0) ((rd_T108 l0 x9_1).f1) = some r) ∧ Aside0 (kq ≤ k1) ∧ Aside0 (wc.heap[gb102]? = some (.cells #[.int .i64 ((rd_T108 l0 x9_1).f0), .int .i64 ((rd_T108 l0 x9_1).f1)] 108 (0, 0))) ∧ Aside0 (Below w.heap.size w wc))
      case first =>
       have H := HC5.out
       clear HC5
       by_cases c8 : ((rd_T108 l0 x9_1).f0) > 2097152
       ·rw [if_pos c8] at H
        have c8b0 : decide (2097152 < ((rd_T108 l0 x9_1).f0)) = true := decide_eq_true c8
        clear c8
        (first | rw [c8b0] | (simp only [i64_w, i32_w]; rw [c8b0]) | skip)
        have H' := Aside0.mk H
        clear H
        have hcz9_0 : w6.cell? ⟨gb102, 0, none⟩ = some (.int .i64 0) := (blk_cell BK102.out 0).trans rfl
        have hcz9_1 : w6.cell? ⟨gb102, 1, none⟩ = some (.int .i64 0) := (blk_cell BK102.out 1).trans rfl
        have hfz9_0 := blk_frozen BK102.out 0
        have hfz9_1 := blk_frozen BK102.out 1
        go_wp2
        go_meet
        case rel => exact ⟨_, (true), (by first | rfl | (simp; done) | (simp [*]; done)), H', ⟨by have := HK1.out; first | omega | exact Nat.le_refl _⟩, ⟨by (with_reducible repeat (first | refine blk_drewN ?_ _ | refine blk_drew ?_ | refine blk_alloc ?_ _)); refine blk_put (cs := #[.int .i64 ((rd_T108 l0 x9_1).f0), .int .i64 0]) ?_ 1 _ rfl; (with_reducible repeat (first | refine blk_drewN ?_ _ | refine blk_drew ?_ | refine blk_alloc ?_ _)); refine blk_put (cs := #[.int .i64 0, .int .i64 0]) ?_ 0 _ rfl; (with_reducible repeat (first | refine blk_drewN ?_ _ | refine blk_drew ?_ | refine blk_alloc ?_ _)); exact BK102.out⟩, ⟨by repeat (first | (with_reducible first | exact HB.out | apply below_alloc | apply pw_below_drewN | apply below_drew1 | refine below_set ?_ GE102.out) | exact HB.out)⟩⟩
       ·rw [if_neg c8] at H
        have c8b0 : decide (2097152 < ((rd_T108 l0 x9_1).f0)) = false := decide_eq_false c8
        clear c8
        (first | rw [c8b0] | (simp only [i64_w, i32_w]; rw [c8b0]) | skip)
        by_cases c10 : ((rd_T108 l0 x9_1).f1) < 0
        ·rw [if_pos c10] at H
         have c10b0 : decide (((rd_T108 l0 x9_1).f1) < 0) = true := decide_eq_true c10
         clear c10
         have H' := Aside0.mk H
         clear H
         have hcz11_0 : w6.cell? ⟨gb102, 0, none⟩ = some (.int .i64 0) := (blk_cell BK102.out 0).trans rfl
         have hcz11_1 : w6.cell? ⟨gb102, 1, none⟩ = some (.int .i64 0) := (blk_cell BK102.out 1).trans rfl
         have hfz11_0 := blk_frozen BK102.out 0
         have hfz11_1 := blk_frozen BK102.out 1
         go_wp2
         go_meet
         case rel => exact ⟨_, (true), (by first | rfl | (simp; done) | (simp [*]; done)), H', ⟨by have := HK1.out; first | omega | exact Nat.le_refl _⟩, ⟨by (with_reducible repeat (first | refine blk_drewN ?_ _ | refine blk_drew ?_ | refine blk_alloc ?_ _)); refine blk_put (cs := #[.int .i64 ((rd_T108 l0 x9_1).f0), .int .i64 0]) ?_ 1 _ rfl; (with_reducible repeat (first | refine blk_drewN ?_ _ | refine blk_drew ?_ | refine blk_alloc ?_ _)); refine blk_put (cs := #[.int .i64 0, .int .i64 0]) ?_ 0 _ rfl; (with_reducible repeat (first | refine blk_drewN ?_ _ | refine blk_drew ?_ | refine blk_alloc ?_ _)); exact BK102.out⟩, ⟨by repeat (first | (with_reducible first | exact HB.out | apply below_alloc | apply pw_below_drewN | apply below_drew1 | refine below_set ?_ GE102.out) | exact HB.out)⟩⟩
        ·rw [if_neg c10] at H
         have c10b0 : decide (((rd_T108 l0 x9_1).f1) < 0) = false := decide_eq_false c10
         clear c10
         by_cases c12 : ((rd_T108 l0 x9_1).f1) > 4096
         ·rw [if_pos c12] at H
          have c12b0 : decide (4096 < ((rd_T108 l0 x9_1).f1)) = true := decide_eq_true c12
          clear c12
          have H' := Aside0.mk H
          clear H
          have hcz13_0 : w6.cell? ⟨gb102, 0, none⟩ = some (.int .i64 0) := (blk_cell BK102.out 0).trans rfl
          have hcz13_1 : w6.cell? ⟨gb102, 1, none⟩ = some (.int .i64 0) := (blk_cell BK102.out 1).trans rfl
          have hfz13_0 := blk_frozen BK102.out 0
          have hfz13_1 := blk_frozen BK102.out 1
          go_wp2
          go_meet
          case rel => exact ⟨_, (true), (by first | rfl | (simp; done) | (simp [*]; done)), H', ⟨by have := HK1.out; first | omega | exact Nat.le_refl _⟩, ⟨by (with_reducible repeat (first | refine blk_drewN ?_ _ | refine blk_drew ?_ | refine blk_alloc ?_ _)); refine blk_put (cs := #[.int .i64 ((rd_T108 l0 x9_1).f0), .int .i64 0]) ?_ 1 _ rfl; (with_reducible repeat (first | refine blk_drewN ?_ _ | refine blk_drew ?_ | refine blk_alloc ?_ _)); refine blk_put (cs := #[.int .i64 0, .int .i64 0]) ?_ 0 _ rfl; (with_reducible repeat (first | refine blk_drewN ?_ _ | refine blk_drew ?_ | refine blk_alloc ?_ _)); exact BK102.out⟩, ⟨by repeat (first | (with_reducible first | exact HB.out | apply below_alloc | apply pw_below_drewN | apply below_drew1 | refine below_set ?_ GE102.out) | exact HB.out)⟩⟩
         ·rw [if_neg c12] at H
          have c12b0 : decide (4096 < ((rd_T108 l0 x9_1).f1)) = false := decide_eq_false c12
          clear c12
          by_cases c14 : ((rd_T108 l0 x9_1).f0) < 0
          ·rw [if_pos c14] at H
           have c14b0 : decide (((rd_T108 l0 x9_1).f0) < 0) = true := decide_eq_true c14
           clear c14
           by_cases c15 : x9_1 > 0
           ·rw [if_pos c15] at H
            have c15b0 : decide (0 < x9_1) = true := decide_eq_true c15
            clear c15
            have H' := Aside0.mk H
            clear H
            have hcz16_0 : w6.cell? ⟨gb102, 0, none⟩ = some (.int .i64 0) := (blk_cell BK102.out 0).trans rfl
            have hcz16_1 : w6.cell? ⟨gb102, 1, none⟩ = some (.int .i64 0) := (blk_cell BK102.out 1).trans rfl
            have hfz16_0 := blk_frozen BK102.out 0
            have hfz16_1 := blk_frozen BK102.out 1
            go_wp2
            go_meet
            case rel => exact ⟨_, (true), (by first | rfl | (simp; done) | (simp [*]; done)), H', ⟨by have := HK1.out; first | omega | exact Nat.le_refl _⟩, ⟨by (with_reducible repeat (first | refine blk_drewN ?_ _ | refine blk_drew ?_ | refine blk_alloc ?_ _)); refine blk_put (cs := #[.int .i64 ((rd_T108 l0 x9_1).f0), .int .i64 0]) ?_ 1 _ rfl; (with_reducible repeat (first | refine blk_drewN ?_ _ | refine blk_drew ?_ | refine blk_alloc ?_ _)); refine blk_put (cs := #[.int .i64 0, .int .i64 0]) ?_ 0 _ rfl; (with_reducible repeat (first | refine blk_drewN ?_ _ | refine blk_drew ?_ | refine blk_alloc ?_ _)); exact BK102.out⟩, ⟨by repeat (first | (with_reducible first | exact HB.out | apply below_alloc | apply pw_below_drewN | apply below_drew1 | refine below_set ?_ GE102.out) | exact HB.out)⟩⟩
           ·rw [if_neg c15] at H
            have c15b0 : decide (0 < x9_1) = false := decide_eq_false c15
            clear c15
            replace H := Option.bind_eq_some_iff.mp H
            obtain ⟨t103, A170, H⟩ := H
            replace H : (span_right.j1 k1 x3_1 x4_1 l0 (l0.length : Int) x9_1 (!t103) ((rd_T108 l0 x9_1).f0) ((rd_T108 l0 x9_1).f1)) = some r := H
            have A17 := Aside0.mk A170
            clear A170
            have H' := Aside0.mk H
            clear H
            have hcz18_0 : w6.cell? ⟨gb102, 0, none⟩ = some (.int .i64 0) := (blk_cell BK102.out 0).trans rfl
            have hcz18_1 : w6.cell? ⟨gb102, 1, none⟩ = some (.int .i64 0) := (blk_cell BK102.out 1).trans rfl
            have hfz18_0 := blk_frozen BK102.out 0
            have hfz18_1 := blk_frozen BK102.out 1
            go_wp2_with (first | (go_at_call 149; (with_reducible refine (span_in.calls ((rd_T108 l0 x9_1).f0) t103 _ A17.out).mono ?_); rintro e w' ⟨rfl, ⟨nd, rfl⟩⟩; clear A17))
            go_meet
            case rel => exact ⟨_, (!t103), (by first | rfl | (simp; done) | (simp [*]; done)), H', ⟨by have := HK1.out; first | omega | exact Nat.le_refl _⟩, ⟨by (with_reducible repeat (first | refine blk_drewN ?_ _ | refine blk_drew ?_ | refine blk_alloc ?_ _)); refine blk_put (cs := #[.int .i64 ((rd_T108 l0 x9_1).f0), .int .i64 0]) ?_ 1 _ rfl; (with_reducible repeat (first | refine blk_drewN ?_ _ | refine blk_drew ?_ | refine blk_alloc ?_ _)); refine blk_put (cs := #[.int .i64 0, .int .i64 0]) ?_ 0 _ rfl; (with_reducible repeat (first | refine blk_drewN ?_ _ | refine blk_drew ?_ | refine blk_alloc ?_ _)); exact BK102.out⟩, ⟨by repeat (first | (with_reducible first | exact HB.out | apply below_alloc | apply pw_below_drewN | apply below_drew1 | refine below_set ?_ GE102.out) | exact HB.out)⟩⟩
          ·rw [if_neg c14] at H
           have c14b0 : decide (((rd_T108 l0 x9_1).f0) < 0) = false := decide_eq_false c14
           clear c14
           have H' := Aside0.mk H
           clear H
           have hcz19_0 : w6.cell? ⟨gb102, 0, none⟩ = some (.int .i64 0) := (blk_cell BK102.out 0).trans rfl
           have hcz19_1 : w6.cell? ⟨gb102, 1, none⟩ = some (.int .i64 0) := (blk_cell BK102.out 1).trans rfl
           have hfz19_0 := blk_frozen BK102.out 0
           have hfz19_1 := blk_frozen BK102.out 1
           go_wp2
           go_meet
           case rel => exact ⟨_, (false), (by first | rfl | (simp; done) | (simp [*]; done)), H', ⟨by have := HK1.out; first | omega | exact Nat.le_refl _⟩, ⟨by (with_reducible repeat (first | refine blk_drewN ?_ _ | refine blk_drew ?_ | refine blk_alloc ?_ _)); refine blk_put (cs := #[.int .i64 ((rd_T108 l0 x9_1).f0), .int .i64 0]) ?_ 1 _ rfl; (with_reducible repeat (first | refine blk_drewN ?_ _ | refine blk_drew ?_ | refine blk_alloc ?_ _)); refine blk_put (cs := #[.int .i64 0, .int .i64 0]) ?_ 0 _ rfl; (with_reducible repeat (first | refine blk_drewN ?_ _ | refine blk_drew ?_ | refine blk_alloc ?_ _)); exact BK102.out⟩, ⟨by repeat (first | (with_reducible first | exact HB.out | apply below_alloc | apply pw_below_drewN | apply below_drew1 | refine below_set ?_ GE102.out) | exact HB.out)⟩⟩
      case rest =>
       clear HC5
       try clear c1
       try clear p1
       try clear q1
       try clear hx1
       try clear c2
       try clear c2b0
       try clear p2
       try clear c3
       try clear c3b0
       try clear c4
       try clear c4b0
       try clear c8
       try clear c8b0
       try clear c10
       try clear c10b0
       try clear p10
       try clear q10
       try clear hx10
       try clear c12
       try clear c12b0
       try clear c14
       try clear c14b0
       try clear c15
       try clear c15b0
       try clear hcz11_0
       try clear hcz11_1
       try clear hcz13_0
       try clear hcz13_1
       try clear hcz16_0
       try clear hcz16_1
       try clear hcz18_0
       try clear hcz18_1
       try clear hcz19_0
       try clear hcz19_1
       try clear hcz7_0
       try clear hcz7_1
       try clear hcz9_0
       try clear hcz9_1
       try clear hfz11_0
       try clear hfz11_1
       try clear hfz13_0
       try clear hfz13_1
       try clear hfz16_0
       try clear hfz16_1
       try clear hfz18_0
       try clear hfz18_1
       try clear hfz19_0
       try clear hfz19_1
       try clear hfz7_0
       try clear hfz7_1
       try clear hfz9_0
       try clear hfz9_1
       try clear hx101_0
       try clear hx101_1
       try clear p101
       try clear q101
       obtain ⟨kq, x41_4, rfl, HA, HJ4, BK102, HB⟩ := hcut
       cases kq with
       | zero => exact absurd HA.out (by simp [span_right.j1])
       | succ kj4 =>
        have H := HA.out
        clear HA
        simp only [span_right.j1] at H
        by_cases c20 : x41_4 = true
        ·subst c20
         have H1 : (some false) = some r := by rw [if_pos rfl] at H; exact H
         clear H
         have H := H1
         clear H1
         obtain rfl := Option.some.inj H
         go_wp2
         go_ret
         exact ⟨by first | rfl | (simp [errW_none, errW_some] <;> rfl) | (simp [*, errW_none, errW_some] <;> rfl), by repeat (first | (with_reducible first | exact HB.out | apply below_alloc | apply pw_below_drewN | apply below_drew1 | refine below_set ?_ GE102.out) | exact HB.out)⟩
        ·replace c20 := Bool.eq_false_iff.mpr c20
         subst c20
         have H1 : ((span_in.f (wrap64 (x3_1 + ((rd_T108 l0 x9_1).f0)))).bind fun t104 => (if t104 = true then ((span_in.f (wrap64 ((wrap64 (x3_1 + ((rd_T108 l0 x9_1).f0))) + (mx (wrap64 (((rd_T108 l0 x9_1).f1) - 1)) 0)))).bind fun t105 => (if t105 = true then (if (wrap64 (x4_1 + ((rd_T108 l0 x9_1).f1))) > 4096 then (some false) else (span_right.l0 kj4 (wrap64 ((wrap64 (x3_1 + ((rd_T108 l0 x9_1).f0))) + ((rd_T108 l0 x9_1).f1))) (wrap64 (x4_1 + ((rd_T108 l0 x9_1).f1))) l0 (l0.length : Int) (wrap64 (x9_1 + 1)))) else (some false))) else (some false))) = some r := by rw [if_neg (show ¬ (false = true) by decide)] at H; exact H
         clear H
         have H := H1
         clear H1
         replace H := Option.bind_eq_some_iff.mp H
         obtain ⟨t104, A210, H⟩ := H
         replace H : (if t104 = true then ((span_in.f (wrap64 ((wrap64 (x3_1 + ((rd_T108 l0 x9_1).f0))) + (mx (wrap64 (((rd_T108 l0 x9_1).f1) - 1)) 0)))).bind fun t105 => (if t105 = true then (if (wrap64 (x4_1 + ((rd_T108 l0 x9_1).f1))) > 4096 then (some false) else (span_right.l0 kj4 (wrap64 ((wrap64 (x3_1 + ((rd_T108 l0 x9_1).f0))) + ((rd_T108 l0 x9_1).f1))) (wrap64 (x4_1 + ((rd_T108 l0 x9_1).f1))) l0 (l0.length : Int) (wrap64 (x9_1 + 1)))) else (some false))) else (some false)) = some r := H
         have A21 := Aside0.mk A210
         clear A210
         by_cases c22 : t104 = true
         ·subst c22
          have H1 : ((span_in.f (wrap64 ((wrap64 (x3_1 + ((rd_T108 l0 x9_1).f0))) + (mx (wrap64 (((rd_T108 l0 x9_1).f1) - 1)) 0)))).bind fun t105 => (if t105 = true then (if (wrap64 (x4_1 + ((rd_T108 l0 x9_1).f1))) > 4096 then (some false) else (span_right.l0 kj4 (wrap64 ((wrap64 (x3_1 + ((rd_T108 l0 x9_1).f0))) + ((rd_T108 l0 x9_1).f1))) (wrap64 (x4_1 + ((rd_T108 l0 x9_1).f1))) l0 (l0.length : Int) (wrap64 (x9_1 + 1)))) else (some false))) = some r := by rw [if_pos rfl] at H; exact H
          clear H
          have H := H1
          clear H1
          obtain ⟨ji23, hji23⟩ : ∃ j_ : Int, (mx (wrap64 (((rd_T108 l0 x9_1).f1) - 1)) 0) = j_ := ⟨_, rfl⟩
          replace H : ((span_in.f (wrap64 ((wrap64 (x3_1 + ((rd_T108 l0 x9_1).f0))) + (ji23)))).bind fun t105 => (if t105 = true then (if (wrap64 (x4_1 + ((rd_T108 l0 x9_1).f1))) > 4096 then (some false) else (span_right.l0 kj4 (wrap64 ((wrap64 (x3_1 + ((rd_T108 l0 x9_1).f0))) + ((rd_T108 l0 x9_1).f1))) (wrap64 (x4_1 + ((rd_T108 l0 x9_1).f1))) l0 (l0.length : Int) (wrap64 (x9_1 + 1)))) else (some false))) = some r := by first | (rw [hji23] at H; exact H) | (simp only [hji23] at H ⊢; exact H)
          (try rw [hji23] at A21)
          have hji23_ : (if (wrap64 (((rd_T108 l0 x9_1).f1) - 1)) < 0 then 0 else (wrap64 (((rd_T108 l0 x9_1).f1) - 1))) = ji23 := hji23
          replace H := Option.bind_eq_some_iff.mp H
          obtain ⟨t105, A240, H⟩ := H
          replace H : (if t105 = true then (if (wrap64 (x4_1 + ((rd_T108 l0 x9_1).f1))) > 4096 then (some false) else (span_right.l0 kj4 (wrap64 ((wrap64 (x3_1 + ((rd_T108 l0 x9_1).f0))) + ((rd_T108 l0 x9_1).f1))) (wrap64 (x4_1 + ((rd_T108 l0 x9_1).f1))) l0 (l0.length : Int) (wrap64 (x9_1 + 1)))) else (some false)) = some r := H
          have A24 := Aside0.mk A240
          clear A240
          by_cases c25 : t105 = true
          ·subst c25
           have H1 : (if (wrap64 (x4_1 + ((rd_T108 l0 x9_1).f1))) > 4096 then (some false) else (span_right.l0 kj4 (wrap64 ((wrap64 (x3_1 + ((rd_T108 l0 x9_1).f0))) + ((rd_T108 l0 x9_1).f1))) (wrap64 (x4_1 + ((rd_T108 l0 x9_1).f1))) l0 (l0.length : Int) (wrap64 (x9_1 + 1)))) = some r := by rw [if_pos rfl] at H; exact H
           clear H
           have H := H1
           clear H1
           by_cases c26 : (wrap64 (x4_1 + ((rd_T108 l0 x9_1).f1))) > 4096
           ·rw [if_pos c26] at H
            have c26b0 : decide (4096 < (wrap64 (x4_1 + ((rd_T108 l0 x9_1).f1)))) = true := decide_eq_true c26
            clear c26
            obtain rfl := Option.some.inj H
            have hcz27_0 : wc.cell? ⟨gb102, 0, none⟩ = some (.int .i64 ((rd_T108 l0 x9_1).f0)) := (blk_cell BK102.out 0).trans rfl
            have hcz27_1 : wc.cell? ⟨gb102, 1, none⟩ = some (.int .i64 ((rd_T108 l0 x9_1).f1)) := (blk_cell BK102.out 1).trans rfl
            have hfz27_0 := blk_frozen BK102.out 0
            have hfz27_1 := blk_frozen BK102.out 1
            go_wp2_with (first | ((with_reducible refine gate_callee (f := 149) rfl ?_); refine goesL_ (some 51) rfl rfl Try.func149 (by kernel_rfl) rfl #[.int .i64 (wrap64 (x3_1 + ((rd_T108 l0 x9_1).f0)))] rfl (by (try simp only [List.map_toArray, List.map_cons, List.map_nil]); first | done | rfl | (simp only [List.length_drop, List.length_take]; rfl)) ?_; (with_reducible refine (span_in.calls (wrap64 (x3_1 + ((rd_T108 l0 x9_1).f0))) true _ A21.out).mono ?_); rintro e w' ⟨rfl, ⟨nd, rfl⟩⟩; refine ⟨_, rfl, ?_⟩; clear A21) | (go_at_call 149; (with_reducible refine (span_in.calls (wrap64 ((wrap64 (x3_1 + ((rd_T108 l0 x9_1).f0))) + (ji23))) true _ A24.out).mono ?_); rintro e w' ⟨rfl, ⟨nd, rfl⟩⟩; clear A24))
            go_ret
            exact ⟨by first | rfl | (simp [errW_none, errW_some] <;> rfl) | (simp only [← hji23]; first | rfl | (simp [errW_none, errW_some] <;> rfl)) | (simp [*, errW_none, errW_some] <;> rfl), by repeat (first | (with_reducible first | exact HB.out | apply below_alloc | apply pw_below_drewN | apply below_drew1 | refine below_set ?_ GE102.out) | exact HB.out)⟩
           ·rw [if_neg c26] at H
            have c26b0 : decide (4096 < (wrap64 (x4_1 + ((rd_T108 l0 x9_1).f1)))) = false := decide_eq_false c26
            clear c26
            have H' := Aside0.mk H
            clear H
            have hcz28_0 : wc.cell? ⟨gb102, 0, none⟩ = some (.int .i64 ((rd_T108 l0 x9_1).f0)) := (blk_cell BK102.out 0).trans rfl
            have hcz28_1 : wc.cell? ⟨gb102, 1, none⟩ = some (.int .i64 ((rd_T108 l0 x9_1).f1)) := (blk_cell BK102.out 1).trans rfl
            have hfz28_0 := blk_frozen BK102.out 0
            have hfz28_1 := blk_frozen BK102.out 1
            go_wp2_with (first | ((with_reducible refine gate_callee (f := 149) rfl ?_); refine goesL_ (some 51) rfl rfl Try.func149 (by kernel_rfl) rfl #[.int .i64 (wrap64 (x3_1 + ((rd_T108 l0 x9_1).f0)))] rfl (by (try simp only [List.map_toArray, List.map_cons, List.map_nil]); first | done | rfl | (simp only [List.length_drop, List.length_take]; rfl)) ?_; (with_reducible refine (span_in.calls (wrap64 (x3_1 + ((rd_T108 l0 x9_1).f0))) true _ A21.out).mono ?_); rintro e w' ⟨rfl, ⟨nd, rfl⟩⟩; refine ⟨_, rfl, ?_⟩; clear A21) | (go_at_call 149; (with_reducible refine (span_in.calls (wrap64 ((wrap64 (x3_1 + ((rd_T108 l0 x9_1).f0))) + (ji23))) true _ A24.out).mono ?_); rintro e w' ⟨rfl, ⟨nd, rfl⟩⟩; clear A24))
            go_roundg kj4
            case measure => have := HK1.out; have := HJ4.out; omega
            case rel => exact ⟨(wrap64 ((wrap64 (x3_1 + ((rd_T108 l0 x9_1).f0))) + ((rd_T108 l0 x9_1).f1))), (wrap64 (x4_1 + ((rd_T108 l0 x9_1).f1))), (wrap64 (x9_1 + 1)), (by first | rfl | (simp; done) | (simp [*]; done)), (by first | rfl | (simp; done) | (simp [*]; done)), (by first | rfl | (simp; done) | (simp [*]; done)), H', ⟨by have := HK1.out; have := HJ4.out; omega⟩, ⟨by repeat (first | (with_reducible first | exact HB.out | apply below_alloc | apply pw_below_drewN | apply below_drew1 | refine below_set ?_ GE102.out) | exact HB.out)⟩⟩
          ·replace c25 := Bool.eq_false_iff.mpr c25
           subst c25
           have H1 : (some false) = some r := by rw [if_neg (show ¬ (false = true) by decide)] at H; exact H
           clear H
           have H := H1
           clear H1
           obtain rfl := Option.some.inj H
           have hcz29_0 : wc.cell? ⟨gb102, 0, none⟩ = some (.int .i64 ((rd_T108 l0 x9_1).f0)) := (blk_cell BK102.out 0).trans rfl
           have hcz29_1 : wc.cell? ⟨gb102, 1, none⟩ = some (.int .i64 ((rd_T108 l0 x9_1).f1)) := (blk_cell BK102.out 1).trans rfl
           have hfz29_0 := blk_frozen BK102.out 0
           have hfz29_1 := blk_frozen BK102.out 1
           go_wp2_with (first | ((with_reducible refine gate_callee (f := 149) rfl ?_); refine goesL_ (some 51) rfl rfl Try.func149 (by kernel_rfl) rfl #[.int .i64 (wrap64 (x3_1 + ((rd_T108 l0 x9_1).f0)))] rfl (by (try simp only [List.map_toArray, List.map_cons, List.map_nil]); first | done | rfl | (simp only [List.length_drop, List.length_take]; rfl)) ?_; (with_reducible refine (span_in.calls (wrap64 (x3_1 + ((rd_T108 l0 x9_1).f0))) true _ A21.out).mono ?_); rintro e w' ⟨rfl, ⟨nd, rfl⟩⟩; refine ⟨_, rfl, ?_⟩; clear A21) | (go_at_call 149; (with_reducible refine (span_in.calls (wrap64 ((wrap64 (x3_1 + ((rd_T108 l0 x9_1).f0))) + (ji23))) false _ A24.out).mono ?_); rintro e w' ⟨rfl, ⟨nd, rfl⟩⟩; clear A24))
           go_ret
           exact ⟨by first | rfl | (simp [errW_none, errW_some] <;> rfl) | (simp only [← hji23]; first | rfl | (simp [errW_none, errW_some] <;> rfl)) | (simp [*, errW_none, errW_some] <;> rfl), by repeat (first | (with_reducible first | exact HB.out | apply below_alloc | apply pw_below_drewN | apply below_drew1 | refine below_set ?_ GE102.out) | exact HB.out)⟩
         ·replace c22 := Bool.eq_false_iff.mpr c22
          subst c22
          have H1 : (some false) = some r := by rw [if_neg (show ¬ (false = true) by decide)] at H; exact H
          clear H
          have H := H1
          clear H1
          obtain rfl := Option.some.inj H
          have hcz30_0 : wc.cell? ⟨gb102, 0, none⟩ = some (.int .i64 ((rd_T108 l0 x9_1).f0)) := (blk_cell BK102.out 0).trans rfl
          have hcz30_1 : wc.cell? ⟨gb102, 1, none⟩ = some (.int .i64 ((rd_T108 l0 x9_1).f1)) := (blk_cell BK102.out 1).trans rfl
          have hfz30_0 := blk_frozen BK102.out 0
          have hfz30_1 := blk_frozen BK102.out 1
          go_wp2_with (first | ((with_reducible refine gate_callee (f := 149) rfl ?_); refine goesL_ (some 51) rfl rfl Try.func149 (by kernel_rfl) rfl #[.int .i64 (wrap64 (x3_1 + ((rd_T108 l0 x9_1).f0)))] rfl (by (try simp only [List.map_toArray, List.map_cons, List.map_nil]); first | done | rfl | (simp only [List.length_drop, List.length_take]; rfl)) ?_; (with_reducible refine (span_in.calls (wrap64 (x3_1 + ((rd_T108 l0 x9_1).f0))) false _ A21.out).mono ?_); rintro e w' ⟨rfl, ⟨nd, rfl⟩⟩; refine ⟨_, rfl, ?_⟩; clear A21))
          go_ret
          exact ⟨by first | rfl | (simp [errW_none, errW_some] <;> rfl) | (simp [*, errW_none, errW_some] <;> rfl), by repeat (first | (with_reducible first | exact HB.out | apply below_alloc | apply pw_below_drewN | apply below_drew1 | refine below_set ?_ GE102.out) | exact HB.out)⟩
     ·rw [if_neg c4] at H
      exact absurd H (by simp)
    ·rw [if_neg c3] at H
     exact absurd H (by simp)
   ·rw [if_neg c2] at H
    have c2b0 : decide (x9_1 < (l0.length : Int)) = false := decide_eq_false c2
    clear c2
    obtain rfl := Option.some.inj H
    go_wp2
    go_ret
    exact ⟨by first | rfl | (simp [errW_none, errW_some] <;> rfl) | (simp [*, errW_none, errW_some] <;> rfl), by repeat (first | (with_reducible first | exact HB.out | apply below_alloc | apply pw_below_drewN | apply below_drew1) | exact HB.out)⟩
def span_Check.f (k : Nat) (l0 : List (S108)) : Option (Int) := if (l0.length : Int) > 1024 then (some 12) else ((span_right.f k l0).bind fun t101 => (if t101 = true then (some 0) else (some 20)))
set_option maxHeartbeats 8000000 in
set_option maxRecDepth 100000 in
theorem span_Check.calls (k : Nat) (A0 : Option Addr) (c0 : Nat) (l0 : List (S108)) (r : Int) (w : World) (hr0 : Kd.C k108 w A0 l0.length l0) (hc0 : l0.length ≤ c0) (h : span_Check.f k l0 = some r) :
  Calls Try.prog 132 #[.slice A0 l0.length c0] w fun e w' => e = .returned (.int .i64 r) ∧ Below w.heap.size w w' := by
 have HR0 := Aside0.mk hr0
 have HC0 := Aside0.mk hc0
 clear hr0 hc0
 have HB := Aside0.mk (Below.refl w.heap.size w)
 have H : (if (l0.length : Int) > 1024 then (some 12) else ((span_right.f k l0).bind fun t101 => (if t101 = true then (some 0) else (some 20)))) = some r := h
 clear h
 by_cases c2 : (l0.length : Int) > 1024
 ·rw [if_pos c2] at H
  have c2b0 : decide (1024 < (l0.length : Int)) = true := decide_eq_true c2
  have c2b1 : decide (1024 < l0.length) = true := decide_eq_true (by omega)
  clear c2
  obtain rfl := Option.some.inj H
  go_enter Try.func132, Try.ntmps132
  go_wp2
  go_ret
  exact ⟨by first | rfl | (simp [errW_none, errW_some] <;> rfl) | (simp [*, errW_none, errW_some] <;> rfl), by repeat (first | (with_reducible first | exact HB.out | apply below_alloc | apply pw_below_drewN | apply below_drew1) | exact HB.out)⟩
 ·rw [if_neg c2] at H
  have c2b0 : decide (1024 < (l0.length : Int)) = false := decide_eq_false c2
  have c2b1 : decide (1024 < l0.length) = false := decide_eq_false (by omega)
  clear c2
  replace H := Option.bind_eq_some_iff.mp H
  obtain ⟨t101, A30, H⟩ := H
  replace H : (if t101 = true then (some 0) else (some 20)) = some r := H
  have A3 := Aside0.mk A30
  clear A30
  by_cases c4 : t101 = true
  ·subst c4
   have H1 : (some 0) = some r := by rw [if_pos rfl] at H; exact H
   clear H
   have H := H1
   clear H1
   obtain rfl := Option.some.inj H
   go_enter Try.func132, Try.ntmps132
   go_wp2_with (first | ((with_reducible refine gate_callee (f := 153) rfl ?_); refine goesL_ (some 9) rfl rfl Try.func153 (by kernel_rfl) rfl #[.slice A0 l0.length c0] rfl (by (try simp only [List.map_toArray, List.map_cons, List.map_nil]); first | done | rfl | (simp only [List.length_drop, List.length_take]; rfl)) ?_; (with_reducible refine (span_right.calls k _ _ l0 true _ ?side1 ?side2 A3.out).mono ?_); (case side1 => repeat (first | exact HR0.out | (with_reducible refine Kd.C_alloc ?_ _) | (with_reducible refine Kd.C_drewN ?_ _) | (with_reducible refine Kd.C_drew ?_))); (case side2 => exact HC0.out); rintro e w5 ⟨rfl, hb⟩; refine ⟨_, rfl, ?_⟩; have n0_ := Aside0.mk (below_step (by repeat (first | (with_reducible first | exact HB.out | apply below_alloc | apply pw_below_drewN | apply below_drew1) | exact HB.out)) hb); clear HB; have HB := n0_; clear n0_; (try clear hb); (try clear hb2); (try clear hk); (try clear hi); clear A3))
   go_ret
   exact ⟨by first | rfl | (simp [errW_none, errW_some] <;> rfl) | (simp [*, errW_none, errW_some] <;> rfl), by repeat (first | (with_reducible first | exact HB.out | apply below_alloc | apply pw_below_drewN | apply below_drew1) | exact HB.out)⟩
  ·replace c4 := Bool.eq_false_iff.mpr c4
   subst c4
   have H1 : (some 20) = some r := by rw [if_neg (show ¬ (false = true) by decide)] at H; exact H
   clear H
   have H := H1
   clear H1
   obtain rfl := Option.some.inj H
   go_enter Try.func132, Try.ntmps132
   go_wp2_with (first | ((with_reducible refine gate_callee (f := 153) rfl ?_); refine goesL_ (some 9) rfl rfl Try.func153 (by kernel_rfl) rfl #[.slice A0 l0.length c0] rfl (by (try simp only [List.map_toArray, List.map_cons, List.map_nil]); first | done | rfl | (simp only [List.length_drop, List.length_take]; rfl)) ?_; (with_reducible refine (span_right.calls k _ _ l0 false _ ?side1 ?side2 A3.out).mono ?_); (case side1 => repeat (first | exact HR0.out | (with_reducible refine Kd.C_alloc ?_ _) | (with_reducible refine Kd.C_drewN ?_ _) | (with_reducible refine Kd.C_drew ?_))); (case side2 => exact HC0.out); rintro e w6 ⟨rfl, hb⟩; refine ⟨_, rfl, ?_⟩; have n0_ := Aside0.mk (below_step (by repeat (first | (with_reducible first | exact HB.out | apply below_alloc | apply pw_below_drewN | apply below_drew1) | exact HB.out)) hb); clear HB; have HB := n0_; clear n0_; (try clear hb); (try clear hb2); (try clear hk); (try clear hi); clear A3))
   go_ret
   exact ⟨by first | rfl | (simp [errW_none, errW_some] <;> rfl) | (simp [*, errW_none, errW_some] <;> rfl), by repeat (first | (with_reducible first | exact HB.out | apply below_alloc | apply pw_below_drewN | apply below_drew1) | exact HB.out)⟩
mutual
def span_From.l0 : Nat → List Int → List (S108) → Int → List Int → Int → Int → Option ((List (S108)) × Int)
 | 0, _, _, _, _, _, _ => none
 | k + 1, x0, x4, x5, x8, x9, x10 => if x10 < x9 then (if 0 ≤ x10 then (if x10 < (x8.length : Int) then ((span_in.f (rd x8 x10)).bind fun t102 => (if t102 = true then (if x10 > 0 then (span_From.j1 k x0 x4 x5 x10 (rd x8 x10) x8 x9 x10 (decide ((rd x8 x10) < x5))) else (span_From.j1 k x0 x4 x5 x10 (rd x8 x10) x8 x9 x10 false)) else (span_From.j1 k x0 x4 x5 x10 (rd x8 x10) x8 x9 x10 true))) else (none)) else (none)) else (if (x0.length : Int) > 4096 then (some (([] : List (S108)), 12)) else (if (x4.length : Int) > 1024 then (some (([] : List (S108)), 12)) else (some (x4, 0))))
def span_From.j1 : Nat → List Int → List (S108) → Int → Int → Int → List Int → Int → Int → Bool → Option ((List (S108)) × Int)
 | 0, _, _, _, _, _, _, _, _, _ => none
 | k + 1, x0, x4, x5, x6, x7, x8, x9, x10, x26 => if x26 = true then (some (([] : List (S108)), 11)) else (if x6 = 0 then (if x4.length < 8796093022208 then ((some (x4 ++ [(⟨wrap64 (x7 - x5), 0⟩ : S108)] : List (S108))).bind fun y103 => (if 0 ≤ (wrap64 ((y103.length : Int) - 1)) then (if (wrap64 ((y103.length : Int) - 1)) < (y103.length : Int) then (span_From.l0 k x0 (y103.set ((wrap64 ((y103.length : Int) - 1)) : Int).toNat (⟨(rd_T108 y103 (wrap64 ((y103.length : Int) - 1))).f0, wrap64 (((rd_T108 y103 (wrap64 ((y103.length : Int) - 1))).f1) + 1)⟩ : S108)) (wrap64 (x7 + 1)) x8 x9 (wrap64 (x10 + 1))) else (none)) else (none))) else (none)) else (if x7 > x5 then (if x4.length < 8796093022208 then ((some (x4 ++ [(⟨wrap64 (x7 - x5), 0⟩ : S108)] : List (S108))).bind fun y108 => (if 0 ≤ (wrap64 ((y108.length : Int) - 1)) then (if (wrap64 ((y108.length : Int) - 1)) < (y108.length : Int) then (span_From.l0 k x0 (y108.set ((wrap64 ((y108.length : Int) - 1)) : Int).toNat (⟨(rd_T108 y108 (wrap64 ((y108.length : Int) - 1))).f0, wrap64 (((rd_T108 y108 (wrap64 ((y108.length : Int) - 1))).f1) + 1)⟩ : S108)) (wrap64 (x7 + 1)) x8 x9 (wrap64 (x10 + 1))) else (none)) else (none))) else (none)) else (if 0 ≤ (wrap64 ((x4.length : Int) - 1)) then (if (wrap64 ((x4.length : Int) - 1)) < (x4.length : Int) then (span_From.l0 k x0 (x4.set ((wrap64 ((x4.length : Int) - 1)) : Int).toNat (⟨(rd_T108 x4 (wrap64 ((x4.length : Int) - 1))).f0, wrap64 (((rd_T108 x4 (wrap64 ((x4.length : Int) - 1))).f1) + 1)⟩ : S108)) (wrap64 (x7 + 1)) x8 x9 (wrap64 (x10 + 1))) else (none)) else (none))))
end
def span_From.f (k : Nat) (l0 : List Int) : Option ((List (S108)) × Int) := span_From.l0 k l0 ([] : List (S108)) 0 l0 (l0.length : Int) 0
set_option maxHeartbeats 8000000 in
set_option maxRecDepth 100000 in
theorem span_From.calls (k : Nat) (A0 : Option Addr) (c0 : Nat) (l0 : List Int) (r1 : List (S108)) (r2 : Int) (w : World) (hr0 : Kd.C (Kd.int .i64) w A0 l0.length l0) (hc0 : l0.length ≤ c0) (h : span_From.f k l0 = some (r1, r2)) :
  Calls Try.prog 122 #[.slice A0 l0.length c0] w fun e w' => ∃ v0_ : Value, e = .returned (.tuple #[v0_, .int .i64 r2]) ∧ Kd.R k108 108 w' w.heap.size (fun _ => True) v0_ r1 ∧ Below w.heap.size w w' := by
 have hu108 := Try.underlying108
 have HR0 := Aside0.mk hr0
 have HC0 := Aside0.mk hc0
 clear hr0 hc0
 have HB := Aside0.mk (Below.refl w.heap.size w)
 have H : (span_From.l0 k l0 ([] : List (S108)) 0 l0 (l0.length : Int) 0) = some (r1, r2) := h
 clear h
 have H' := Aside0.mk H
 clear H
 go_enter Try.func122, Try.ntmps122
 go_wp2
 go_loopg [4, 5, 10] k (fun kq v4 v5 v10 w' => ∃ (x4_1 : List (S108)) (x5_1 : Int) (x10_1 : Int), v5 = .int .i64 x5_1 ∧ v10 = .int .i64 x10_1 ∧ Aside0 (span_From.l0 kq l0 x4_1 x5_1 l0 (l0.length : Int) x10_1 = some (r1, r2)) ∧ Aside0 (kq ≤ k) ∧ Aside0 (Kd.R k108 108 w' w.heap.size (fun _ => True) v4 x4_1) ∧ Aside0 (Below w.heap.size w w'))
 case atStart => exact ⟨(([] : List (S108))), (0), (0), (by first | rfl | (simp; done) | (simp [*]; done)), (by first | rfl | (simp; done) | (simp [*]; done)), H', ⟨Nat.le_refl _⟩, ⟨by first | exact Kd.R_nil _ _ _ _ _ | exact Kd.N_nil _ _ _ _ _ | exact Kd.V_nil _ _ _ _ _ | exact Kd.Q_nil _ _ _ _ _ | exact Kd.S_nil _ _ _ _ _⟩, ⟨by repeat (first | (with_reducible first | exact HB.out | apply below_alloc | apply pw_below_drewN | apply below_drew1) | exact HB.out)⟩⟩
 case round =>
  clear H'
  try clear c1
  obtain ⟨x4_1, x5_1, x10_1, rfl, rfl, HA, HK1, HO_4, HB⟩ := hrel
  cases gk with
  | zero => exact absurd HA.out (by simp [span_From.l0])
  | succ k1 =>
   have H := HA.out
   clear HA
   simp only [span_From.l0] at H
   by_cases c2 : x10_1 < (l0.length : Int)
   ·rw [if_pos c2] at H
    have c2b0 : decide (x10_1 < (l0.length : Int)) = true := decide_eq_true c2
    clear c2
    by_cases c3 : 0 ≤ x10_1
    ·rw [if_pos c3] at H
     have c3b0 : decide (0 ≤ x10_1) = true := decide_eq_true c3
     clear c3
     by_cases c4 : x10_1 < (l0.length : Int)
     ·rw [if_pos c4] at H
      have c4b0 : decide (x10_1 < (l0.length : Int)) = true := decide_eq_true c4
      clear c4
      have HC5 := Aside0.mk H
      clear H
      have p101 : 0 ≤ (x10_1 : Int) := of_decide_eq_true (by first | (with_reducible assumption) | assumption)
      have q101 : x10_1 < (l0.length : Int) := of_decide_eq_true (by first | (with_reducible assumption) | assumption)
      obtain ⟨ad101, e101, hx101_0⟩ := Kd.at_int HR0.out x10_1 p101 q101
      cases e101
      replace hx101_0 := (HB.out.cell (World.block_lt_of_cell? w _ hx101_0)).trans hx101_0
      replace p101 := eq_true p101
      replace q101 := eq_true q101
      go_upto_region 6 with (fail)
      go_cut [26] (fun v26 wc => ∃ (kq : Nat) (x26_4 : Bool), v26 = .bool x26_4 ∧ Aside0 (span_From.j1 kq l0 x4_1 x5_1 x10_1 (rd l0 x10_1) l0 (l0.length : Int) x10_1 x26_4 = some (r1, r2)) ∧ Aside0 (kq ≤ k1) ∧ Aside0 (Kd.R k108 108 wc w.heap.size (fun _ => True) u4 x4_1) ∧ Aside0 (Below w.heap.size w wc))
      case first =>
       have H := HC5.out
       clear HC5
       replace H := Option.bind_eq_some_iff.mp H
       obtain ⟨t102, A60, H⟩ := H
       replace H : (if t102 = true then (if x10_1 > 0 then (span_From.j1 k1 l0 x4_1 x5_1 x10_1 (rd l0 x10_1) l0 (l0.length : Int) x10_1 (decide ((rd l0 x10_1) < x5_1))) else (span_From.j1 k1 l0 x4_1 x5_1 x10_1 (rd l0 x10_1) l0 (l0.length : Int) x10_1 false)) else (span_From.j1 k1 l0 x4_1 x5_1 x10_1 (rd l0 x10_1) l0 (l0.length : Int) x10_1 true)) = some (r1, r2) := H
       have A6 := Aside0.mk A60
       clear A60
       by_cases c7 : t102 = true
       ·subst c7
        have H1 : (if x10_1 > 0 then (span_From.j1 k1 l0 x4_1 x5_1 x10_1 (rd l0 x10_1) l0 (l0.length : Int) x10_1 (decide ((rd l0 x10_1) < x5_1))) else (span_From.j1 k1 l0 x4_1 x5_1 x10_1 (rd l0 x10_1) l0 (l0.length : Int) x10_1 false)) = some (r1, r2) := by rw [if_pos rfl] at H; exact H
        clear H
        have H := H1
        clear H1
        by_cases c8 : x10_1 > 0
        ·rw [if_pos c8] at H
         have c8b0 : decide (0 < x10_1) = true := decide_eq_true c8
         clear c8
         (first | rw [c8b0] | (simp only [i64_w, i32_w]; rw [c8b0]) | skip)
         have H' := Aside0.mk H
         clear H
         go_wp2_with (first | ((with_reducible refine gate_callee (f := 149) rfl ?_); refine goesL_ (some 16) rfl rfl Try.func149 (by kernel_rfl) rfl #[.int .i64 (rd l0 x10_1)] rfl (by (try simp only [List.map_toArray, List.map_cons, List.map_nil]); first | done | rfl | (simp only [List.length_drop, List.length_take]; rfl)) ?_; (with_reducible refine (span_in.calls (rd l0 x10_1) true _ A6.out).mono ?_); rintro e w' ⟨rfl, ⟨nd, rfl⟩⟩; refine ⟨_, rfl, ?_⟩; clear A6))
         go_meet
         case rel => exact ⟨_, (decide ((rd l0 x10_1) < x5_1)), (by first | rfl | (simp; done) | (simp [*]; done)), H', ⟨by have := HK1.out; first | omega | exact Nat.le_refl _⟩, ⟨by (with_reducible repeat (first | apply Kd.R_alloc | apply Kd.R_drewN | apply Kd.R_drew)); exact HO_4.out⟩, ⟨by repeat (first | (with_reducible first | exact HB.out | apply below_alloc | apply pw_below_drewN | apply below_drew1) | exact HB.out)⟩⟩
        ·rw [if_neg c8] at H
         have c8b0 : decide (0 < x10_1) = false := decide_eq_false c8
         clear c8
         (first | rw [c8b0] | (simp only [i64_w, i32_w]; rw [c8b0]) | skip)
         have H' := Aside0.mk H
         clear H
         go_wp2_with (first | ((with_reducible refine gate_callee (f := 149) rfl ?_); refine goesL_ (some 16) rfl rfl Try.func149 (by kernel_rfl) rfl #[.int .i64 (rd l0 x10_1)] rfl (by (try simp only [List.map_toArray, List.map_cons, List.map_nil]); first | done | rfl | (simp only [List.length_drop, List.length_take]; rfl)) ?_; (with_reducible refine (span_in.calls (rd l0 x10_1) true _ A6.out).mono ?_); rintro e w' ⟨rfl, ⟨nd, rfl⟩⟩; refine ⟨_, rfl, ?_⟩; clear A6))
         go_meet
         case rel => exact ⟨_, (false), (by first | rfl | (simp; done) | (simp [*]; done)), H', ⟨by have := HK1.out; first | omega | exact Nat.le_refl _⟩, ⟨by (with_reducible repeat (first | apply Kd.R_alloc | apply Kd.R_drewN | apply Kd.R_drew)); exact HO_4.out⟩, ⟨by repeat (first | (with_reducible first | exact HB.out | apply below_alloc | apply pw_below_drewN | apply below_drew1) | exact HB.out)⟩⟩
       ·replace c7 := Bool.eq_false_iff.mpr c7
        subst c7
        have H1 : (span_From.j1 k1 l0 x4_1 x5_1 x10_1 (rd l0 x10_1) l0 (l0.length : Int) x10_1 true) = some (r1, r2) := by rw [if_neg (show ¬ (false = true) by decide)] at H; exact H
        clear H
        have H := H1
        clear H1
        have H' := Aside0.mk H
        clear H
        go_wp2_with (first | ((with_reducible refine gate_callee (f := 149) rfl ?_); refine goesL_ (some 16) rfl rfl Try.func149 (by kernel_rfl) rfl #[.int .i64 (rd l0 x10_1)] rfl (by (try simp only [List.map_toArray, List.map_cons, List.map_nil]); first | done | rfl | (simp only [List.length_drop, List.length_take]; rfl)) ?_; (with_reducible refine (span_in.calls (rd l0 x10_1) false _ A6.out).mono ?_); rintro e w' ⟨rfl, ⟨nd, rfl⟩⟩; refine ⟨_, rfl, ?_⟩; clear A6))
        go_meet
        case rel => exact ⟨_, (true), (by first | rfl | (simp; done) | (simp [*]; done)), H', ⟨by have := HK1.out; first | omega | exact Nat.le_refl _⟩, ⟨by (with_reducible repeat (first | apply Kd.R_alloc | apply Kd.R_drewN | apply Kd.R_drew)); exact HO_4.out⟩, ⟨by repeat (first | (with_reducible first | exact HB.out | apply below_alloc | apply pw_below_drewN | apply below_drew1) | exact HB.out)⟩⟩
      case rest =>
       clear HC5
       try clear c1
       try clear p1
       try clear q1
       try clear hx1
       try clear c2
       try clear c2b0
       try clear p2
       try clear c3
       try clear c3b0
       try clear c4
       try clear c4b0
       try clear c7
       try clear c8
       try clear c8b0
       try clear hx101_0
       try clear p101
       try clear q101
       obtain ⟨kq, x26_4, rfl, HA, HJ4, HO_4, HB⟩ := hcut
       cases kq with
       | zero => exact absurd HA.out (by simp [span_From.j1])
       | succ kj4 =>
        have H := HA.out
        clear HA
        simp only [span_From.j1] at H
        by_cases c9 : x26_4 = true
        ·subst c9
         have H1 : (some (([] : List (S108)), 11)) = some (r1, r2) := by rw [if_pos rfl] at H; exact H
         clear H
         have H := H1
         clear H1
         simp only [Option.some.injEq, Prod.mk.injEq] at H
         obtain ⟨rfl, rfl⟩ := H
         go_wp2
         go_ret2
         exact ⟨_, by first | rfl | (simp [errW_none, errW_some] <;> rfl) | (simp [*, errW_none, errW_some] <;> rfl), by first | exact Kd.R_nil _ _ _ _ _ | exact Kd.N_nil _ _ _ _ _ | exact Kd.V_nil _ _ _ _ _ | exact Kd.Q_nil _ _ _ _ _ | exact Kd.S_nil _ _ _ _ _, by repeat (first | (with_reducible first | exact HB.out | apply below_alloc | apply pw_below_drewN | apply below_drew1) | exact HB.out)⟩
        ·replace c9 := Bool.eq_false_iff.mpr c9
         subst c9
         have H1 : (if x10_1 = 0 then (if x4_1.length < 8796093022208 then ((some (x4_1 ++ [(⟨wrap64 ((rd l0 x10_1) - x5_1), 0⟩ : S108)] : List (S108))).bind fun y103 => (if 0 ≤ (wrap64 ((y103.length : Int) - 1)) then (if (wrap64 ((y103.length : Int) - 1)) < (y103.length : Int) then (span_From.l0 kj4 l0 (y103.set ((wrap64 ((y103.length : Int) - 1)) : Int).toNat (⟨(rd_T108 y103 (wrap64 ((y103.length : Int) - 1))).f0, wrap64 (((rd_T108 y103 (wrap64 ((y103.length : Int) - 1))).f1) + 1)⟩ : S108)) (wrap64 ((rd l0 x10_1) + 1)) l0 (l0.length : Int) (wrap64 (x10_1 + 1))) else (none)) else (none))) else (none)) else (if (rd l0 x10_1) > x5_1 then (if x4_1.length < 8796093022208 then ((some (x4_1 ++ [(⟨wrap64 ((rd l0 x10_1) - x5_1), 0⟩ : S108)] : List (S108))).bind fun y108 => (if 0 ≤ (wrap64 ((y108.length : Int) - 1)) then (if (wrap64 ((y108.length : Int) - 1)) < (y108.length : Int) then (span_From.l0 kj4 l0 (y108.set ((wrap64 ((y108.length : Int) - 1)) : Int).toNat (⟨(rd_T108 y108 (wrap64 ((y108.length : Int) - 1))).f0, wrap64 (((rd_T108 y108 (wrap64 ((y108.length : Int) - 1))).f1) + 1)⟩ : S108)) (wrap64 ((rd l0 x10_1) + 1)) l0 (l0.length : Int) (wrap64 (x10_1 + 1))) else (none)) else (none))) else (none)) else (if 0 ≤ (wrap64 ((x4_1.length : Int) - 1)) then (if (wrap64 ((x4_1.length : Int) - 1)) < (x4_1.length : Int) then (span_From.l0 kj4 l0 (x4_1.set ((wrap64 ((x4_1.length : Int) - 1)) : Int).toNat (⟨(rd_T108 x4_1 (wrap64 ((x4_1.length : Int) - 1))).f0, wrap64 (((rd_T108 x4_1 (wrap64 ((x4_1.length : Int) - 1))).f1) + 1)⟩ : S108)) (wrap64 ((rd l0 x10_1) + 1)) l0 (l0.length : Int) (wrap64 (x10_1 + 1))) else (none)) else (none)))) = some (r1, r2) := by rw [if_neg (show ¬ (false = true) by decide)] at H; exact H
         clear H
         have H := H1
         clear H1
         by_cases c10 : x10_1 = 0
         ·rw [if_pos c10] at H
          have c10b0 : (x10_1 == 0) = true := beq_iff_eq.mpr c10
          have c10b1 : (x10_1 != 0) = false := bne_eq_false_iff_eq.mpr c10
          clear c10
          by_cases c11 : x4_1.length < 8796093022208
          ·rw [if_pos c11] at H
           have LMc11 := Aside0.mk c11
           clear c11
           obtain ⟨y103, hy103⟩ : ∃ y_ : List (S108), y_ = (x4_1 ++ [(⟨wrap64 ((rd l0 x10_1) - x5_1), 0⟩ : S108)]) := ⟨_, rfl⟩
           replace H : (if 0 ≤ (wrap64 ((y103.length : Int) - 1)) then (if (wrap64 ((y103.length : Int) - 1)) < (y103.length : Int) then (span_From.l0 kj4 l0 (y103.set ((wrap64 ((y103.length : Int) - 1)) : Int).toNat (⟨(rd_T108 y103 (wrap64 ((y103.length : Int) - 1))).f0, wrap64 (((rd_T108 y103 (wrap64 ((y103.length : Int) - 1))).f1) + 1)⟩ : S108)) (wrap64 ((rd l0 x10_1) + 1)) l0 (l0.length : Int) (wrap64 (x10_1 + 1))) else (none)) else (none)) = some (r1, r2) := by first | (rw [hy103]; with_reducible exact H) | (have H2_ := (Option.bind_some _ _).symm.trans H; rw [hy103]; with_reducible exact H2_) | (have H2_ := (Option.bind_some _ _).symm.trans H; with_reducible exact H2_) | with_reducible exact H | (rw [hy103]; exact H) | exact H
           have Ny103 := Aside0.mk hy103
           clear hy103
           obtain ⟨ji12, hji12⟩ : ∃ j_ : Int, (wrap64 ((y103.length : Int) - 1)) = j_ := ⟨_, rfl⟩
           replace H : (if 0 ≤ (ji12) then (if (ji12) < (y103.length : Int) then (span_From.l0 kj4 l0 (y103.set ((ji12) : Int).toNat (⟨(rd_T108 y103 (ji12)).f0, wrap64 (((rd_T108 y103 (ji12)).f1) + 1)⟩ : S108)) (wrap64 ((rd l0 x10_1) + 1)) l0 (l0.length : Int) (wrap64 (x10_1 + 1))) else (none)) else (none)) = some (r1, r2) := by first | (rw [hji12] at H; exact H) | (simp only [hji12] at H ⊢; exact H)
           have hji12w : (IntKind.i64.wrap ((y103.length : Int) - 1)) = ji12 := (i64_w _).trans hji12
           by_cases c13 : 0 ≤ (ji12)
           ·rw [if_pos c13] at H
            have c13b0 : decide (0 ≤ (ji12)) = true := decide_eq_true c13
            clear c13
            by_cases c14 : (ji12) < (y103.length : Int)
            ·rw [if_pos c14] at H
             have c14b0 : decide ((ji12) < (y103.length : Int)) = true := decide_eq_true c14
             clear c14
             obtain ⟨y107, hy107⟩ : ∃ y_ : List (S108), y_ = (y103.set ((ji12) : Int).toNat (⟨(rd_T108 y103 (ji12)).f0, wrap64 (((rd_T108 y103 (ji12)).f1) + 1)⟩ : S108)) := ⟨_, rfl⟩
             replace H : (span_From.l0 kj4 l0 y107 (wrap64 ((rd l0 x10_1) + 1)) l0 (l0.length : Int) (wrap64 (x10_1 + 1))) = some (r1, r2) := by first | (rw [hy107]; with_reducible exact H) | (have H2_ := (Option.bind_some _ _).symm.trans H; rw [hy107]; with_reducible exact H2_) | (have H2_ := (Option.bind_some _ _).symm.trans H; with_reducible exact H2_) | with_reducible exact H | (rw [hy107]; exact H) | exact H
             have Ny107 := Aside0.mk hy107
             clear hy107
             have H' := Aside0.mk H
             clear H
             go_wp2_with (first | ((with_reducible refine gate_builtin (b := .append) (xs := #[.tmp 34, .tmp 39]) rfl ?_); (try (refine gate_guard (by rfl) ?_; dsimp only)); at_builtin; refine Kd.R_append k108 (w0 := w) w.heap.size rfl (.tmp 34) (.tmp 39) 34 108 (.agg #[(.int .i64 0), (.int .i64 0)]) 16 rfl Try.underlying34 info108 rfl (by decide) (by omega) u4 x4_1 (⟨wrap64 ((rd l0 x10_1) - x5_1), 0⟩ : S108) [.int .i64 (wrap64 ((rd l0 x10_1) - x5_1)), .int .i64 0] (fun _ => True) (fun _ => False) rfl rfl ?aP (fun _ hk => hk.elim) ?aF ?aO ?aB ?aS ?aL ?_; (case aP => exact k108_mkM _ _ _ (⟨wrap64 ((rd l0 x10_1) - x5_1), 0⟩ : S108)); (case aB => exact (by repeat (first | (with_reducible first | exact HB.out | apply below_alloc | apply pw_below_drewN | apply below_drew1) | exact HB.out))); (case aF => exact (fun _ _ => trivial)); (case aO => exact (by (with_reducible repeat (first | apply Kd.R_alloc | apply Kd.R_drewN | apply Kd.R_drew)); exact HO_4.out)); (case aS => exact (below_size (by repeat (first | (with_reducible first | exact HB.out | apply below_alloc | apply pw_below_drewN | apply below_drew1) | exact HB.out)))); (case aL => have := LMc11.out; omega); intro v104 w16 ho hb hg hat; rw [← Ny103.out] at ho; have n0_ := Aside0.mk (hb); have n1_ := Aside0.mk (ho); clear HB; clear HO_4; have HB := n0_; have HO105 := n1_; clear n0_ n1_; clear ho hb hg hat; obtain ⟨Ao17, co17, eo17⟩ := Kd.R_slice HO105.out; subst eo17; have p106 : 0 ≤ ((ji12) : Int) := of_decide_eq_true (by first | (with_reducible assumption) | assumption); have q106 : (ji12) < (y103.length : Int) := of_decide_eq_true (by first | (with_reducible assumption) | assumption); obtain ⟨ad106, e106, hx106_0, hx106_1⟩ := at_T108 (Kd.R_reads' HO105.out).2.2 (ji12) p106 q106; cases e106; replace p106 := eq_true p106; replace q106 := eq_true q106; have p15 : 0 ≤ ((ji12) : Int) := of_decide_eq_true (by first | (with_reducible assumption) | assumption); have q15 : ((ji12) : Int) < ((y103.length : Int) : Int) := of_decide_eq_true (by first | (with_reducible assumption) | assumption); obtain ⟨go15, co15, eo15, gb15, gl15, cl15, HG15⟩ := Kd.R_form HO105.out (by omega); (first | cases eo15 | (injection eo15 with ea_ en_ ec_; (first | subst ea_ | (injection ea_ with ea_; subst ea_)); subst ec_; clear en_)); have GB15 := Aside0.mk gb15; have GG15 := Aside0.mk HG15; clear gb15 gl15 HG15; (first | simp only [add_plain] at hx106_0 | skip); (first | simp only [add_plain] at hx106_1 | skip); obtain ⟨ce15, hcl15, hM15, hcc15, hfr15⟩ := Kd.R_elem HO105.out z108 ((ji12) : Int) p15 q15; obtain rfl := k108_openM hM15; have hx15_0 : w16.cell? ⟨go15, ((ji12) : Int).toNat * 2, none⟩ = some (.int .i64 ((rd_T108 y103 (ji12)).f0)) := hcc15 0 _ rfl; have hx15_1 : w16.cell? ⟨go15, ((ji12) : Int).toNat * 2 + 1, none⟩ = some (.int .i64 ((rd_T108 y103 (ji12)).f1)) := hcc15 1 _ rfl; have hf15_0 : w16.frozen? ⟨go15, ((ji12) : Int).toNat * 2, none⟩ = false := hfr15 0; have hf15_1 : w16.frozen? ⟨go15, ((ji12) : Int).toNat * 2 + 1, none⟩ = false := hfr15 1; clear hcl15 hcc15 hfr15 hM15; replace p15 := eq_true p15; replace q15 := eq_true q15; have HX18 := Aside0.mk (show Kd.R k108 108 w16 w.heap.size (fun _ => True) (.slice (some ⟨go15, 0, none⟩) y103.length co17) y103 from (by (with_reducible repeat (first | apply Kd.R_alloc | apply Kd.R_drewN | apply Kd.R_drew)); exact HO105.out)); obtain ⟨ce18, hcl18, hM18, hcc18, hfr18⟩ := Kd.R_elem HX18.out z108 ((ji12) : Int) (of_decide_eq_true (by first | (with_reducible assumption) | assumption)) (by have h_ : ((ji12) : Int) < ((y103.length : Int) : Int) := of_decide_eq_true (by first | (with_reducible assumption) | assumption); first | exact h_ | (have e_ := (Kd.R_reads' HO105.out).1; omega) | simpa using h_); obtain rfl := k108_openM hM18; have HP18 := Kd.R_seg HX18.out ((ji12) : Int) (of_decide_eq_true (by first | (with_reducible assumption) | assumption)) (by have h_ : ((ji12) : Int) < ((y103.length : Int) : Int) := of_decide_eq_true (by first | (with_reducible assumption) | assumption); first | exact h_ | (have e_ := (Kd.R_reads' HO105.out).1; omega) | simpa using h_) (seg := [.int .i64 (wrap64 (((rd_T108 y103 (ji12)).f1) + 1))]) (j := 1) hcl18 hcc18 (show 2 ≤ 2 from by decide) (x' := (⟨(rd_T108 y103 (ji12)).f0, wrap64 (((rd_T108 y103 (ji12)).f1) + 1)⟩ : S108)) (k108_mkM _ _ _ (⟨(rd_T108 y103 (ji12)).f0, wrap64 (((rd_T108 y103 (ji12)).f1) + 1)⟩ : S108) ) (fun _ hk => hk); have hx18_1 := hcc18 1 _ rfl; (try simp only [show (k108).sz = 2 from rfl, Nat.mul_one, Nat.add_zero] at hx18_1); have hf18_1 := hfr18 1; (try simp only [show (k108).sz = 2 from rfl, Nat.mul_one, Nat.add_zero] at hf18_1); clear hcl18 hcc18 hfr18 hM18) | ((with_reducible refine gate_store (t := 3) (p := 50) rfl ?_); refine store_event (t := 3) (p := 50) (v := ?vo_w19) (w1 := (w16.setCell ⟨go15, ((ji12) : Int).toNat * 2 + 1, none⟩ (.int .i64 (wrap64 (((rd_T108 y103 (ji12)).f1) + 1))))) ?hg ?ho ?hn ?hr ?_; (case ho => rfl); (case hg => rfl); (case hn => rfl); (case hr => first | (go_simp; done) | (go_simp; rfl)); intro w19 hw; have hg : w16.grownBy w19 (some go15) := (by rw [hw]; exact HP18.2); have hp_ : Kd.R k108 108 w19 w.heap.size (fun _ => True) (.slice (some ⟨go15, 0, none⟩) y103.length co17) y107 := (by rw [hw, Ny107.out]; exact HP18.1); clear HP18; have n0_ := Aside0.mk (hp_); have n1_ := Aside0.mk ((by rw [hw]; exact below_set (HB.out) GB15.out : Below w.heap.size w w19)); clear HO105; clear HB; have HO105 := n0_; have HB := n1_; clear n0_ n1_; clear hg hw hp_))
             go_roundg kj4
             case measure => have := HK1.out; have := HJ4.out; omega
             case rel => exact ⟨(y107), (wrap64 ((rd l0 x10_1) + 1)), (wrap64 (x10_1 + 1)), (by first | rfl | (simp; done) | (simp [*]; done)), (by first | rfl | (simp; done) | (simp [*]; done)), H', ⟨by have := HK1.out; have := HJ4.out; omega⟩, ⟨by (with_reducible repeat (first | apply Kd.R_alloc | apply Kd.R_drewN | apply Kd.R_drew)); exact HO105.out⟩, ⟨by repeat (first | (with_reducible first | exact HB.out | apply below_alloc | apply pw_below_drewN | apply below_drew1) | exact HB.out)⟩⟩
            ·rw [if_neg c14] at H
             exact absurd H (by simp)
           ·rw [if_neg c13] at H
            exact absurd H (by simp)
          ·rw [if_neg c11] at H
           exact absurd H (by simp)
         ·rw [if_neg c10] at H
          have c10b0 : (x10_1 == 0) = false := beq_eq_false_iff_ne.mpr c10
          have c10b1 : (x10_1 != 0) = true := bne_iff_ne.mpr c10
          by_cases c20 : (rd l0 x10_1) > x5_1
          ·rw [if_pos c20] at H
           have c20b0 : decide (x5_1 < (rd l0 x10_1)) = true := decide_eq_true c20
           clear c20
           by_cases c21 : x4_1.length < 8796093022208
           ·rw [if_pos c21] at H
            have LMc21 := Aside0.mk c21
            clear c21
            obtain ⟨y108, hy108⟩ : ∃ y_ : List (S108), y_ = (x4_1 ++ [(⟨wrap64 ((rd l0 x10_1) - x5_1), 0⟩ : S108)]) := ⟨_, rfl⟩
            replace H : (if 0 ≤ (wrap64 ((y108.length : Int) - 1)) then (if (wrap64 ((y108.length : Int) - 1)) < (y108.length : Int) then (span_From.l0 kj4 l0 (y108.set ((wrap64 ((y108.length : Int) - 1)) : Int).toNat (⟨(rd_T108 y108 (wrap64 ((y108.length : Int) - 1))).f0, wrap64 (((rd_T108 y108 (wrap64 ((y108.length : Int) - 1))).f1) + 1)⟩ : S108)) (wrap64 ((rd l0 x10_1) + 1)) l0 (l0.length : Int) (wrap64 (x10_1 + 1))) else (none)) else (none)) = some (r1, r2) := by first | (rw [hy108]; with_reducible exact H) | (have H2_ := (Option.bind_some _ _).symm.trans H; rw [hy108]; with_reducible exact H2_) | (have H2_ := (Option.bind_some _ _).symm.trans H; with_reducible exact H2_) | with_reducible exact H | (rw [hy108]; exact H) | exact H
            have Ny108 := Aside0.mk hy108
            clear hy108
            obtain ⟨ji22, hji22⟩ : ∃ j_ : Int, (wrap64 ((y108.length : Int) - 1)) = j_ := ⟨_, rfl⟩
            replace H : (if 0 ≤ (ji22) then (if (ji22) < (y108.length : Int) then (span_From.l0 kj4 l0 (y108.set ((ji22) : Int).toNat (⟨(rd_T108 y108 (ji22)).f0, wrap64 (((rd_T108 y108 (ji22)).f1) + 1)⟩ : S108)) (wrap64 ((rd l0 x10_1) + 1)) l0 (l0.length : Int) (wrap64 (x10_1 + 1))) else (none)) else (none)) = some (r1, r2) := by first | (rw [hji22] at H; exact H) | (simp only [hji22] at H ⊢; exact H)
            have hji22w : (IntKind.i64.wrap ((y108.length : Int) - 1)) = ji22 := (i64_w _).trans hji22
            by_cases c23 : 0 ≤ (ji22)
            ·rw [if_pos c23] at H
             have c23b0 : decide (0 ≤ (ji22)) = true := decide_eq_true c23
             clear c23
             by_cases c24 : (ji22) < (y108.length : Int)
             ·rw [if_pos c24] at H
              have c24b0 : decide ((ji22) < (y108.length : Int)) = true := decide_eq_true c24
              clear c24
              obtain ⟨y112, hy112⟩ : ∃ y_ : List (S108), y_ = (y108.set ((ji22) : Int).toNat (⟨(rd_T108 y108 (ji22)).f0, wrap64 (((rd_T108 y108 (ji22)).f1) + 1)⟩ : S108)) := ⟨_, rfl⟩
              replace H : (span_From.l0 kj4 l0 y112 (wrap64 ((rd l0 x10_1) + 1)) l0 (l0.length : Int) (wrap64 (x10_1 + 1))) = some (r1, r2) := by first | (rw [hy112]; with_reducible exact H) | (have H2_ := (Option.bind_some _ _).symm.trans H; rw [hy112]; with_reducible exact H2_) | (have H2_ := (Option.bind_some _ _).symm.trans H; with_reducible exact H2_) | with_reducible exact H | (rw [hy112]; exact H) | exact H
              have Ny112 := Aside0.mk hy112
              clear hy112
              have H' := Aside0.mk H
              clear H
              go_wp2_with (first | ((with_reducible refine gate_builtin (b := .append) (xs := #[.tmp 34, .tmp 39]) rfl ?_); (try (refine gate_guard (by rfl) ?_; dsimp only)); at_builtin; refine Kd.R_append k108 (w0 := w) w.heap.size rfl (.tmp 34) (.tmp 39) 34 108 (.agg #[(.int .i64 0), (.int .i64 0)]) 16 rfl Try.underlying34 info108 rfl (by decide) (by omega) u4 x4_1 (⟨wrap64 ((rd l0 x10_1) - x5_1), 0⟩ : S108) [.int .i64 (wrap64 ((rd l0 x10_1) - x5_1)), .int .i64 0] (fun _ => True) (fun _ => False) rfl rfl ?aP (fun _ hk => hk.elim) ?aF ?aO ?aB ?aS ?aL ?_; (case aP => exact k108_mkM _ _ _ (⟨wrap64 ((rd l0 x10_1) - x5_1), 0⟩ : S108)); (case aB => exact (by repeat (first | (with_reducible first | exact HB.out | apply below_alloc | apply pw_below_drewN | apply below_drew1) | exact HB.out))); (case aF => exact (fun _ _ => trivial)); (case aO => exact (by (with_reducible repeat (first | apply Kd.R_alloc | apply Kd.R_drewN | apply Kd.R_drew)); exact HO_4.out)); (case aS => exact (below_size (by repeat (first | (with_reducible first | exact HB.out | apply below_alloc | apply pw_below_drewN | apply below_drew1) | exact HB.out)))); (case aL => have := LMc21.out; omega); intro v109 w26 ho hb hg hat; rw [← Ny108.out] at ho; have n0_ := Aside0.mk (hb); have n1_ := Aside0.mk (ho); clear HB; clear HO_4; have HB := n0_; have HO110 := n1_; clear n0_ n1_; clear ho hb hg hat; obtain ⟨Ao27, co27, eo27⟩ := Kd.R_slice HO110.out; subst eo27; have p111 : 0 ≤ ((ji22) : Int) := of_decide_eq_true (by first | (with_reducible assumption) | assumption); have q111 : (ji22) < (y108.length : Int) := of_decide_eq_true (by first | (with_reducible assumption) | assumption); obtain ⟨ad111, e111, hx111_0, hx111_1⟩ := at_T108 (Kd.R_reads' HO110.out).2.2 (ji22) p111 q111; cases e111; replace p111 := eq_true p111; replace q111 := eq_true q111; have p25 : 0 ≤ ((ji22) : Int) := of_decide_eq_true (by first | (with_reducible assumption) | assumption); have q25 : ((ji22) : Int) < ((y108.length : Int) : Int) := of_decide_eq_true (by first | (with_reducible assumption) | assumption); obtain ⟨go25, co25, eo25, gb25, gl25, cl25, HG25⟩ := Kd.R_form HO110.out (by omega); (first | cases eo25 | (injection eo25 with ea_ en_ ec_; (first | subst ea_ | (injection ea_ with ea_; subst ea_)); subst ec_; clear en_)); have GB25 := Aside0.mk gb25; have GG25 := Aside0.mk HG25; clear gb25 gl25 HG25; (first | simp only [add_plain] at hx111_0 | skip); (first | simp only [add_plain] at hx111_1 | skip); obtain ⟨ce25, hcl25, hM25, hcc25, hfr25⟩ := Kd.R_elem HO110.out z108 ((ji22) : Int) p25 q25; obtain rfl := k108_openM hM25; have hx25_0 : w26.cell? ⟨go25, ((ji22) : Int).toNat * 2, none⟩ = some (.int .i64 ((rd_T108 y108 (ji22)).f0)) := hcc25 0 _ rfl; have hx25_1 : w26.cell? ⟨go25, ((ji22) : Int).toNat * 2 + 1, none⟩ = some (.int .i64 ((rd_T108 y108 (ji22)).f1)) := hcc25 1 _ rfl; have hf25_0 : w26.frozen? ⟨go25, ((ji22) : Int).toNat * 2, none⟩ = false := hfr25 0; have hf25_1 : w26.frozen? ⟨go25, ((ji22) : Int).toNat * 2 + 1, none⟩ = false := hfr25 1; clear hcl25 hcc25 hfr25 hM25; replace p25 := eq_true p25; replace q25 := eq_true q25; have HX28 := Aside0.mk (show Kd.R k108 108 w26 w.heap.size (fun _ => True) (.slice (some ⟨go25, 0, none⟩) y108.length co27) y108 from (by (with_reducible repeat (first | apply Kd.R_alloc | apply Kd.R_drewN | apply Kd.R_drew)); exact HO110.out)); obtain ⟨ce28, hcl28, hM28, hcc28, hfr28⟩ := Kd.R_elem HX28.out z108 ((ji22) : Int) (of_decide_eq_true (by first | (with_reducible assumption) | assumption)) (by have h_ : ((ji22) : Int) < ((y108.length : Int) : Int) := of_decide_eq_true (by first | (with_reducible assumption) | assumption); first | exact h_ | (have e_ := (Kd.R_reads' HO110.out).1; omega) | simpa using h_); obtain rfl := k108_openM hM28; have HP28 := Kd.R_seg HX28.out ((ji22) : Int) (of_decide_eq_true (by first | (with_reducible assumption) | assumption)) (by have h_ : ((ji22) : Int) < ((y108.length : Int) : Int) := of_decide_eq_true (by first | (with_reducible assumption) | assumption); first | exact h_ | (have e_ := (Kd.R_reads' HO110.out).1; omega) | simpa using h_) (seg := [.int .i64 (wrap64 (((rd_T108 y108 (ji22)).f1) + 1))]) (j := 1) hcl28 hcc28 (show 2 ≤ 2 from by decide) (x' := (⟨(rd_T108 y108 (ji22)).f0, wrap64 (((rd_T108 y108 (ji22)).f1) + 1)⟩ : S108)) (k108_mkM _ _ _ (⟨(rd_T108 y108 (ji22)).f0, wrap64 (((rd_T108 y108 (ji22)).f1) + 1)⟩ : S108) ) (fun _ hk => hk); have hx28_1 := hcc28 1 _ rfl; (try simp only [show (k108).sz = 2 from rfl, Nat.mul_one, Nat.add_zero] at hx28_1); have hf28_1 := hfr28 1; (try simp only [show (k108).sz = 2 from rfl, Nat.mul_one, Nat.add_zero] at hf28_1); clear hcl28 hcc28 hfr28 hM28) | ((with_reducible refine gate_store (t := 3) (p := 50) rfl ?_); refine store_event (t := 3) (p := 50) (v := ?vo_w29) (w1 := (w26.setCell ⟨go25, ((ji22) : Int).toNat * 2 + 1, none⟩ (.int .i64 (wrap64 (((rd_T108 y108 (ji22)).f1) + 1))))) ?hg ?ho ?hn ?hr ?_; (case ho => rfl); (case hg => rfl); (case hn => rfl); (case hr => first | (go_simp; done) | (go_simp; rfl)); intro w29 hw; have hg : w26.grownBy w29 (some go25) := (by rw [hw]; exact HP28.2); have hp_ : Kd.R k108 108 w29 w.heap.size (fun _ => True) (.slice (some ⟨go25, 0, none⟩) y108.length co27) y112 := (by rw [hw, Ny112.out]; exact HP28.1); clear HP28; have n0_ := Aside0.mk (hp_); have n1_ := Aside0.mk ((by rw [hw]; exact below_set (HB.out) GB25.out : Below w.heap.size w w29)); clear HO110; clear HB; have HO110 := n0_; have HB := n1_; clear n0_ n1_; clear hg hw hp_))
              go_roundg kj4
              case measure => have := HK1.out; have := HJ4.out; omega
              case rel => exact ⟨(y112), (wrap64 ((rd l0 x10_1) + 1)), (wrap64 (x10_1 + 1)), (by first | rfl | (simp; done) | (simp [*]; done)), (by first | rfl | (simp; done) | (simp [*]; done)), H', ⟨by have := HK1.out; have := HJ4.out; omega⟩, ⟨by (with_reducible repeat (first | apply Kd.R_alloc | apply Kd.R_drewN | apply Kd.R_drew)); exact HO110.out⟩, ⟨by repeat (first | (with_reducible first | exact HB.out | apply below_alloc | apply pw_below_drewN | apply below_drew1) | exact HB.out)⟩⟩
             ·rw [if_neg c24] at H
              exact absurd H (by simp)
            ·rw [if_neg c23] at H
             exact absurd H (by simp)
           ·rw [if_neg c21] at H
            exact absurd H (by simp)
          ·rw [if_neg c20] at H
           have c20b0 : decide (x5_1 < (rd l0 x10_1)) = false := decide_eq_false c20
           clear c20
           obtain ⟨ji30, hji30⟩ : ∃ j_ : Int, (wrap64 ((x4_1.length : Int) - 1)) = j_ := ⟨_, rfl⟩
           replace H : (if 0 ≤ (ji30) then (if (ji30) < (x4_1.length : Int) then (span_From.l0 kj4 l0 (x4_1.set ((ji30) : Int).toNat (⟨(rd_T108 x4_1 (ji30)).f0, wrap64 (((rd_T108 x4_1 (ji30)).f1) + 1)⟩ : S108)) (wrap64 ((rd l0 x10_1) + 1)) l0 (l0.length : Int) (wrap64 (x10_1 + 1))) else (none)) else (none)) = some (r1, r2) := by first | (rw [hji30] at H; exact H) | (simp only [hji30] at H ⊢; exact H)
           have hji30w : (IntKind.i64.wrap ((x4_1.length : Int) - 1)) = ji30 := (i64_w _).trans hji30
           by_cases c31 : 0 ≤ (ji30)
           ·rw [if_pos c31] at H
            have c31b0 : decide (0 ≤ (ji30)) = true := decide_eq_true c31
            clear c31
            by_cases c32 : (ji30) < (x4_1.length : Int)
            ·rw [if_pos c32] at H
             have c32b0 : decide ((ji30) < (x4_1.length : Int)) = true := decide_eq_true c32
             clear c32
             obtain ⟨y114, hy114⟩ : ∃ y_ : List (S108), y_ = (x4_1.set ((ji30) : Int).toNat (⟨(rd_T108 x4_1 (ji30)).f0, wrap64 (((rd_T108 x4_1 (ji30)).f1) + 1)⟩ : S108)) := ⟨_, rfl⟩
             replace H : (span_From.l0 kj4 l0 y114 (wrap64 ((rd l0 x10_1) + 1)) l0 (l0.length : Int) (wrap64 (x10_1 + 1))) = some (r1, r2) := by first | (rw [hy114]; with_reducible exact H) | (have H2_ := (Option.bind_some _ _).symm.trans H; rw [hy114]; with_reducible exact H2_) | (have H2_ := (Option.bind_some _ _).symm.trans H; with_reducible exact H2_) | with_reducible exact H | (rw [hy114]; exact H) | exact H
             have Ny114 := Aside0.mk hy114
             clear hy114
             have H' := Aside0.mk H
             clear H
             obtain ⟨Ao34, co34, eo34⟩ := Kd.R_slice HO_4.out
             subst eo34
             have p113 : 0 ≤ ((ji30) : Int) := of_decide_eq_true (by first | (with_reducible assumption) | assumption)
             have q113 : (ji30) < (x4_1.length : Int) := of_decide_eq_true (by first | (with_reducible assumption) | assumption)
             obtain ⟨ad113, e113, hx113_0, hx113_1⟩ := at_T108 (Kd.R_reads' HO_4.out).2.2 (ji30) p113 q113
             cases e113
             replace p113 := eq_true p113
             replace q113 := eq_true q113
             have p33 : 0 ≤ ((ji30) : Int) := of_decide_eq_true (by first | (with_reducible assumption) | assumption)
             have q33 : ((ji30) : Int) < ((x4_1.length : Int) : Int) := of_decide_eq_true (by first | (with_reducible assumption) | assumption)
             obtain ⟨go33, co33, eo33, gb33, gl33, cl33, HG33⟩ := Kd.R_form HO_4.out (by omega)
             (first | cases eo33 | (injection eo33 with ea_ en_ ec_; (first | subst ea_ | (injection ea_ with ea_; subst ea_)); subst ec_; clear en_))
             have GB33 := Aside0.mk gb33
             have GG33 := Aside0.mk HG33
             clear gb33 gl33 HG33
             (first | simp only [add_plain] at hx113_0 | skip)
             (first | simp only [add_plain] at hx113_1 | skip)
             obtain ⟨ce33, hcl33, hM33, hcc33, hfr33⟩ := Kd.R_elem HO_4.out z108 ((ji30) : Int) p33 q33
             obtain rfl := k108_openM hM33
             have hx33_0 : wc.cell? ⟨go33, ((ji30) : Int).toNat * 2, none⟩ = some (.int .i64 ((rd_T108 x4_1 (ji30)).f0)) := hcc33 0 _ rfl
             have hx33_1 : wc.cell? ⟨go33, ((ji30) : Int).toNat * 2 + 1, none⟩ = some (.int .i64 ((rd_T108 x4_1 (ji30)).f1)) := hcc33 1 _ rfl
             have hf33_0 : wc.frozen? ⟨go33, ((ji30) : Int).toNat * 2, none⟩ = false := hfr33 0
             have hf33_1 : wc.frozen? ⟨go33, ((ji30) : Int).toNat * 2 + 1, none⟩ = false := hfr33 1
             clear hcl33 hcc33 hfr33 hM33
             replace p33 := eq_true p33
             replace q33 := eq_true q33
             have HX35 := Aside0.mk (show Kd.R k108 108 wc w.heap.size (fun _ => True) (.slice (some ⟨go33, 0, none⟩) x4_1.length co34) x4_1 from (by (with_reducible repeat (first | apply Kd.R_alloc | apply Kd.R_drewN | apply Kd.R_drew)); exact HO_4.out))
             obtain ⟨ce35, hcl35, hM35, hcc35, hfr35⟩ := Kd.R_elem HX35.out z108 ((ji30) : Int) (of_decide_eq_true (by first | (with_reducible assumption) | assumption)) (by have h_ : ((ji30) : Int) < ((x4_1.length : Int) : Int) := of_decide_eq_true (by first | (with_reducible assumption) | assumption); first | exact h_ | (have e_ := (Kd.R_reads' HO_4.out).1; omega) | simpa using h_)
             obtain rfl := k108_openM hM35
             have HP35 := Kd.R_seg HX35.out ((ji30) : Int) (of_decide_eq_true (by first | (with_reducible assumption) | assumption)) (by have h_ : ((ji30) : Int) < ((x4_1.length : Int) : Int) := of_decide_eq_true (by first | (with_reducible assumption) | assumption); first | exact h_ | (have e_ := (Kd.R_reads' HO_4.out).1; omega) | simpa using h_) (seg := [.int .i64 (wrap64 (((rd_T108 x4_1 (ji30)).f1) + 1))]) (j := 1) hcl35 hcc35 (show 2 ≤ 2 from by decide) (x' := (⟨(rd_T108 x4_1 (ji30)).f0, wrap64 (((rd_T108 x4_1 (ji30)).f1) + 1)⟩ : S108)) (k108_mkM _ _ _ (⟨(rd_T108 x4_1 (ji30)).f0, wrap64 (((rd_T108 x4_1 (ji30)).f1) + 1)⟩ : S108) ) (fun _ hk => hk)
             have hx35_1 := hcc35 1 _ rfl
             (try simp only [show (k108).sz = 2 from rfl, Nat.mul_one, Nat.add_zero] at hx35_1)
             have hf35_1 := hfr35 1
             (try simp only [show (k108).sz = 2 from rfl, Nat.mul_one, Nat.add_zero] at hf35_1)
             clear hcl35 hcc35 hfr35 hM35
             go_wp2_with (first | ((with_reducible refine gate_store (t := 3) (p := 50) rfl ?_); refine store_event (t := 3) (p := 50) (v := ?vo_w36) (w1 := (wc.setCell ⟨go33, ((ji30) : Int).toNat * 2 + 1, none⟩ (.int .i64 (wrap64 (((rd_T108 x4_1 (ji30)).f1) + 1))))) ?hg ?ho ?hn ?hr ?_; (case ho => rfl); (case hg => rfl); (case hn => rfl); (case hr => first | (go_simp; done) | (go_simp; rfl)); intro w36 hw; have hg : wc.grownBy w36 (some go33) := (by rw [hw]; exact HP35.2); have hp_ : Kd.R k108 108 w36 w.heap.size (fun _ => True) (.slice (some ⟨go33, 0, none⟩) x4_1.length co34) y114 := (by rw [hw, Ny114.out]; exact HP35.1); clear HP35; have n0_ := Aside0.mk (hp_); have n1_ := Aside0.mk ((by rw [hw]; exact below_set (HB.out) GB33.out : Below w.heap.size w w36)); clear HO_4; clear HB; have HO_4 := n0_; have HB := n1_; clear n0_ n1_; clear hg hw hp_))
             go_roundg kj4
             case measure => have := HK1.out; have := HJ4.out; omega
             case rel => exact ⟨(y114), (wrap64 ((rd l0 x10_1) + 1)), (wrap64 (x10_1 + 1)), (by first | rfl | (simp; done) | (simp [*]; done)), (by first | rfl | (simp; done) | (simp [*]; done)), H', ⟨by have := HK1.out; have := HJ4.out; omega⟩, ⟨by (with_reducible repeat (first | apply Kd.R_alloc | apply Kd.R_drewN | apply Kd.R_drew)); exact HO_4.out⟩, ⟨by repeat (first | (with_reducible first | exact HB.out | apply below_alloc | apply pw_below_drewN | apply below_drew1) | exact HB.out)⟩⟩
            ·rw [if_neg c32] at H
             exact absurd H (by simp)
           ·rw [if_neg c31] at H
            exact absurd H (by simp)
     ·rw [if_neg c4] at H
      exact absurd H (by simp)
    ·rw [if_neg c3] at H
     exact absurd H (by simp)
   ·rw [if_neg c2] at H
    have c2b0 : decide (x10_1 < (l0.length : Int)) = false := decide_eq_false c2
    clear c2
    by_cases c37 : (l0.length : Int) > 4096
    ·rw [if_pos c37] at H
     have c37b0 : decide (4096 < (l0.length : Int)) = true := decide_eq_true c37
     have c37b1 : decide (4096 < l0.length) = true := decide_eq_true (by omega)
     clear c37
     simp only [Option.some.injEq, Prod.mk.injEq] at H
     obtain ⟨rfl, rfl⟩ := H
     go_wp2
     go_ret2
     exact ⟨_, by first | rfl | (simp [errW_none, errW_some] <;> rfl) | (simp [*, errW_none, errW_some] <;> rfl), by first | exact Kd.R_nil _ _ _ _ _ | exact Kd.N_nil _ _ _ _ _ | exact Kd.V_nil _ _ _ _ _ | exact Kd.Q_nil _ _ _ _ _ | exact Kd.S_nil _ _ _ _ _, by repeat (first | (with_reducible first | exact HB.out | apply below_alloc | apply pw_below_drewN | apply below_drew1) | exact HB.out)⟩
    ·rw [if_neg c37] at H
     have c37b0 : decide (4096 < (l0.length : Int)) = false := decide_eq_false c37
     have c37b1 : decide (4096 < l0.length) = false := decide_eq_false (by omega)
     clear c37
     by_cases c38 : (x4_1.length : Int) > 1024
     ·rw [if_pos c38] at H
      have c38b0 : decide (1024 < (x4_1.length : Int)) = true := decide_eq_true c38
      have c38b1 : decide (1024 < x4_1.length) = true := decide_eq_true (by omega)
      clear c38
      simp only [Option.some.injEq, Prod.mk.injEq] at H
      obtain ⟨rfl, rfl⟩ := H
      obtain ⟨Ao39, co39, eo39⟩ := Kd.R_slice HO_4.out
      subst eo39
      go_wp2
      go_ret2
      exact ⟨_, by first | rfl | (simp [errW_none, errW_some] <;> rfl) | (simp [*, errW_none, errW_some] <;> rfl), by first | exact Kd.R_nil _ _ _ _ _ | exact Kd.N_nil _ _ _ _ _ | exact Kd.V_nil _ _ _ _ _ | exact Kd.Q_nil _ _ _ _ _ | exact Kd.S_nil _ _ _ _ _, by repeat (first | (with_reducible first | exact HB.out | apply below_alloc | apply pw_below_drewN | apply below_drew1) | exact HB.out)⟩
     ·rw [if_neg c38] at H
      have c38b0 : decide (1024 < (x4_1.length : Int)) = false := decide_eq_false c38
      have c38b1 : decide (1024 < x4_1.length) = false := decide_eq_false (by omega)
      clear c38
      simp only [Option.some.injEq, Prod.mk.injEq] at H
      obtain ⟨rfl, rfl⟩ := H
      obtain ⟨Ao40, co40, eo40⟩ := Kd.R_slice HO_4.out
      subst eo40
      go_wp2
      go_ret2
      exact ⟨_, by first | rfl | (simp [errW_none, errW_some] <;> rfl) | (simp [*, errW_none, errW_some] <;> rfl), by (with_reducible repeat (first | apply Kd.R_alloc | apply Kd.R_drewN | apply Kd.R_drew)); exact HO_4.out, by repeat (first | (with_reducible first | exact HB.out | apply below_alloc | apply pw_below_drewN | apply below_drew1) | exact HB.out)⟩
end Go.Proofs.Ytcabapilejagkaa.P
namespace Go.Proofs.Ytcabapilejagkaa.P
open Go.RowKit Go.Shelf Go.Proofs.YtcabapilejagkaaW.PrintWords Go.Proofs.YtcabapilejagkaaW.PrintLast Go.Proofs.YtcabapilejagkaaW.PrintMore
set_option linter.unusedVariables false
set_option linter.unusedSimpArgs false
attribute [local go_sem] Oper.semAt_some
def runAt : Int → Nat → List Int
  | _, 0 => []
  | a, n + 1 => a :: runAt (wrap64 (a + 1)) n
def runEnd : Int → Nat → Int
  | a, 0 => a
  | a, n + 1 => runEnd (wrap64 (a + 1)) n
theorem runAt_snoc : ∀ (n : Nat) (a : Int), runAt a (n + 1) = runAt a n ++ [runEnd a n]
  | 0, _ => rfl
  | n + 1, a => by
    show a :: runAt (wrap64 (a + 1)) (n + 1) = a :: runAt (wrap64 (a + 1)) n ++ [runEnd (wrap64 (a + 1)) n]
    rw [runAt_snoc n]; rfl
theorem runEnd_snoc : ∀ (n : Nat) (a : Int), runEnd a (n + 1) = wrap64 (runEnd a n + 1)
  | 0, _ => rfl
  | n + 1, a => by
    show runEnd (wrap64 (a + 1)) (n + 1) = wrap64 (runEnd (wrap64 (a + 1)) n + 1)
    rw [runEnd_snoc n]
theorem runAt_length : ∀ (n : Nat) (a : Int), (runAt a n).length = n
  | 0, _ => rfl
  | n + 1, a => by show (runAt (wrap64 (a + 1)) n).length + 1 = n + 1; rw [runAt_length n]
def placesAt : Int → List S108 → List Int
  | _, [] => []
  | a, s :: r => runAt (wrap64 (a + s.f0)) s.f1.toNat ++ placesAt (runEnd (wrap64 (a + s.f0)) s.f1.toNat) r
def endAt : Int → List S108 → Int
  | a, [] => a
  | a, s :: r => endAt (runEnd (wrap64 (a + s.f0)) s.f1.toNat) r
theorem placesAt_snoc (s : S108) : ∀ (l : List S108) (a : Int), placesAt a (l ++ [s]) = placesAt a l ++ runAt (wrap64 (endAt a l + s.f0)) s.f1.toNat
  | [], a => by simp [placesAt, endAt]
  | x :: l, a => by simp [placesAt, endAt, placesAt_snoc s l]
theorem endAt_snoc (s : S108) : ∀ (l : List S108) (a : Int), endAt a (l ++ [s]) = runEnd (wrap64 (endAt a l + s.f0)) s.f1.toNat
  | [], a => by simp [endAt]
  | x :: l, a => by simp [endAt, endAt_snoc s l]
theorem placesAt_take_le (l : List S108) (k : Nat) : (placesAt 0 (l.take k)).length ≤ (placesAt 0 l).length := by
  have : ∀ (l r : List S108) (a : Int), (placesAt a l).length ≤ (placesAt a (l ++ r)).length := by
    intro l
    induction l with
    | nil => intro r a; simp [placesAt]
    | cons x l ih => intro r a; simp [placesAt]; exact ih _ _
  have h := this (l.take k) (l.drop k) 0
  rwa [List.take_append_drop] at h
theorem placesAt_prefix (l r : List S108) : placesAt 0 l <+: placesAt 0 (l ++ r) := by
  have : ∀ (l r : List S108) (a : Int), placesAt a l <+: placesAt a (l ++ r) := by
    intro l
    induction l with
    | nil => intro r a; simp [placesAt]
    | cons x l ih => intro r a; simp only [placesAt, List.cons_append]; exact (List.prefix_append_right_inj _).2 (ih _ _)
  exact this l r 0
def numd (ps : List Int) : List (Int × Int) := ps.zipIdx.map fun p => (((p.2 : Nat) : Int), p.1)
theorem numd_snoc (ps : List Int) (p : Int) : numd (ps ++ [p]) = numd ps ++ [((ps.length : Int), p)] := by
  simp [numd, List.zipIdx_append]
theorem numd_length (ps : List Int) : (numd ps).length = ps.length := by simp [numd]
theorem numd_prefix {a b : List Int} (h : a <+: b) : numd a <+: numd b := by
  obtain ⟨c, rfl⟩ := h
  unfold numd
  rw [List.zipIdx_append, List.map_append]
  exact List.prefix_append _ _
def KeepR (n0 n1 : Nat) (W W' : World) : Prop := W.heap.size ≤ W'.heap.size ∧ ∀ k, n0 ≤ k → k < n1 → W'.heap[k]? = W.heap[k]?
theorem KeepR.refl (n0 n1 : Nat) (W : World) : KeepR n0 n1 W W := ⟨Nat.le_refl _, fun _ _ _ => rfl⟩
theorem KeepR.trans {n0 n1 : Nat} {A B C : World} (h : KeepR n0 n1 A B) (k : KeepR n0 n1 B C) : KeepR n0 n1 A C := ⟨Nat.le_trans h.1 k.1, fun i h0 h1 => (k.2 i h0 h1).trans (h.2 i h0 h1)⟩
theorem KeepR.put {n0 n1 : Nat} {w : World} (hn : n1 ≤ w.heap.size) (W : World) (l : Nat) (o o' : Obj) (hl : w.heap.size ≤ l) (h : W.heap[l]? = some o) (_ : o.isCells = false) (_ : o.isWalk = false) : KeepR n0 n1 W (W.putObj l o') := by
  have hg := grownBy_putObj' W l o'
  refine ⟨hg.size, fun k h0 h1 => hg.block k ?_ (fun e => by injection e with e; omega)⟩
  have := (Array.getElem?_eq_some_iff.1 h).1
  omega
theorem KeepR.of_below {n0 n1 : Nat} {B : Nat} {W W' : World} (h : Below B W W') (hn : n1 ≤ B) : KeepR n0 n1 W W' := ⟨h.size, fun k _ h1 => h.block k (by omega)⟩
def HoldsSp (n0 n1 Bn : Nat) (v : Value) (l : List S108) (W : World) : Prop :=
  (n0 ≤ Bn ∧ Bn < n1) ∧ n1 ≤ W.heap.size ∧ W.heap[Bn]? = some (.cells #[v] 34 (0, 0)) ∧ Kd.R k108 108 W n0 (fun k => n0 ≤ k ∧ k < n1) v l
theorem HoldsSp.keep {n0 n1 Bn : Nat} {v : Value} {l : List S108} {W W' : World} (h : HoldsSp n0 n1 Bn v l W) (k : KeepR n0 n1 W W') : HoldsSp n0 n1 Bn v l W' :=
  ⟨h.1, Nat.le_trans h.2.1 k.1, (k.2 Bn h.1.1 h.1.2).trans h.2.2.1, Kd.R_move h.2.2.2 (fun q hq => k.2 q hq.1 hq.2)⟩
set_option maxRecDepth 100000 in
set_option maxHeartbeats 4000000 in
theorem all1_in (n : Nat) (hn : 1 ≤ n) (L n0 n1 Bn : Nat) (v : Value) (l : List S108) (k : Nat) (hck : span_Check.f k l = some 0) (hN : (placesAt 0 l).length ≤ 4611686018427387904) (J Jx : List (Int × Int) → World → Prop)
    (hJ : ∀ s W W', J s W → W.grownBy W' none → J s W')
    (hY : ∀ pre x W, J pre W → pre.length < (placesAt 0 l).length → YieldAt Fence.wide (n - 1) Try.prog L #[.int .i64 x.1, .int .i64 x.2] W fun e W' =>
      (e = .returned (.bool true) ∧ J (pre ++ [x]) W' ∧ KeepR n0 n1 W W') ∨ (e = .returned (.bool false) ∧ Jx (pre ++ [x]) W'))
    (W : World) (hS : HoldsSp n0 n1 Bn v l W) (h0 : J [] W) :
    CallsIn Fence.wide n Try.prog 166 #[.func (.yield L) #[] #[], .pointer (some ⟨Bn, 0, none⟩)] W fun e W' => (∃ v, e = .returned v) ∧
      ((∃ ys, ys = numd (placesAt 0 l) ∧ J ys W') ∨ (∃ pre, pre <+: numd (placesAt 0 l) ∧ Jx pre W')) := by
  have hu := Try.underlying108
  have hf : Fence.wide.fn 132 := trivial
  obtain ⟨A, c, rfl, hlc, hC⟩ := Kd.R_reads hS.2.2.2
  have hcell : W.cell? ⟨Bn, 0, none⟩ = some (.slice A l.length c) := by
    have := blk_cell (i := 0) hS.2.2.1
    rw [this]; rfl
  have hm : l.length ≤ 9223372036854775807 := hC.2.1
  have HCk := Aside0.mk (span_Check.calls k A c l 0 W hC hlc hck)
  have HJ := Aside0.mk hJ
  have HY := Aside0.mk hY
  have HS := Aside0.mk hS
  have H0 := Aside0.mk h0
  clear hJ hY hS h0 hC
  refine callsIn_of_wp Try.func166 rfl trivial ?_ rfl
  simp only [Try.ntmps166, List.size_toArray, List.length_cons, List.length_nil, Nat.reduceAdd, Nat.reduceSub, Array.replicate_succ, Array.replicate_zero, List.push_toArray, List.append_toArray, List.nil_append, List.cons_append]
  gi_wp2_with (gi_at_call 132; refine (callsIn_wide.2 HCk.out).mono ?_; rintro e w1 ⟨rfl, hb⟩; have HB := Aside0.mk hb; have hcell1 := (hb.cell (World.block_lt_of_cell? W _ hcell)).trans hcell; clear hb hcell)
  have HS1 := Aside0.mk (HS.out.keep (KeepR.of_below HB.out HS.out.2.1))
  have H1 := Aside0.mk (HJ.out _ _ _ H0.out (grown_of_below HB.out none))
  clear HS H0 HB HCk
  gi_loopw [3, 4, 12] (fun s3 s4 s12 wr => ∃ kk : Nat, kk ≤ l.length ∧ s12 = .int .i64 kk ∧ s3 = .int .i64 (endAt 0 (l.take kk)) ∧ s4 = .int .i64 ((placesAt 0 (l.take kk)).length : Int) ∧ Aside0 (HoldsSp n0 n1 Bn (.slice A l.length c) l wr) ∧ Aside0 (J (numd (placesAt 0 (l.take kk))) wr)) (fun _ _ s12 _ => l.length - (intOf s12).toNat)
  case atStart => exact ⟨0, Nat.zero_le _, rfl, by simp [endAt], by simp [placesAt], HS1, by simpa [placesAt, numd] using H1⟩
  case round =>
    obtain ⟨kk, hkk, rfl, rfl, rfl, HS, HJ0⟩ := hrel
    clear HS1 H1
    by_cases hlt : kk < l.length
    · have hlti : (kk : Int) < (l.length : Int) := by omega
      have hC := (Kd.R_reads' HS.out.2.2.2).2.2
      obtain ⟨ad, e1, hx0, hx1⟩ := at_T108 hC kk (by omega) (by omega)
      cases e1
      clear hC
      have hrd : rd_T108 l (kk : Int) = l[kk] := by unfold rd_T108; simp [List.getD, hlt]
      rw [hrd, Int.toNat_natCast] at hx0 hx1
      have HT := Aside0.mk (List.take_succ_eq_append_getElem hlt)
      generalize l[kk] = y at hx0 hx1 HT hrd
      clear hrd
      obtain ⟨wo, rfl⟩ : ∃ wo : World, wo = wr := ⟨_, rfl⟩
      have hple : (placesAt 0 (l.take kk)).length ≤ 4611686018427387904 := Nat.le_trans (placesAt_take_le l kk) hN
      have HP1 := Aside0.mk (placesAt_snoc y (l.take kk) 0)
      have HE1 := Aside0.mk (endAt_snoc y (l.take kk) 0)
      have HLE : Aside0 ((placesAt 0 (l.take kk)).length + y.f1.toNat ≤ (placesAt 0 l).length ∧ placesAt 0 (l.take kk) ++ runAt (wrap64 (endAt 0 (l.take kk) + y.f0)) y.f1.toNat <+: placesAt 0 l) := by
        have h := placesAt_prefix (l.take (kk + 1)) (l.drop (kk + 1))
        rw [List.take_append_drop, HT.out, HP1.out] at h
        refine ⟨⟨?_, h⟩⟩
        have := h.length_le
        rwa [List.length_append, runAt_length] at this
      rw [← HT.out] at HP1 HE1
      clear HT
      generalize endAt 0 (l.take kk) = at0 at HP1 HE1 HLE
      generalize placesAt 0 (l.take kk) = ps at HP1 HLE HJ0 hple
      have HS0 := Aside0.mk (HS.out.keep (KeepR.of_below (below_alloc (Below.refl _ wo) (.cells #[.int .i64 y.f0, .int .i64 y.f1] 108)) HS.out.2.1))
      have HJ1 := Aside0.mk (HJ.out _ _ _ HJ0.out (grown_of_below (below_alloc (Below.refl _ wo) (.cells #[.int .i64 y.f0, .int .i64 y.f1] 108)) none))
      clear HS HJ0
      gi_wp2
      gi_loopw [3, 4, 22] (fun s3 s4 s22 wr => ∃ i : Nat, i ≤ y.f1.toNat ∧ s22 = .int .i64 i ∧ s3 = .int .i64 (runEnd (wrap64 (at0 + y.f0)) i) ∧ s4 = .int .i64 ((ps.length : Int) + (i : Int)) ∧ Aside0 (HoldsSp n0 n1 Bn (.slice (some ad) l.length c) l wr) ∧ Aside0 (J (numd (ps ++ runAt (wrap64 (at0 + y.f0)) i)) wr)) (fun _ _ s22 _ => (y.f1 - intOf s22).toNat)
      case atStart => exact ⟨0, Nat.zero_le _, rfl, rfl, by simp, HS0, by simpa [runAt] using HJ1⟩
      case round =>
        obtain ⟨i, hi, rfl, rfl, rfl, HS, HJ0⟩ := hrel
        clear HS0 HJ1
        by_cases hli : (i : Int) < y.f1
        · have hlen : (ps ++ runAt (wrap64 (at0 + y.f0)) i).length = ps.length + i := by rw [List.length_append, runAt_length]
          have hlt2 : ps.length + i < (placesAt 0 l).length := by have := HLE.out.1; omega
          have hnx : (ps.length : Int) + (i : Int) + 1 ≤ 4611686018427387904 := by omega
          have hn0 : 0 ≤ (ps.length : Int) + (i : Int) := by omega
          have hy1 : y.f1 ≤ 4611686018427387904 := by have := HLE.out.1; omega
          obtain ⟨fn, tmps, assign, body, hy, hR⟩ := HY.out (numd (ps ++ runAt (wrap64 (at0 + y.f0)) i)) ((ps.length : Int) + (i : Int), runEnd (wrap64 (at0 + y.f0)) i) wr HJ0.out (by rw [numd_length, hlen]; exact hlt2)
          dsimp only at hy
          have HA := Aside0.mk (runAt_snoc i (wrap64 (at0 + y.f0)))
          have HE := Aside0.mk (runEnd_snoc i (wrap64 (at0 + y.f0)))
          have HNS := Aside0.mk (numd_snoc (ps ++ runAt (wrap64 (at0 + y.f0)) i) (runEnd (wrap64 (at0 + y.f0)) i))
          have HL := Aside0.mk hlen
          have HRR := Aside0.mk hR
          clear hR hlen HJ0
          gi_wp2
          refine HRR.out.mono ?_
          rintro e W3 (⟨rfl, hJ3, hk3⟩ | ⟨rfl, hJx3⟩)
          · have HJ3 := Aside0.mk hJ3
            have HS3 := Aside0.mk (HS.out.keep hk3)
            clear hJ3 hk3
            gi_wp2
            go_roundw
            case rel => 
              refine ⟨i + 1, by omega, by go_num, by rw [HE.out], by go_num, HS3, ⟨?_⟩⟩
              rw [HA.out, ← List.append_assoc, HNS.out, HL.out]
              exact HJ3.out
            case measure => simp [intOf]; omega
          · have HX := Aside0.mk hJx3
            clear hJx3
            gi_wp2
            refine bodyPost_ret (results_none rfl _ _ _) rfl ?_
            refine ⟨⟨_, rfl⟩, .inr ⟨_, ?_, HX.out⟩⟩
            have h1 := numd_prefix HLE.out.2
            have hi1 : i + 1 ≤ y.f1.toNat := by omega
            have h2 : ps ++ runAt (wrap64 (at0 + y.f0)) (i + 1) <+: ps ++ runAt (wrap64 (at0 + y.f0)) y.f1.toNat := by
              refine (List.prefix_append_right_inj _).2 ?_
              have : ∀ (m j : Nat) (a : Int), j ≤ m → runAt a j <+: runAt a m := by
                intro m
                induction m with
                | zero => intro j a hj; obtain rfl : j = 0 := by omega
                          exact List.prefix_rfl
                | succ m ih =>
                  intro j a hj
                  cases j with
                  | zero => exact List.nil_prefix
                  | succ j => exact (List.cons_prefix_cons).2 ⟨rfl, ih j _ (by omega)⟩
              exact this _ _ _ hi1
            have h3 := (numd_prefix h2).trans h1
            rw [HA.out, ← List.append_assoc, HNS.out, HL.out] at h3
            exact h3
        · have hie : i = y.f1.toNat := by omega
          have hli' : ¬ (i : Int) < y.f1 := hli
          gi_wp2
          go_roundw
          case rel =>
            refine ⟨kk + 1, by omega, by go_num, ?_, ?_, HS, ?_⟩
            · rw [HE1.out, hie]
            · rw [HP1.out, List.length_append, runAt_length, hie]; go_num
            · rw [HP1.out, ← hie]; exact HJ0
          case measure => simp [intOf]; omega
    · have hlti : ¬ (kk : Int) < (l.length : Int) := by omega
      have hk : l.take kk = l := List.take_of_length_le (by omega)
      have HK := Aside0.mk hk
      clear hk
      gi_wp2
      go_end0
      have hj := HJ0.out
      rw [HK.out] at hj
      exact ⟨⟨_, rfl⟩, .inl hj⟩
theorem all_in (n : Nat) (hn : 1 ≤ n) (A0 : Option Addr) (c0 : Nat) (l0 : List S108) (w : World) (hr0 : Kd.C k108 w A0 l0.length l0) (hc0 : l0.length ≤ c0) (hm : l0.length < 8796093022208) :
    CallsIn Fence.wide n Try.prog 148 #[.slice A0 l0.length c0] w fun e w' => ∃ (Bn : Nat) (v : Value), e = .returned (.func (.func 166) #[] #[.pointer (some ⟨Bn, 0, none⟩)]) ∧ HoldsSp w.heap.size w'.heap.size Bn v l0 w' ∧ Below w.heap.size w w' := by
  have hf : Fence.wide.fn 73 := trivial
  have HC := Aside0.mk (slices_Clone_span.calls A0 c0 l0 l0 w hr0 hc0 (by unfold slices_Clone_span.f; rw [if_pos hm]))
  clear hr0 hc0 hm
  refine callsIn_of_wp Try.func148 rfl trivial ?_ rfl
  simp only [Try.ntmps148, List.size_toArray, List.length_cons, List.length_nil, Nat.reduceAdd, Nat.reduceSub, Array.replicate_succ, Array.replicate_zero, List.push_toArray, List.append_toArray, List.nil_append, List.cons_append]
  gi_wp2_with (gi_at_call 73; refine (callsIn_wide.2 HC.out).mono ?_; rintro e w1 ⟨v, rfl, ho, hb⟩; have HO := Aside0.mk ho; have HB := Aside0.mk hb; obtain ⟨A1, c1, rfl⟩ := Kd.R_slice ho; clear ho hb)
  go_ret
  refine ⟨w1.heap.size, .slice A1 l0.length c1, rfl, ⟨⟨HB.out.size, by simp⟩, by simp, ?_, ?_⟩, below_then HB.out HB.out.size (below_alloc (Below.refl _ _) _)⟩
  · simpa using blk_new w1 (.cells #[.slice A1 l0.length c1] 34)
  · refine Kd.R_mono (Kd.R_bound (Kd.R_below HO.out (below_alloc (Below.refl _ _) _))) (fun k hk => ⟨hk.2.1, hk.2.2.1⟩)
theorem all_stops (n : Nat) (hn : 1 ≤ n) (n0 Bn : Nat) (v : Value) (l : List S108) (k : Nat) (hck : span_Check.f k l = some 0) (hN : (placesAt 0 l).length ≤ 4611686018427387904) (w : World) (hS : HoldsSp n0 w.heap.size Bn v l w) :
    SeqStopsK Fence.wide n Try.prog 166 #[.pointer (some ⟨Bn, 0, none⟩)] (fun x : Int × Int => #[Value.int .i64 x.1, .int .i64 x.2]) (KeepR n0 w.heap.size) (fun ys => ys = numd (placesAt 0 l)) (fun pre => pre <+: numd (placesAt 0 l)) (placesAt 0 l).length w := fun L J Jx W hW hJ _ hY h0 =>
  all1_in n hn L n0 w.heap.size Bn v l k hck hN J Jx (fun s A B hs hg => hJ s A B none hs hg (fun r e => by cases e)) hY W (hS.keep (KeepR.of_below hW (Nat.le_refl _))) h0
end Go.Proofs.Ytcabapilejagkaa.P
namespace Go.Proofs.Ytcabapilejagkaa.P
open Go.RowKit Go.Shelf Go.Proofs.YtcabapilejagkaaW.PrintWords Go.Proofs.YtcabapilejagkaaW.PrintLast Go.Proofs.YtcabapilejagkaaW.PrintMore
set_option linter.unusedVariables false
set_option linter.unusedSimpArgs false
attribute [local go_sem] Oper.semAt_some
def span_Places.f (k : Nat) (l0 : List S108) : Option (List Int × Int) :=
  (span_Check.f k l0).bind fun e => if e = 0 then (if l0.length < 8796093022208 ∧ (placesAt 0 l0).length < 17592186044416 then some (placesAt 0 l0, 0) else none) else some ([], e)
theorem numd_map (ps : List Int) : (numd ps).map (fun x => Value.int .i64 x.2) = encs (Value.int .i64) ps := by
  unfold numd encs
  rw [List.map_map]
  have : ∀ (ps : List Int) (i : Nat), (ps.zipIdx i).map ((fun x : Int × Int => Value.int .i64 x.2) ∘ fun p : Int × Nat => (((p.2 : Nat) : Int), p.1)) = ps.map (Value.int .i64) := by
    intro ps
    induction ps with
    | nil => intro i; rfl
    | cons p ps ih => intro i; simp only [List.zipIdx_cons, List.map_cons, ih, Function.comp]
  exact this ps 0
theorem keepR_appended {n0 n1 B : Nat} {W w1 : World} {e : TypeId} {size k : Nat} {v v' : Value} {xs : List Value} {tmp : Obj} (hB : B < n0) (hn : n1 ≤ W.heap.size)
    (hrow : W.ownsRow n1 e size v k xs) (hgrow : (W.alloc tmp).grownBy w1 v.ownBlock) : KeepR n0 n1 W (w1.setCell ⟨B, 0, none⟩ v') := by
  have hs := hgrow.size
  simp at hs
  refine ⟨by simp [World.setCell]; omega, fun q h0 h1 => ?_⟩
  rw [Below.heap_setCell w1 ⟨B, 0, none⟩ v' q (by show q ≠ B; omega), hgrow.block q (by simp; omega) (fun e' => ?_), Below.heap_alloc W tmp q (by omega)]
  have := own_base hrow q e'.symm
  omega
set_option maxRecDepth 100000 in
set_option maxHeartbeats 4000000 in
theorem span_Places.calls (k : Nat) (A0 : Option Addr) (c0 : Nat) (l0 : List S108) (r1 : List Int) (r2 : Int) (w : World) (hr0 : Kd.C k108 w A0 l0.length l0) (hc0 : l0.length ≤ c0) (h : span_Places.f k l0 = some (r1, r2)) :
    Calls Try.prog 120 #[.slice A0 l0.length c0] w fun e w' => ∃ v0_ : Value, e = .returned (.tuple #[v0_, .int .i64 r2]) ∧ Kd.R (Kd.int .i64) 3 w' w.heap.size (fun _ => True) v0_ r1 ∧ Below w.heap.size w w' := by
  obtain ⟨e0, hck, h2⟩ := Option.bind_eq_some_iff.1 h
  clear h
  have HCk := Aside0.mk (span_Check.calls k A0 c0 l0 e0 w hr0 hc0 hck)
  by_cases he : e0 = 0
  · subst he
    rw [if_pos rfl] at h2
    obtain ⟨hm, h3⟩ := of_ite_some h2
    injection h3 with h4 h5
    subst h4; subst h5
    clear h2
    refine (callsIn_wide (n := 5)).1 ?_
    have hf0 : Fence.wide.fn 132 := trivial
    have hf1 : Fence.wide.fn 148 := trivial
    have HR := Aside0.mk hr0
    have HM := Aside0.mk hm
    obtain ⟨i0, hi, hz0, hz1, hz2⟩ := info_parts info3
    clear hr0 hm
    refine callsIn_of_wp_marks Try.func120 rfl trivial ?_ rfl
    simp only [Try.ntmps120, List.size_toArray, List.length_cons, List.length_nil, Nat.reduceAdd, Nat.reduceSub, Array.replicate_succ, Array.replicate_zero, List.push_toArray, List.append_toArray, List.nil_append, List.cons_append]
    gi_wp2_with (first | (gi_at_call 132; refine (callsIn_wide.2 HCk.out).mono ?_; rintro e w1 ⟨rfl, hb⟩; have HB := Aside0.mk hb; clear hb HCk) | (gi_at_call 148; refine (all_in _ (by omega) A0 c0 l0 _ (Kd.C_below (Kd.C_below HR.out HB.out) (below_alloc (Below.refl _ _) _)) hc0 HM.out.1).mono ?_; rintro e w2 ⟨Bn, v, rfl, hS, hb2⟩; have HS := Aside0.mk hS; have HB2 := Aside0.mk hb2; clear hS hb2))
    have hsz : w1.heap.size + 1 ≤ w2.heap.size := by have := HB2.out.size; simpa using this
    have hB2 : w2.heap[w1.heap.size]? = some (.cells #[.slice none 0 0] 57 (0, 0)) := (HB2.out.block _ (by simp)).trans (by simpa using blk_new w1 (.cells #[.slice none 0 0] 57))
    have hBW : Below w.heap.size w w2 := below_then (below_then HB.out HB.out.size (below_alloc (Below.refl _ _) _)) (by have := HB.out.size; simp; omega) HB2.out
    have hS2 : HoldsSp (w1.heap.size + 1) w2.heap.size Bn v l0 w2 := by simpa using HS.out
    refine wpIn_rangeFunc_ownG rfl (by omega) (gf := 166) (lb := #[.pointer (some ⟨Bn, 0, none⟩)]) rfl trivial (enters_of Try.func166 (by kernel_rfl) rfl)
      (all_stops _ (by omega) (w1.heap.size + 1) Bn v l0 k hck (by have := HM.out.2; omega) w2 hS2) KeepR.trans (KeepR.put (Nat.le_refl _)) (Below.refl _ _) (fun _ => rfl)
      (fun pre W => (∃ v, Boxed W w1.heap.size 57 v ∧ W.ownsRow w2.heap.size 3 1 v pre.length (pre.map fun x => Value.int .i64 x.2) ∧ True) ∧ (Below w.heap.size w W ∧ w2.heap.size ≤ W.heap.size))
      (fun _ _ _ => False)
      (OwnFrom.and (Own.from (holdsRow_own w2.heap.size w1.heap.size 57 3 1 (fun pre : List (Int × Int) => pre.length) (fun pre => pre.map fun x => Value.int .i64 x.2) (fun pre v => True)) _) (OwnFrom.and (ownFrom_below (Nat.le_refl _) (by have := HB.out.size; omega)) (fun s A B row hs hg hr => Nat.le_trans hs hg.size)))
      (fun _ _ _ _ _ hs _ _ => hs)
      ⟨⟨_, hB2, World.ownsRow_nil _ _ _ _, trivial⟩, hBW, Nat.le_refl _⟩
      (fun x => { tmps := #[.slice A0 l0.length c0, undef, .slice none 0 0, .int .i64 0, .int .i64 0, .pointer (some ⟨w1.heap.size, 0, none⟩), undef, .int .i64 x.2, .slice A0 l0.length c0, .int .i64 0, .int .i64 0, .bool false, undef, .slice A0 l0.length c0, .func (.func 166) #[] #[.pointer (some ⟨Bn, 0, none⟩)], .int .i64 x.1, .int .i64 x.2, undef, undef, undef, undef, undef], defers := [] }) ?assign ?body ?done ?stop
    case assign =>
      intro l x W K hK
      gi_wp2
      exact hK
    case body =>
      rintro l pre x W ⟨⟨v, hv, hrow, _⟩, hB, hW2⟩ hlt
      have hc := hv.cell
      have hL := HM.out.2
      gi_wp2_with (gi_at_builtin; refine wpListIn_append_own _ rfl _ _ 57 rfl w2.heap.size 3 i0 (.int .i64 0) 1 8 Try.underlying57 hi hz0 hz1 hz2 rfl (by decide) _ _ _ rfl (hrow.alloc _) ⟨W.heap.size, 0, none⟩ 1 1 [.int .i64 x.2] rfl rfl (cell_one_new _ _ _) (by simp [Value.oneCell']) (by unfold maxLen; omega) (by omega) (by simp; omega) ?_; intro v' w3 hown' hgrow _; obtain ⟨g', cap', rfl⟩ := ownsRow_succ hown'; have hkr := keepR_appended (v' := .slice (some ⟨g', 0, none⟩) (pre.length + 1) cap') (B := w1.heap.size) (n0 := w1.heap.size + 1) (Nat.lt_succ_self _) hW2 hrow hgrow; obtain ⟨hv1, hv2, hr2, hk2, hb2⟩ := hv.appended (n₀ := w1.heap.size) (by decide) (own_weaken hrow (by omega)) (by omega) (Nat.le_refl _) (own_weaken hown' (by omega)) hgrow; have hr3 := hown'.kept (grownBy_setCell' w3 w1.heap.size (.slice (some ⟨g', 0, none⟩) (pre.length + 1) cap')) (.inr (hv1.not_row (by decide) hown').symm); have hc1 := hv1.cell; have hf1 := hv1.frozen)
      exact ⟨hk2.from _, hkr, ⟨⟨_, hv2, by simpa using hr3, trivial⟩, hB.trans (hb2.mono HB.out.size), Nat.le_trans hW2 hkr.1⟩⟩
    case done =>
      rintro D ys W hD rfl ⟨⟨v, hv, hrow, _⟩, hB, hW2⟩ hK
      have hc := hv.cell
      gi_wp2
      refine ⟨by simp, .inl ⟨_, _, rfl, run_takeDeferred hK, ?_⟩⟩
      have hr2 := ownsRow_putObj hrow (.deferred none) hK rfl
      refine ⟨_, results_tmp2 rfl _ _ _, v, rfl, ?_, hB.trans (belowK_b (w := w2) (by have := HB.out.size; omega) W D _ _ hD hK rfl rfl)⟩
      rw [numd_length, numd_map] at hr2
      exact Kd.R_lower (Kd.R_of_own (enc := Value.int .i64) (h1 := fun _ => rfl) hr2 (fun _ _ => trivial)) (by have := HB.out.size; omega)
    case stop =>
      rintro D c pre W _ _ h _
      exact h.elim
  · rw [if_neg he] at h2
    have h3 := Option.some.inj h2
    injection h3 with h4 h5
    subst h4; subst h5
    clear h2
    have he1 : (e0 == 0) = false := beq_eq_false_iff_ne.2 he
    have he2 : (e0 != 0) = true := bne_iff_ne.2 he
    go_enter Try.func120, Try.ntmps120
    go_wp2_with (go_at_call 132; refine HCk.out.mono ?_; rintro e w1 ⟨rfl, hb⟩; have HB := Aside0.mk hb; clear hb)
    go_ret2
    exact ⟨_, rfl, Kd.R_nil _ _ _ _ _, HB.out⟩
end Go.Proofs.Ytcabapilejagkaa.P
namespace Go.Proofs.Ytcabapilejagkaa.P
open Go.RowKit Go.Proofs.YtcabapilejagkaaW.PrintWords Go.Proofs.YtcabapilejagkaaW.PrintLast Go.Proofs.YtcabapilejagkaaW.PrintMore
attribute [local go_sem] max2_int min2_int max_two min_two max_three min_three max_four min_four
set_option linter.unusedVariables false
set_option linter.unusedSimpArgs false
def pairs_Zip_int64.l0 : Nat → List Int → List (S30) → List Int → Int → Int → Option ((List (S30)) × Int)
 | 0, _, _, _, _, _ => none
 | k + 1, x1, x8, x26, x27, x28 => if x28 < x27 then (if 0 ≤ x28 then (if x28 < (x26.length : Int) then (if x28 < (x1.length : Int) then (if x8.length < 8796093022208 then (pairs_Zip_int64.l0 k x1 (x8 ++ [(⟨rd x26 x28, rd x1 x28⟩ : S30)]) x26 x27 (wrap64 (x28 + 1))) else (none)) else (none)) else (none)) else (none)) else (some (x8, 0))
def pairs_Zip_int64.f (k : Nat) (l0 : List (S108)) (l1 : List Int) : Option ((List (S30)) × Int) := (span_Places.f k l0).bind fun bt101 => (if bt101.2 = 0 then (if (bt101.1.length : Int) = (l1.length : Int) then (pairs_Zip_int64.l0 k l1 ([] : List (S30)) bt101.1 (bt101.1.length : Int) 0) else (some (([] : List (S30)), 10))) else (some (([] : List (S30)), bt101.2)))
set_option maxHeartbeats 8000000 in
set_option maxRecDepth 100000 in
theorem pairs_Zip_int64.calls (k : Nat) (A0 : Option Addr) (c0 : Nat) (l0 : List (S108)) (A1 : Option Addr) (c1 : Nat) (l1 : List Int) (r1 : List (S30)) (r2 : Int) (w : World) (hr0 : Kd.C k108 w A0 l0.length l0) (hc0 : l0.length ≤ c0) (hr1 : Kd.C (Kd.int .i64) w A1 l1.length l1) (hc1 : l1.length ≤ c1) (h : pairs_Zip_int64.f k l0 l1 = some (r1, r2)) :
  Calls Try.prog 64 #[.slice A0 l0.length c0, .slice A1 l1.length c1] w fun e w' => ∃ v0_ : Value, e = .returned (.tuple #[v0_, .int .i64 r2]) ∧ Kd.R k30 30 w' w.heap.size (fun _ => True) v0_ r1 ∧ Below w.heap.size w w' := by
 have hu30 := Try.underlying30
 have HR0 := Aside0.mk hr0
 have HC0 := Aside0.mk hc0
 clear hr0 hc0
 have HR1 := Aside0.mk hr1
 have HC1 := Aside0.mk hc1
 clear hr1 hc1
 have HB := Aside0.mk (Below.refl w.heap.size w)
 have H : ((span_Places.f k l0).bind fun bt101 => (if bt101.2 = 0 then (if (bt101.1.length : Int) = (l1.length : Int) then (pairs_Zip_int64.l0 k l1 ([] : List (S30)) bt101.1 (bt101.1.length : Int) 0) else (some (([] : List (S30)), 10))) else (some (([] : List (S30)), bt101.2)))) = some (r1, r2) := h
 clear h
 replace H := Option.bind_eq_some_iff.mp H
 obtain ⟨⟨t101, t102⟩, A30, H⟩ := H
 replace H : (if t102 = 0 then (if (t101.length : Int) = (l1.length : Int) then (pairs_Zip_int64.l0 k l1 ([] : List (S30)) t101 (t101.length : Int) 0) else (some (([] : List (S30)), 10))) else (some (([] : List (S30)), t102))) = some (r1, r2) := H
 have A3 := Aside0.mk A30
 clear A30
 by_cases c4 : t102 = 0
 ·rw [if_pos c4] at H
  have c4b0 : (t102 == 0) = true := beq_iff_eq.mpr c4
  have c4b1 : (t102 != 0) = false := bne_eq_false_iff_eq.mpr c4
  clear c4
  by_cases c5 : (t101.length : Int) = (l1.length : Int)
  ·rw [if_pos c5] at H
   have c5b0 : ((t101.length : Int) == (l1.length : Int)) = true := beq_iff_eq.mpr c5
   have c5b1 : ((t101.length : Int) != (l1.length : Int)) = false := bne_eq_false_iff_eq.mpr c5
   have c5b2 : (t101.length == l1.length) = true := by first | simpa using c5 | (simp at c5 ⊢; omega)
   clear c5
   have H' := Aside0.mk H
   clear H
   go_enter Try.func64, Try.ntmps64
   go_wp2_with (first | ((with_reducible refine gate_callee (f := 120) rfl ?_); refine goesL_ (some 13) rfl rfl Try.func120 (by kernel_rfl) rfl #[.slice A0 l0.length c0] rfl (by (try simp only [List.map_toArray, List.map_cons, List.map_nil]); first | done | rfl | (simp only [List.length_drop, List.length_take]; rfl)) ?_; (with_reducible refine (span_Places.calls k _ _ l0 t101 t102 _ ?side1 ?side2 A3.out).mono ?_); (case side1 => repeat (first | exact HR0.out | (with_reducible refine Kd.C_alloc ?_ _) | (with_reducible refine Kd.C_drewN ?_ _) | (with_reducible refine Kd.C_drew ?_))); (case side2 => exact HC0.out); rintro e w6 ⟨v103, rfl, ho0, hb⟩; refine ⟨_, rfl, ?_⟩; have n0_ := Aside0.mk (Kd.R_lower ho0 (below_size (by repeat (first | (with_reducible first | exact HB.out | apply below_alloc | apply pw_below_drewN | apply below_drew1) | exact HB.out)))); have n1_ := Aside0.mk (below_step (by repeat (first | (with_reducible first | exact HB.out | apply below_alloc | apply pw_below_drewN | apply below_drew1) | exact HB.out)) hb); clear HB; have HO104 := n0_; have HB := n1_; clear n0_ n1_; (try clear hb); (try clear hb2); (try clear hk); (try clear hi); (try clear ho0); clear A3; obtain ⟨Ao7, co7, eo7⟩ := Kd.R_slice HO104.out; subst eo7))
   go_loopg [8, 28] k (fun kq v8 v28 w' => ∃ (x8_1 : List (S30)) (x28_1 : Int), v28 = .int .i64 x28_1 ∧ Aside0 (pairs_Zip_int64.l0 kq l1 x8_1 t101 (t101.length : Int) x28_1 = some (r1, r2)) ∧ Aside0 (kq ≤ k) ∧ Aside0 (Kd.R k30 30 w' w.heap.size (fun _ => True) v8 x8_1) ∧ Aside0 (Kd.R (Kd.int .i64) 3 w' w.heap.size (fun _ => True) (.slice Ao7 t101.length co7) t101) ∧ Aside0 (Below w.heap.size w w'))
   case atStart => exact ⟨(([] : List (S30))), (0), (by first | rfl | (simp; done) | (simp [*]; done)), H', ⟨Nat.le_refl _⟩, ⟨by first | exact Kd.R_nil _ _ _ _ _ | exact Kd.N_nil _ _ _ _ _ | exact Kd.V_nil _ _ _ _ _ | exact Kd.Q_nil _ _ _ _ _ | exact Kd.S_nil _ _ _ _ _⟩, ⟨by (with_reducible repeat (first | apply Kd.R_alloc | apply Kd.R_drewN | apply Kd.R_drew)); exact HO104.out⟩, ⟨by repeat (first | (with_reducible first | exact HB.out | apply below_alloc | apply pw_below_drewN | apply below_drew1) | exact HB.out)⟩⟩
   case round =>
    clear H'
    try clear c1
    try clear p2
    try clear c4
    try clear c4b0
    try clear c4b1
    try clear c5
    try clear c5b0
    try clear c5b1
    try clear c5b2
    try clear c6
    obtain ⟨x8_1, x28_1, rfl, HA, HK1, HO_8, HO_26, HB⟩ := hrel
    cases gk with
    | zero => exact absurd HA.out (by simp [pairs_Zip_int64.l0])
    | succ k1 =>
     have H := HA.out
     clear HA
     simp only [pairs_Zip_int64.l0] at H
     by_cases c8 : x28_1 < (t101.length : Int)
     ·rw [if_pos c8] at H
      have c8b0 : decide (x28_1 < (t101.length : Int)) = true := decide_eq_true c8
      clear c8
      by_cases c9 : 0 ≤ x28_1
      ·rw [if_pos c9] at H
       have c9b0 : decide (0 ≤ x28_1) = true := decide_eq_true c9
       clear c9
       by_cases c10 : x28_1 < (t101.length : Int)
       ·rw [if_pos c10] at H
        have c10b0 : decide (x28_1 < (t101.length : Int)) = true := decide_eq_true c10
        clear c10
        by_cases c11 : x28_1 < (l1.length : Int)
        ·rw [if_pos c11] at H
         have c11b0 : decide (x28_1 < (l1.length : Int)) = true := decide_eq_true c11
         clear c11
         by_cases c12 : x8_1.length < 8796093022208
         ·rw [if_pos c12] at H
          have LMc12 := Aside0.mk c12
          clear c12
          obtain ⟨y107, hy107⟩ : ∃ y_ : List (S30), y_ = (x8_1 ++ [(⟨rd t101 x28_1, rd l1 x28_1⟩ : S30)]) := ⟨_, rfl⟩
          replace H : (pairs_Zip_int64.l0 k1 l1 y107 t101 (t101.length : Int) (wrap64 (x28_1 + 1))) = some (r1, r2) := by first | (rw [hy107]; with_reducible exact H) | (have H2_ := (Option.bind_some _ _).symm.trans H; rw [hy107]; with_reducible exact H2_) | (have H2_ := (Option.bind_some _ _).symm.trans H; with_reducible exact H2_) | with_reducible exact H | (rw [hy107]; exact H) | exact H
          have Ny107 := Aside0.mk hy107
          clear hy107
          have H' := Aside0.mk H
          clear H
          have p105 : 0 ≤ (x28_1 : Int) := of_decide_eq_true (by first | (with_reducible assumption) | assumption)
          have q105 : x28_1 < (t101.length : Int) := of_decide_eq_true (by first | (with_reducible assumption) | assumption)
          obtain ⟨ad105, e105, hx105_0⟩ := Kd.at_int (Kd.R_reads' HO_26.out).2.2 x28_1 p105 q105
          cases e105
          replace p105 := eq_true p105
          replace q105 := eq_true q105
          have p106 : 0 ≤ (x28_1 : Int) := of_decide_eq_true (by first | (with_reducible assumption) | assumption)
          have q106 : x28_1 < (l1.length : Int) := of_decide_eq_true (by first | (with_reducible assumption) | assumption)
          obtain ⟨ad106, e106, hx106_0⟩ := Kd.at_int HR1.out x28_1 p106 q106
          cases e106
          replace hx106_0 := (HB.out.cell (World.block_lt_of_cell? w _ hx106_0)).trans hx106_0
          replace p106 := eq_true p106
          replace q106 := eq_true q106
          go_wp2_with (first | ((with_reducible refine gate_builtin (b := .append) (xs := #[.tmp 33, .tmp 40]) rfl ?_); at_builtin; refine Kd.R_append k30 (w0 := w) w.heap.size rfl (.tmp 33) (.tmp 40) 22 30 (.agg #[(.int .i64 0), (.int .i64 0)]) 16 rfl Try.underlying22 info30 rfl (by decide) (by omega) u8 x8_1 (⟨rd t101 x28_1, rd l1 x28_1⟩ : S30) [.int .i64 (rd t101 x28_1), .int .i64 (rd l1 x28_1)] (fun _ => True) (fun _ => False) rfl rfl ?aP (fun _ hk => hk.elim) ?aF ?aO ?aB ?aS ?aL ?_; (case aP => exact k30_mkM _ _ _ (⟨rd t101 x28_1, rd l1 x28_1⟩ : S30)); (case aB => exact (by repeat (first | (with_reducible first | exact HB.out | apply below_alloc | apply pw_below_drewN | apply below_drew1) | exact HB.out))); (case aF => exact (fun _ _ => trivial)); (case aO => exact (by (with_reducible repeat (first | apply Kd.R_alloc | apply Kd.R_drewN | apply Kd.R_drew)); exact HO_8.out)); (case aS => exact (below_size (by repeat (first | (with_reducible first | exact HB.out | apply below_alloc | apply pw_below_drewN | apply below_drew1) | exact HB.out)))); (case aL => have := LMc12.out; omega); intro v108 w13 ho hb hg hat; rw [← Ny107.out] at ho; have n0_ := Aside0.mk (Kd.R_over' (by (with_reducible repeat (first | apply Kd.R_alloc | apply Kd.R_drewN | apply Kd.R_drew)); exact HO_26.out) (Kd.R_typed (by (with_reducible repeat (first | apply Kd.R_alloc | apply Kd.R_drewN | apply Kd.R_drew)); exact HO_8.out)) (by decide) hg); have n1_ := Aside0.mk (hb); have n2_ := Aside0.mk (ho); clear HO_26; clear HB; clear HO_8; have HO_26 := n0_; have HB := n1_; have HO109 := n2_; clear n0_ n1_ n2_; clear ho hb hg hat))
          go_roundg k1
          case measure => have := HK1.out; omega
          case rel => exact ⟨(y107), (wrap64 (x28_1 + 1)), (by first | rfl | (simp; done) | (simp [*]; done)), H', ⟨by have := HK1.out; omega⟩, ⟨by (with_reducible repeat (first | apply Kd.R_alloc | apply Kd.R_drewN | apply Kd.R_drew)); exact HO109.out⟩, ⟨by (with_reducible repeat (first | apply Kd.R_alloc | apply Kd.R_drewN | apply Kd.R_drew)); exact HO_26.out⟩, ⟨by repeat (first | (with_reducible first | exact HB.out | apply below_alloc | apply pw_below_drewN | apply below_drew1) | exact HB.out)⟩⟩
         ·rw [if_neg c12] at H
          exact absurd H (by simp)
        ·rw [if_neg c11] at H
         exact absurd H (by simp)
       ·rw [if_neg c10] at H
        exact absurd H (by simp)
      ·rw [if_neg c9] at H
       exact absurd H (by simp)
     ·rw [if_neg c8] at H
      have c8b0 : decide (x28_1 < (t101.length : Int)) = false := decide_eq_false c8
      clear c8
      simp only [Option.some.injEq, Prod.mk.injEq] at H
      obtain ⟨rfl, rfl⟩ := H
      go_wp2
      go_ret2
      exact ⟨_, by first | rfl | (simp [errW_none, errW_some] <;> rfl) | (simp [*, errW_none, errW_some] <;> rfl), by (with_reducible repeat (first | apply Kd.R_alloc | apply Kd.R_drewN | apply Kd.R_drew)); exact HO_8.out, by repeat (first | (with_reducible first | exact HB.out | apply below_alloc | apply pw_below_drewN | apply below_drew1) | exact HB.out)⟩
  ·rw [if_neg c5] at H
   have c5b0 : ((t101.length : Int) == (l1.length : Int)) = false := beq_eq_false_iff_ne.mpr c5
   have c5b1 : ((t101.length : Int) != (l1.length : Int)) = true := bne_iff_ne.mpr c5
   have c5b2 : (t101.length == l1.length) = false := by first | simpa using c5 | (simp at c5 ⊢; omega)
   simp only [Option.some.injEq, Prod.mk.injEq] at H
   obtain ⟨rfl, rfl⟩ := H
   go_enter Try.func64, Try.ntmps64
   go_wp2_with (first | ((with_reducible refine gate_callee (f := 120) rfl ?_); refine goesL_ (some 13) rfl rfl Try.func120 (by kernel_rfl) rfl #[.slice A0 l0.length c0] rfl (by (try simp only [List.map_toArray, List.map_cons, List.map_nil]); first | done | rfl | (simp only [List.length_drop, List.length_take]; rfl)) ?_; (with_reducible refine (span_Places.calls k _ _ l0 t101 t102 _ ?side1 ?side2 A3.out).mono ?_); (case side1 => repeat (first | exact HR0.out | (with_reducible refine Kd.C_alloc ?_ _) | (with_reducible refine Kd.C_drewN ?_ _) | (with_reducible refine Kd.C_drew ?_))); (case side2 => exact HC0.out); rintro e w14 ⟨v103, rfl, ho0, hb⟩; refine ⟨_, rfl, ?_⟩; have n0_ := Aside0.mk (Kd.R_lower ho0 (below_size (by repeat (first | (with_reducible first | exact HB.out | apply below_alloc | apply pw_below_drewN | apply below_drew1) | exact HB.out)))); have n1_ := Aside0.mk (below_step (by repeat (first | (with_reducible first | exact HB.out | apply below_alloc | apply pw_below_drewN | apply below_drew1) | exact HB.out)) hb); clear HB; have HO104 := n0_; have HB := n1_; clear n0_ n1_; (try clear hb); (try clear hb2); (try clear hk); (try clear hi); (try clear ho0); clear A3; obtain ⟨Ao15, co15, eo15⟩ := Kd.R_slice HO104.out; subst eo15))
   go_ret2
   exact ⟨_, by first | rfl | (simp [errW_none, errW_some] <;> rfl) | (simp [*, errW_none, errW_some] <;> rfl), by first | exact Kd.R_nil _ _ _ _ _ | exact Kd.N_nil _ _ _ _ _ | exact Kd.V_nil _ _ _ _ _ | exact Kd.Q_nil _ _ _ _ _ | exact Kd.S_nil _ _ _ _ _, by repeat (first | (with_reducible first | exact HB.out | apply below_alloc | apply pw_below_drewN | apply below_drew1) | exact HB.out)⟩
 ·rw [if_neg c4] at H
  have c4b0 : (t102 == 0) = false := beq_eq_false_iff_ne.mpr c4
  have c4b1 : (t102 != 0) = true := bne_iff_ne.mpr c4
  simp only [Option.some.injEq, Prod.mk.injEq] at H
  obtain ⟨rfl, rfl⟩ := H
  go_enter Try.func64, Try.ntmps64
  go_wp2_with (first | ((with_reducible refine gate_callee (f := 120) rfl ?_); refine goesL_ (some 13) rfl rfl Try.func120 (by kernel_rfl) rfl #[.slice A0 l0.length c0] rfl (by (try simp only [List.map_toArray, List.map_cons, List.map_nil]); first | done | rfl | (simp only [List.length_drop, List.length_take]; rfl)) ?_; (with_reducible refine (span_Places.calls k _ _ l0 t101 t102 _ ?side1 ?side2 A3.out).mono ?_); (case side1 => repeat (first | exact HR0.out | (with_reducible refine Kd.C_alloc ?_ _) | (with_reducible refine Kd.C_drewN ?_ _) | (with_reducible refine Kd.C_drew ?_))); (case side2 => exact HC0.out); rintro e w16 ⟨v103, rfl, ho0, hb⟩; refine ⟨_, rfl, ?_⟩; have n0_ := Aside0.mk (Kd.R_lower ho0 (below_size (by repeat (first | (with_reducible first | exact HB.out | apply below_alloc | apply pw_below_drewN | apply below_drew1) | exact HB.out)))); have n1_ := Aside0.mk (below_step (by repeat (first | (with_reducible first | exact HB.out | apply below_alloc | apply pw_below_drewN | apply below_drew1) | exact HB.out)) hb); clear HB; have HO104 := n0_; have HB := n1_; clear n0_ n1_; (try clear hb); (try clear hb2); (try clear hk); (try clear hi); (try clear ho0); clear A3))
  go_ret2
  exact ⟨_, by first | rfl | (simp [errW_none, errW_some] <;> rfl) | (simp [*, errW_none, errW_some] <;> rfl), by first | exact Kd.R_nil _ _ _ _ _ | exact Kd.N_nil _ _ _ _ _ | exact Kd.V_nil _ _ _ _ _ | exact Kd.Q_nil _ _ _ _ _ | exact Kd.S_nil _ _ _ _ _, by repeat (first | (with_reducible first | exact HB.out | apply below_alloc | apply pw_below_drewN | apply below_drew1) | exact HB.out)⟩
def pairs_add.f (a0 : Int) (a1 : Int) : Option (Int × Bool) := some (wrap64 (a0 + a1), ((decide ((wrap64 (a0 + a1)) > a0)) == (decide (a1 > 0))))
set_option maxHeartbeats 8000000 in
set_option maxRecDepth 100000 in
theorem pairs_add.calls (a0 : Int) (a1 : Int) (r1 : Int) (r2 : Bool) (w : World) (h : pairs_add.f a0 a1 = some (r1, r2)) :
  Calls Try.prog 121 #[.int .i64 a0, .int .i64 a1] w fun e w' => e = .returned (.tuple #[.int .i64 r1, .bool r2]) ∧ Drawn0 w w' := by
 have H : (some (wrap64 (a0 + a1), ((decide ((wrap64 (a0 + a1)) > a0)) == (decide (a1 > 0))))) = some (r1, r2) := h
 clear h
 simp only [Option.some.injEq, Prod.mk.injEq] at H
 obtain ⟨rfl, rfl⟩ := H
 go_enter Try.func121, Try.ntmps121
 go_wp2
 go_ret2
 exact ⟨by first | rfl | (simp; done) | (simp [*]; done), by repeat (first | exact Drawn0.refl _ | apply Drawn0.step)⟩
def pairs_Absolute.l0 : Nat → List Int → Int → List Int → Int → Int → Option (List Int × Int)
 | 0, _, _, _, _, _ => none
 | k + 1, x4, x5, x9, x10, x11 => if x11 < x10 then (if 0 ≤ x11 then (if x11 < (x9.length : Int) then ((pairs_add.f x5 (rd x9 x11)).bind fun bt102 => (if bt102.2 = true then (if x4.length < 17592186044416 then (pairs_Absolute.l0 k (x4 ++ [bt102.1]) bt102.1 x9 x10 (wrap64 (x11 + 1))) else (none)) else (some (([] : List Int), 28)))) else (none)) else (none)) else (some (x4, 0))
def pairs_Absolute.f (k : Nat) (l0 : List Int) : Option (List Int × Int) := pairs_Absolute.l0 k ([] : List Int) 0 l0 (l0.length : Int) 0
set_option maxHeartbeats 8000000 in
set_option maxRecDepth 100000 in
theorem pairs_Absolute.calls (k : Nat) (A0 : Option Addr) (c0 : Nat) (l0 : List Int) (r1 : List Int) (r2 : Int) (w : World) (hr0 : Kd.C (Kd.int .i64) w A0 l0.length l0) (hc0 : l0.length ≤ c0) (h : pairs_Absolute.f k l0 = some (r1, r2)) :
  Calls Try.prog 65 #[.slice A0 l0.length c0] w fun e w' => ∃ v0_ : Value, e = .returned (.tuple #[v0_, .int .i64 r2]) ∧ Kd.R (Kd.int .i64) 2 w' w.heap.size (fun _ => True) v0_ r1 ∧ Below w.heap.size w w' := by
 have HR0 := Aside0.mk hr0
 have HC0 := Aside0.mk hc0
 clear hr0 hc0
 have HB := Aside0.mk (Below.refl w.heap.size w)
 have H : (pairs_Absolute.l0 k ([] : List Int) 0 l0 (l0.length : Int) 0) = some (r1, r2) := h
 clear h
 have H' := Aside0.mk H
 clear H
 go_enter Try.func65, Try.ntmps65
 go_wp2
 go_loopg [4, 5, 11] k (fun kq v4 v5 v11 w' => ∃ (x4_1 : List Int) (x5_1 : Int) (x11_1 : Int), v5 = .int .i64 x5_1 ∧ v11 = .int .i64 x11_1 ∧ Aside0 (pairs_Absolute.l0 kq x4_1 x5_1 l0 (l0.length : Int) x11_1 = some (r1, r2)) ∧ Aside0 (kq ≤ k) ∧ Aside0 (Kd.R (Kd.int .i64) 2 w' w.heap.size (fun _ => True) v4 x4_1) ∧ Aside0 (Below w.heap.size w w'))
 case atStart => exact ⟨(([] : List Int)), (0), (0), (by first | rfl | (simp; done) | (simp [*]; done)), (by first | rfl | (simp; done) | (simp [*]; done)), H', ⟨Nat.le_refl _⟩, ⟨by first | exact Kd.R_nil _ _ _ _ _ | exact Kd.N_nil _ _ _ _ _ | exact Kd.V_nil _ _ _ _ _ | exact Kd.Q_nil _ _ _ _ _ | exact Kd.S_nil _ _ _ _ _⟩, ⟨by repeat (first | (with_reducible first | exact HB.out | apply below_alloc | apply pw_below_drewN | apply below_drew1) | exact HB.out)⟩⟩
 case round =>
  clear H'
  obtain ⟨x4_1, x5_1, x11_1, rfl, rfl, HA, HK1, HO_4, HB⟩ := hrel
  cases gk with
  | zero => exact absurd HA.out (by simp [pairs_Absolute.l0])
  | succ k1 =>
   have H := HA.out
   clear HA
   simp only [pairs_Absolute.l0] at H
   by_cases c2 : x11_1 < (l0.length : Int)
   ·rw [if_pos c2] at H
    have c2b0 : decide (x11_1 < (l0.length : Int)) = true := decide_eq_true c2
    clear c2
    by_cases c3 : 0 ≤ x11_1
    ·rw [if_pos c3] at H
     have c3b0 : decide (0 ≤ x11_1) = true := decide_eq_true c3
     clear c3
     by_cases c4 : x11_1 < (l0.length : Int)
     ·rw [if_pos c4] at H
      have c4b0 : decide (x11_1 < (l0.length : Int)) = true := decide_eq_true c4
      clear c4
      replace H := Option.bind_eq_some_iff.mp H
      obtain ⟨⟨t102, t103⟩, A50, H⟩ := H
      replace H : (if t103 = true then (if x4_1.length < 17592186044416 then (pairs_Absolute.l0 k1 (x4_1 ++ [t102]) t102 l0 (l0.length : Int) (wrap64 (x11_1 + 1))) else (none)) else (some (([] : List Int), 28))) = some (r1, r2) := H
      have A5 := Aside0.mk A50
      clear A50
      by_cases c6 : t103 = true
      ·subst c6
       have H1 : (if x4_1.length < 17592186044416 then (pairs_Absolute.l0 k1 (x4_1 ++ [t102]) t102 l0 (l0.length : Int) (wrap64 (x11_1 + 1))) else (none)) = some (r1, r2) := by rw [if_pos rfl] at H; exact H
       clear H
       have H := H1
       clear H1
       by_cases c7 : x4_1.length < 17592186044416
       ·rw [if_pos c7] at H
        have LMc7 := Aside0.mk c7
        clear c7
        obtain ⟨y104, hy104⟩ : ∃ y_ : List Int, y_ = (x4_1 ++ [t102]) := ⟨_, rfl⟩
        replace H : (pairs_Absolute.l0 k1 y104 t102 l0 (l0.length : Int) (wrap64 (x11_1 + 1))) = some (r1, r2) := by first | (rw [hy104]; with_reducible exact H) | (have H2_ := (Option.bind_some _ _).symm.trans H; rw [hy104]; with_reducible exact H2_) | (have H2_ := (Option.bind_some _ _).symm.trans H; with_reducible exact H2_) | with_reducible exact H | (rw [hy104]; exact H) | exact H
        have Ny104 := Aside0.mk hy104
        clear hy104
        have H' := Aside0.mk H
        clear H
        have p101 : 0 ≤ (x11_1 : Int) := of_decide_eq_true (by first | (with_reducible assumption) | assumption)
        have q101 : x11_1 < (l0.length : Int) := of_decide_eq_true (by first | (with_reducible assumption) | assumption)
        obtain ⟨ad101, e101, hx101_0⟩ := Kd.at_int HR0.out x11_1 p101 q101
        cases e101
        replace hx101_0 := (HB.out.cell (World.block_lt_of_cell? w _ hx101_0)).trans hx101_0
        replace p101 := eq_true p101
        replace q101 := eq_true q101
        go_wp2_with (first | ((with_reducible refine gate_callee (f := 121) rfl ?_); refine goesL_ (some 18) rfl rfl Try.func121 (by kernel_rfl) rfl #[.int .i64 x5_1, .int .i64 (rd l0 x11_1)] rfl (by (try simp only [List.map_toArray, List.map_cons, List.map_nil]); first | done | rfl | (simp only [List.length_drop, List.length_take]; rfl)) ?_; (with_reducible refine (pairs_add.calls x5_1 (rd l0 x11_1) t102 true _ A5.out).mono ?_); rintro e w' ⟨rfl, ⟨nd, rfl⟩⟩; refine ⟨_, rfl, ?_⟩; clear A5) | ((with_reducible refine gate_builtin (b := .append) (xs := #[.tmp 23, .tmp 25]) rfl ?_); at_builtin; refine Kd.R_append (Kd.int .i64) (w0 := w) w.heap.size rfl (.tmp 23) (.tmp 25) 35 2 (.int .i64 0) 8 rfl Try.underlying35 info2 rfl (by decide) (by omega) u4 x4_1 t102 [.int .i64 t102] (fun _ => True) (fun _ => False) rfl rfl ?aP (fun _ hk => hk.elim) ?aF ?aO ?aB ?aS ?aL ?_; (case aP => exact rfl); (case aB => exact (by repeat (first | (with_reducible first | exact HB.out | apply below_alloc | apply pw_below_drewN | apply below_drew1) | exact HB.out))); (case aF => exact (fun _ _ => trivial)); (case aO => exact (by (with_reducible repeat (first | apply Kd.R_alloc | apply Kd.R_drewN | apply Kd.R_drew)); exact HO_4.out)); (case aS => exact (below_size (by repeat (first | (with_reducible first | exact HB.out | apply below_alloc | apply pw_below_drewN | apply below_drew1) | exact HB.out)))); (case aL => have := LMc7.out; omega); intro v105 w8 ho hb hg hat; rw [← Ny104.out] at ho; have n0_ := Aside0.mk (hb); have n1_ := Aside0.mk (ho); clear HB; clear HO_4; have HB := n0_; have HO106 := n1_; clear n0_ n1_; clear ho hb hg hat))
        go_roundg k1
        case measure => have := HK1.out; omega
        case rel => exact ⟨(y104), (t102), (wrap64 (x11_1 + 1)), (by first | rfl | (simp; done) | (simp [*]; done)), (by first | rfl | (simp; done) | (simp [*]; done)), H', ⟨by have := HK1.out; omega⟩, ⟨by (with_reducible repeat (first | apply Kd.R_alloc | apply Kd.R_drewN | apply Kd.R_drew)); exact HO106.out⟩, ⟨by repeat (first | (with_reducible first | exact HB.out | apply below_alloc | apply pw_below_drewN | apply below_drew1) | exact HB.out)⟩⟩
       ·rw [if_neg c7] at H
        exact absurd H (by simp)
      ·replace c6 := Bool.eq_false_iff.mpr c6
       subst c6
       have H1 : (some (([] : List Int), 28)) = some (r1, r2) := by rw [if_neg (show ¬ (false = true) by decide)] at H; exact H
       clear H
       have H := H1
       clear H1
       simp only [Option.some.injEq, Prod.mk.injEq] at H
       obtain ⟨rfl, rfl⟩ := H
       have p101 : 0 ≤ (x11_1 : Int) := of_decide_eq_true (by first | (with_reducible assumption) | assumption)
       have q101 : x11_1 < (l0.length : Int) := of_decide_eq_true (by first | (with_reducible assumption) | assumption)
       obtain ⟨ad101, e101, hx101_0⟩ := Kd.at_int HR0.out x11_1 p101 q101
       cases e101
       replace hx101_0 := (HB.out.cell (World.block_lt_of_cell? w _ hx101_0)).trans hx101_0
       replace p101 := eq_true p101
       replace q101 := eq_true q101
       go_wp2_with (first | ((with_reducible refine gate_callee (f := 121) rfl ?_); refine goesL_ (some 18) rfl rfl Try.func121 (by kernel_rfl) rfl #[.int .i64 x5_1, .int .i64 (rd l0 x11_1)] rfl (by (try simp only [List.map_toArray, List.map_cons, List.map_nil]); first | done | rfl | (simp only [List.length_drop, List.length_take]; rfl)) ?_; (with_reducible refine (pairs_add.calls x5_1 (rd l0 x11_1) t102 false _ A5.out).mono ?_); rintro e w' ⟨rfl, ⟨nd, rfl⟩⟩; refine ⟨_, rfl, ?_⟩; clear A5))
       go_ret2
       exact ⟨_, by first | rfl | (simp [errW_none, errW_some] <;> rfl) | (simp [*, errW_none, errW_some] <;> rfl), by first | exact Kd.R_nil _ _ _ _ _ | exact Kd.N_nil _ _ _ _ _ | exact Kd.V_nil _ _ _ _ _ | exact Kd.Q_nil _ _ _ _ _ | exact Kd.S_nil _ _ _ _ _, by repeat (first | (with_reducible first | exact HB.out | apply below_alloc | apply pw_below_drewN | apply below_drew1) | exact HB.out)⟩
     ·rw [if_neg c4] at H
      exact absurd H (by simp)
    ·rw [if_neg c3] at H
     exact absurd H (by simp)
   ·rw [if_neg c2] at H
    have c2b0 : decide (x11_1 < (l0.length : Int)) = false := decide_eq_false c2
    clear c2
    simp only [Option.some.injEq, Prod.mk.injEq] at H
    obtain ⟨rfl, rfl⟩ := H
    go_wp2
    go_ret2
    exact ⟨_, by first | rfl | (simp [errW_none, errW_some] <;> rfl) | (simp [*, errW_none, errW_some] <;> rfl), by (with_reducible repeat (first | apply Kd.R_alloc | apply Kd.R_drewN | apply Kd.R_drew)); exact HO_4.out, by repeat (first | (with_reducible first | exact HB.out | apply below_alloc | apply pw_below_drewN | apply below_drew1) | exact HB.out)⟩
def pairs_Unzip_int64.l0 : Nat → List Int → List Int → List (S30) → Int → Int → Option ((List (S108)) × List Int × Int)
 | 0, _, _, _, _, _ => none
 | k + 1, x5, x6, x11, x12, x13 => if x13 < x12 then (if 0 ≤ x13 then (if x13 < (x11.length : Int) then ((some (([(rd_T30 x11 x13).f0] : List Int) : List Int)).bind fun y103 => (if x5.length + y103.length < 17592186044416 then ((some (([(rd_T30 x11 x13).f1] : List Int) : List Int)).bind fun y109 => (if x6.length + y109.length < 17592186044416 then (pairs_Unzip_int64.l0 k (x5 ++ y103) (x6 ++ y109) x11 x12 (wrap64 (x13 + 1))) else (none))) else (none))) else (none)) else (none)) else ((span_From.f k x5).bind fun bt115 => (if bt115.2 = 0 then (some (bt115.1, x6, 0)) else (some (([] : List (S108)), ([] : List Int), bt115.2))))
def pairs_Unzip_int64.f (k : Nat) (l0 : List (S30)) : Option ((List (S108)) × List Int × Int) := pairs_Unzip_int64.l0 k ([] : List Int) ([] : List Int) l0 (l0.length : Int) 0
def pairs_Unzip_int64.T6 : Bool × List (List Nat × List Nat) := (true, [([], []), ([], []), ([1], [1]), ([2], [2]), ([0, 3], [0, 3]), ([], []), ([], []), ([6], [6]), ([7], [7]), ([5, 8, 4], [5, 8]), ([4, 9, 0, 1, 2, 3, 4], [0, 4]), ([9, 10, 0, 1, 2, 3, 4, 5, 6, 7, 8, 9, 10], [5, 9])])
def pairs_Unzip_int64.B6 : List Nat := [0, 0, 2, 6, 15, 0, 0, 64, 192, 511, 1023, 2047]
theorem pairs_Unzip_int64.tab6 : rtab .any (opsOf Try.f66 6) = pairs_Unzip_int64.T6 := by kernel_rfl
theorem pairs_Unzip_int64.bits6 : waitsOk pairs_Unzip_int64.T6.2 pairs_Unzip_int64.B6 = true := by kernel_rfl
set_option maxHeartbeats 8000000 in
set_option maxRecDepth 100000 in
theorem pairs_Unzip_int64.calls (k : Nat) (A0 : Option Addr) (c0 : Nat) (l0 : List (S30)) (r1 : List (S108)) (r2 : List Int) (r3 : Int) (w : World) (hr0 : Kd.C k30 w A0 l0.length l0) (hc0 : l0.length ≤ c0) (h : pairs_Unzip_int64.f k l0 = some (r1, r2, r3)) :
  Calls Try.prog 66 #[.slice A0 l0.length c0] w fun e w' => ∃ v0_ v1_ : Value, e = .returned (.tuple #[v0_, v1_, .int .i64 r3]) ∧ Kd.R k108 108 w' w.heap.size (fun _ => True) v0_ r1 ∧ Kd.R (Kd.int .i64) 2 w' w.heap.size (fun _ => True) v1_ r2 ∧ Below w.heap.size w w' := by
 have hu30 := Try.underlying30
 have HR0 := Aside0.mk hr0
 have HC0 := Aside0.mk hc0
 clear hr0 hc0
 have HB := Aside0.mk (Below.refl w.heap.size w)
 have H : (pairs_Unzip_int64.l0 k ([] : List Int) ([] : List Int) l0 (l0.length : Int) 0) = some (r1, r2, r3) := h
 clear h
 have H' := Aside0.mk H
 clear H
 go_enter Try.func66, Try.ntmps66
 go_wp2
 go_loopg [5, 6, 13] k (fun kq v5 v6 v13 w' => ∃ (x5_1 : List Int) (x6_1 : List Int) (x13_1 : Int), v13 = .int .i64 x13_1 ∧ Aside0 (pairs_Unzip_int64.l0 kq x5_1 x6_1 l0 (l0.length : Int) x13_1 = some (r1, r2, r3)) ∧ Aside0 (kq ≤ k) ∧ Aside0 (Kd.R (Kd.int .i64) 3 w' w.heap.size (fun _ => True) v5 x5_1) ∧ Aside0 (Kd.R (Kd.int .i64) 2 w' w.heap.size (fun _ => True) v6 x6_1) ∧ Aside0 (Below w.heap.size w w'))
 case atStart => exact ⟨(([] : List Int)), (([] : List Int)), (0), (by first | rfl | (simp; done) | (simp [*]; done)), H', ⟨Nat.le_refl _⟩, ⟨by first | exact Kd.R_nil _ _ _ _ _ | exact Kd.N_nil _ _ _ _ _ | exact Kd.V_nil _ _ _ _ _ | exact Kd.Q_nil _ _ _ _ _ | exact Kd.S_nil _ _ _ _ _⟩, ⟨by first | exact Kd.R_nil _ _ _ _ _ | exact Kd.N_nil _ _ _ _ _ | exact Kd.V_nil _ _ _ _ _ | exact Kd.Q_nil _ _ _ _ _ | exact Kd.S_nil _ _ _ _ _⟩, ⟨by repeat (first | (with_reducible first | exact HB.out | apply below_alloc | apply pw_below_drewN | apply below_drew1) | exact HB.out)⟩⟩
 case round =>
  clear H'
  obtain ⟨x5_1, x6_1, x13_1, rfl, HA, HK1, HO_5, HO_6, HB⟩ := hrel
  cases gk with
  | zero => exact absurd HA.out (by simp [pairs_Unzip_int64.l0])
  | succ k1 =>
   have H := HA.out
   clear HA
   simp only [pairs_Unzip_int64.l0] at H
   by_cases c2 : x13_1 < (l0.length : Int)
   ·rw [if_pos c2] at H
    have c2b0 : decide (x13_1 < (l0.length : Int)) = true := decide_eq_true c2
    clear c2
    by_cases c3 : 0 ≤ x13_1
    ·rw [if_pos c3] at H
     have c3b0 : decide (0 ≤ x13_1) = true := decide_eq_true c3
     clear c3
     by_cases c4 : x13_1 < (l0.length : Int)
     ·rw [if_pos c4] at H
      have c4b0 : decide (x13_1 < (l0.length : Int)) = true := decide_eq_true c4
      clear c4
      obtain ⟨y103, hy103⟩ : ∃ y_ : List Int, y_ = (([(rd_T30 l0 x13_1).f0] : List Int)) := ⟨_, rfl⟩
      replace H : (if x5_1.length + y103.length < 17592186044416 then ((some (([(rd_T30 l0 x13_1).f1] : List Int) : List Int)).bind fun y109 => (if x6_1.length + y109.length < 17592186044416 then (pairs_Unzip_int64.l0 k1 (x5_1 ++ y103) (x6_1 ++ y109) l0 (l0.length : Int) (wrap64 (x13_1 + 1))) else (none))) else (none)) = some (r1, r2, r3) := by first | (rw [hy103]; with_reducible exact H) | (have H2_ := (Option.bind_some _ _).symm.trans H; rw [hy103]; with_reducible exact H2_) | (have H2_ := (Option.bind_some _ _).symm.trans H; with_reducible exact H2_) | with_reducible exact H | (rw [hy103]; exact H) | exact H
      have Ny103 := Aside0.mk hy103
      clear hy103
      by_cases c5 : x5_1.length + y103.length < 17592186044416
      ·rw [if_pos c5] at H
       have LMc5 := Aside0.mk c5
       clear c5
       obtain ⟨y106, hy106⟩ : ∃ y_ : List Int, y_ = (x5_1 ++ y103) := ⟨_, rfl⟩
       replace H : ((some (([(rd_T30 l0 x13_1).f1] : List Int) : List Int)).bind fun y109 => (if x6_1.length + y109.length < 17592186044416 then (pairs_Unzip_int64.l0 k1 y106 (x6_1 ++ y109) l0 (l0.length : Int) (wrap64 (x13_1 + 1))) else (none))) = some (r1, r2, r3) := by first | (rw [hy106]; with_reducible exact H) | (have H2_ := (Option.bind_some _ _).symm.trans H; rw [hy106]; with_reducible exact H2_) | (have H2_ := (Option.bind_some _ _).symm.trans H; with_reducible exact H2_) | with_reducible exact H | (rw [hy106]; exact H) | exact H
       have Ny106 := Aside0.mk hy106
       clear hy106
       obtain ⟨y109, hy109⟩ : ∃ y_ : List Int, y_ = (([(rd_T30 l0 x13_1).f1] : List Int)) := ⟨_, rfl⟩
       replace H : (if x6_1.length + y109.length < 17592186044416 then (pairs_Unzip_int64.l0 k1 y106 (x6_1 ++ y109) l0 (l0.length : Int) (wrap64 (x13_1 + 1))) else (none)) = some (r1, r2, r3) := by first | (rw [hy109]; with_reducible exact H) | (have H2_ := (Option.bind_some _ _).symm.trans H; rw [hy109]; with_reducible exact H2_) | (have H2_ := (Option.bind_some _ _).symm.trans H; with_reducible exact H2_) | with_reducible exact H | (rw [hy109]; exact H) | exact H
       have Ny109 := Aside0.mk hy109
       clear hy109
       by_cases c6 : x6_1.length + y109.length < 17592186044416
       ·rw [if_pos c6] at H
        have LMc6 := Aside0.mk c6
        clear c6
        obtain ⟨y112, hy112⟩ : ∃ y_ : List Int, y_ = (x6_1 ++ y109) := ⟨_, rfl⟩
        replace H : (pairs_Unzip_int64.l0 k1 y106 y112 l0 (l0.length : Int) (wrap64 (x13_1 + 1))) = some (r1, r2, r3) := by first | (rw [hy112]; with_reducible exact H) | (have H2_ := (Option.bind_some _ _).symm.trans H; rw [hy112]; with_reducible exact H2_) | (have H2_ := (Option.bind_some _ _).symm.trans H; with_reducible exact H2_) | with_reducible exact H | (rw [hy112]; exact H) | exact H
        have Ny112 := Aside0.mk hy112
        clear hy112
        have H' := Aside0.mk H
        clear H
        have p101 : 0 ≤ (x13_1 : Int) := of_decide_eq_true (by first | (with_reducible assumption) | assumption)
        have q101 : x13_1 < (l0.length : Int) := of_decide_eq_true (by first | (with_reducible assumption) | assumption)
        obtain ⟨ad101, e101, hx101_0, hx101_1⟩ := at_T30 HR0.out x13_1 p101 q101
        cases e101
        replace hx101_0 := (HB.out.cell (World.block_lt_of_cell? w _ hx101_0)).trans hx101_0
        replace hx101_1 := (HB.out.cell (World.block_lt_of_cell? w _ hx101_1)).trans hx101_1
        replace p101 := eq_true p101
        replace q101 := eq_true q101
        try go_wp2_with (first | ((with_reducible refine gate_dst (N := 8) rfl ?_); refine box_event ?hg (N := 8) ?hd (cs := #[.int .i64 0, .int .i64 0]) (t := 30) ?hr ?_; (case hd => rfl); (case hg => rfl); (case hr => first | (go_simp; done) | (go_simp; rfl)); intro gb102 hg w7 hbox hb; have n0_ := Aside0.mk (Kd.R_below (by (with_reducible repeat (first | apply Kd.R_alloc | apply Kd.R_drewN | apply Kd.R_drew)); exact HO_5.out) hb); have n1_ := Aside0.mk (Kd.R_below (by (with_reducible repeat (first | apply Kd.R_alloc | apply Kd.R_drewN | apply Kd.R_drew)); exact HO_6.out) hb); have n2_ := Aside0.mk (below_step (by repeat (first | (with_reducible first | exact HB.out | apply below_alloc | apply pw_below_drewN | apply below_drew1) | exact HB.out)) hb); have n3_ := Aside0.mk (hbox); have n4_ := Aside0.mk ((by rw [hg]; exact (below_size (by repeat (first | (with_reducible first | exact HB.out | apply below_alloc | apply pw_below_drewN | apply below_drew1) | exact HB.out))) : w.heap.size ≤ gb102)); have n5_ := Aside0.mk ((by rw [hg]; exact (below_size (by repeat (first | (with_reducible first | exact HB.out | apply below_alloc | apply pw_below_drewN | apply below_drew1) | exact HB.out))) : w.heap.size ≤ gb102)); clear HO_5; clear HO_6; clear HB; have HO_5 := n0_; have HO_6 := n1_; have HB := n2_; have BK102 := n3_; have GW102 := n4_; have GE102 := n5_; clear n0_ n1_ n2_ n3_ n4_ n5_; clear hb hbox hg; have hcz8_0 : w7.cell? ⟨gb102, 0, none⟩ = some (.int .i64 0) := (blk_cell BK102.out 0).trans rfl; have hcz8_1 : w7.cell? ⟨gb102, 1, none⟩ = some (.int .i64 0) := (blk_cell BK102.out 1).trans rfl; have hfz8_0 := blk_frozen BK102.out 0; have hfz8_1 := blk_frozen BK102.out 1; obtain ⟨Ao9, co9, eo9⟩ := Kd.R_slice HO_5.out; subst eo9; obtain ⟨Ao10, co10, eo10⟩ := Kd.R_slice HO_6.out; subst eo10))
        have n0_ : Aside0 (Kd.R (Kd.int .i64) 3 ((w7.setCell ⟨gb102, 0, none⟩ (.int .i64 ((rd_T30 l0 x13_1).f0))).setCell ⟨gb102, 1, none⟩ (.int .i64 ((rd_T30 l0 x13_1).f1))) w.heap.size (fun _ => True) (.slice Ao9 x5_1.length co9) x5_1) := ⟨by (with_reducible repeat (first | apply Kd.R_alloc | apply Kd.R_drewN | apply Kd.R_drew)); exact Kd.R_mono (Kd.R_far (p := ⟨gb102, 1, none⟩) (Kd.R_far (p := ⟨gb102, 0, none⟩) (Kd.R_types HO_5.out BK102.out (by decide)) (fun _ hk => hk.2) (.int .i64 ((rd_T30 l0 x13_1).f0))) (fun _ hk => hk.2) (.int .i64 ((rd_T30 l0 x13_1).f1))) (fun _ hk => trivial)⟩
        have n1_ : Aside0 (Kd.R (Kd.int .i64) 2 ((w7.setCell ⟨gb102, 0, none⟩ (.int .i64 ((rd_T30 l0 x13_1).f0))).setCell ⟨gb102, 1, none⟩ (.int .i64 ((rd_T30 l0 x13_1).f1))) w.heap.size (fun _ => True) (.slice Ao10 x6_1.length co10) x6_1) := ⟨by (with_reducible repeat (first | apply Kd.R_alloc | apply Kd.R_drewN | apply Kd.R_drew)); exact Kd.R_mono (Kd.R_far (p := ⟨gb102, 1, none⟩) (Kd.R_far (p := ⟨gb102, 0, none⟩) (Kd.R_types HO_6.out BK102.out (by decide)) (fun _ hk => hk.2) (.int .i64 ((rd_T30 l0 x13_1).f0))) (fun _ hk => hk.2) (.int .i64 ((rd_T30 l0 x13_1).f1))) (fun _ hk => trivial)⟩
        have n2_ : Aside0 (((w7.setCell ⟨gb102, 0, none⟩ (.int .i64 ((rd_T30 l0 x13_1).f0))).setCell ⟨gb102, 1, none⟩ (.int .i64 ((rd_T30 l0 x13_1).f1))).heap[gb102]? = some (.cells #[.int .i64 ((rd_T30 l0 x13_1).f0), .int .i64 ((rd_T30 l0 x13_1).f1)] 30 (0, 0))) := ⟨by (with_reducible repeat (first | refine blk_drewN ?_ _ | refine blk_drew ?_ | refine blk_alloc ?_ _)); refine blk_put (cs := #[.int .i64 ((rd_T30 l0 x13_1).f0), .int .i64 0]) ?_ 1 _ rfl; (with_reducible repeat (first | refine blk_drewN ?_ _ | refine blk_drew ?_ | refine blk_alloc ?_ _)); refine blk_put (cs := #[.int .i64 0, .int .i64 0]) ?_ 0 _ rfl; (with_reducible repeat (first | refine blk_drewN ?_ _ | refine blk_drew ?_ | refine blk_alloc ?_ _)); exact BK102.out⟩
        have n3_ : Aside0 (Below w.heap.size w ((w7.setCell ⟨gb102, 0, none⟩ (.int .i64 ((rd_T30 l0 x13_1).f0))).setCell ⟨gb102, 1, none⟩ (.int .i64 ((rd_T30 l0 x13_1).f1)))) := ⟨by repeat (first | (with_reducible first | exact HB.out | apply below_alloc | apply pw_below_drewN | apply below_drew1 | refine below_set ?_ GE102.out) | exact HB.out)⟩
        (try clear HO_5)
        (try clear HO_6)
        (try clear BK102)
        (try clear HB)
        generalize ((w7.setCell ⟨gb102, 0, none⟩ (.int .i64 ((rd_T30 l0 x13_1).f0))).setCell ⟨gb102, 1, none⟩ (.int .i64 ((rd_T30 l0 x13_1).f1))) = w11 at n0_ n1_ n2_ n3_ ⊢
        have HO_5 := n0_
        have HO_6 := n1_
        have BK102 := n2_
        have HB := n3_
        clear n0_ n1_ n2_ n3_
        have n0_ := Aside0.mk (Kd.R_drew HO_5.out)
        have n1_ := Aside0.mk (Kd.R_drew HO_6.out)
        have n2_ := Aside0.mk (blk_drew BK102.out)
        have n3_ := Aside0.mk (below_drew1 HB.out)
        clear HO_5
        clear HO_6
        clear BK102
        clear HB
        have HO_5 := n0_
        have HO_6 := n1_
        have BK102 := n2_
        have HB := n3_
        clear n0_ n1_ n2_ n3_
        refine start_ (n := 12) (S := fun w' => w'.cell? ⟨gb102, 0, none⟩ = some (.int .i64 ((rd_T30 l0 x13_1).f0)) ∧ w'.cell? ⟨gb102, 1, none⟩ = some (.int .i64 ((rd_T30 l0 x13_1).f1))) (ds := []) #[false, false, false, false, false, false, false, false, false, false, false, false] (by kernel_rfl) rfl rfl ⟨(blk_cell BK102.out 0).trans rfl, (blk_cell BK102.out 1).trans rfl⟩ (fun hHeld => ?_); refine with_tabW pairs_Unzip_int64.tab6 pairs_Unzip_int64.bits6 (fun HT_ HW_ => ?_)
        generalize w11.drew = w12 at HO_5 HO_6 BK102 HB hHeld ⊢
        refine pure_ (i := 0) (N := some 17) (v := ?_) (a' := ?_) #[true, false, false, false, false, false, false, false, false, false, false, false] rfl rfl (any_of HT_.out (by kernel_rfl)) (fun _ _ _ h => h) (Or.inl ⟨by rfl, ?_⟩) ?_ ?_
        rotate_left
        ·intro w'
         go_simp
         with_reducible rfl
        rotate_left
        ·simp only [Act.put, List.setIfInBounds_toArray, List.set_cons_zero, List.set_cons_succ, i64_w, i32_w]
         rfl
        refine pure_ (i := 1) (N := some 18) (v := ?_) (a' := ?_) #[true, true, false, false, false, false, false, false, false, false, false, false] rfl rfl (any_of HT_.out (by kernel_rfl)) (fun _ _ _ h => h) (Or.inl ⟨by rfl, ?_⟩) ?_ ?_
        rotate_left
        ·intro w'
         go_simp
         with_reducible rfl
        rotate_left
        ·simp only [Act.put, List.setIfInBounds_toArray, List.set_cons_zero, List.set_cons_succ, i64_w, i32_w]
         rfl
        refine pure_ (i := 5) (N := some 22) (v := ?_) (a' := ?_) #[true, true, false, false, false, true, false, false, false, false, false, false] rfl rfl (any_of HT_.out (by kernel_rfl)) (fun _ _ _ h => h) (Or.inl ⟨by rfl, ?_⟩) ?_ ?_
        rotate_left
        ·intro w'
         go_simp
         with_reducible rfl
        rotate_left
        ·simp only [Act.put, List.setIfInBounds_toArray, List.set_cons_zero, List.set_cons_succ, i64_w, i32_w]
         rfl
        refine pure_ (i := 6) (N := some 23) (v := ?_) (a' := ?_) #[true, true, false, false, false, true, true, false, false, false, false, false] rfl rfl (any_of HT_.out (by kernel_rfl)) (fun _ _ _ h => h) (Or.inl ⟨by rfl, ?_⟩) ?_ ?_
        rotate_left
        ·intro w'
         go_simp
         with_reducible rfl
        rotate_left
        ·simp only [Act.put, List.setIfInBounds_toArray, List.set_cons_zero, List.set_cons_succ, i64_w, i32_w]
         rfl
        refine take_ (i := 2) (N := some 19) (v := ?_) (a' := ?_) #[true, true, true, false, false, true, true, false, false, false, false, false] rfl rfl (take_ofW HT_.out HW_.out (by kernel_rfl)) (fun _ _ _ h => h) (Or.inl ⟨by rfl, ?_⟩) hHeld ?_ ?_
        rotate_left
        ·rintro w' ⟨s0, s1⟩
         go_simp
         with_reducible rfl
        rotate_left
        ·simp only [Act.put, List.setIfInBounds_toArray, List.set_cons_zero, List.set_cons_succ, i64_w, i32_w]
         rfl
        refine take_ (i := 7) (N := some 24) (v := ?_) (a' := ?_) #[true, true, true, false, false, true, true, true, false, false, false, false] rfl rfl (take_ofW HT_.out HW_.out (by kernel_rfl)) (fun _ _ _ h => h) (Or.inl ⟨by rfl, ?_⟩) hHeld ?_ ?_
        rotate_left
        ·rintro w' ⟨s0, s1⟩
         go_simp
         with_reducible rfl
        rotate_left
        ·simp only [Act.put, List.setIfInBounds_toArray, List.set_cons_zero, List.set_cons_succ, i64_w, i32_w]
         rfl
        refine join_ (σ := Value × Value × Value) 3 #[true, true, true, true, true, true, true, true, true, false, false, false] (fun s_ => [(20, s_.1), (21, s_.2.1), (25, s_.2.2)]) (fun s_ w' => (w'.cell? ⟨gb102, 0, none⟩ = some (.int .i64 ((rd_T30 l0 x13_1).f0)) ∧ w'.cell? ⟨gb102, 1, none⟩ = some (.int .i64 ((rd_T30 l0 x13_1).f1))) ∧ (Kd.R (Kd.int .i64) 3 w' w.heap.size (fun k_ => some k_ ≠ (s_.2.1 : Value).ownBlock) s_.1 y103) ∧ (Kd.R (Kd.int .i64) 3 w' w.heap.size (fun k_ => some k_ ≠ (s_.1 : Value).ownBlock) s_.2.1 y106) ∧ (Kd.R (Kd.int .i64) 2 w' w.heap.size (fun k_ => some k_ ≠ (.slice Ao10 x6_1.length co10 : Value).ownBlock) s_.2.2 y109) ∧ (Kd.R (Kd.int .i64) 2 w' w.heap.size (fun k_ => some k_ ≠ (s_.2.2 : Value).ownBlock) (.slice Ao10 x6_1.length co10) x6_1) ∧ (w'.heap[gb102]? = some (.cells #[.int .i64 ((rd_T30 l0 x13_1).f0), .int .i64 ((rd_T30 l0 x13_1).f1)] 30 (0, 0))) ∧ (Below w.heap.size w w')) ?_ ?_
        rotate_left
        ·intro hCont
         refine two_ (i := 3) (j := 8) (Ni := some 20) (Nj := some 25) #[true, true, true, true, false, true, true, true, false, false, false, false] #[true, true, true, false, false, true, true, true, true, false, false, false] rfl rfl rfl rfl (two_of HT_.out (by kernel_rfl)) (by decide) (by decide) (fun K hK => ?_) (fun K hK => ?_)
         ·skip
          refine Kd.R_lit_step (Kd.int .i64) _ 3 ?hg (N := 20) ?hd (xs := ([(rd_T30 l0 x13_1).f0] : List Int)) (inner := [.int .i64 ((rd_T30 l0 x13_1).f0)]) (ok := fun _ => True) (okp := fun _ => True) ?hr ?hp (fun _ hk => hk) trivial (Below.refl _ _) (Nat.le_refl _) (by simp) ?_; (case hd => rfl); (case hg => rfl); (case hr => first | (go_simp; done) | (go_simp; rfl)); (case hp => exact (Reps.one (show Kd.M (Kd.int .i64) _ _ _ ((rd_T30 l0 x13_1).f0) [.int .i64 ((rd_T30 l0 x13_1).f0)] from rfl) (Reps.none _ _)))
          intro v104 w13 ho14 hb hg_ hnew_
          clear hg_ hnew_
          (first | rw [← Ny103.out] at ho14 | (simp only [Int.reduceToNat] at ho14; rw [← Ny103.out] at ho14))
          have n0_ := Aside0.mk (Kd.R_elder' (by (with_reducible repeat (first | apply Kd.R_alloc | apply Kd.R_drewN | apply Kd.R_drew)); exact HO_5.out) (Kd.R_base ho14) hb)
          have n1_ := Aside0.mk (Kd.R_below (by (with_reducible repeat (first | apply Kd.R_alloc | apply Kd.R_drewN | apply Kd.R_drew)); exact HO_6.out) hb)
          have n2_ := Aside0.mk (Kd.R_lower (Kd.R_new' ho14 (Kd.R_lt (by (with_reducible repeat (first | apply Kd.R_alloc | apply Kd.R_drewN | apply Kd.R_drew)); exact HO_5.out))) (below_size (by repeat (first | (with_reducible first | exact HB.out | apply below_alloc | apply pw_below_drewN | apply below_drew1 | refine below_set ?_ GE102.out) | exact HB.out))))
          have n3_ := Aside0.mk (blk_below (g := gb102) (o := .cells #[.int .i64 ((rd_T30 l0 x13_1).f0), .int .i64 ((rd_T30 l0 x13_1).f1)] 30 (0, 0)) (by (with_reducible repeat (first | refine blk_drewN ?_ _ | refine blk_drew ?_ | refine blk_alloc ?_ _)); exact BK102.out) hb)
          have n4_ := Aside0.mk (below_step (by repeat (first | (with_reducible first | exact HB.out | apply below_alloc | apply pw_below_drewN | apply below_drew1 | refine below_set ?_ GE102.out) | exact HB.out)) hb)
          clear HO_5
          clear HO_6
          clear BK102
          clear HB
          have HO_5 := n0_
          have HO_6 := n1_
          have HO105 := n2_
          have BK102 := n3_
          have HB := n4_
          clear n0_ n1_ n2_ n3_ n4_
          clear hb ho14
          obtain ⟨Ao16, co16, eo16⟩ := Kd.R_slice HO105.out
          (first | subst eo16 | (injection eo16 with f1_ f2_ f3_; have f4_ := f1_.symm; have f5_ := f3_.symm; clear f1_ f2_ f3_; subst f4_; subst f5_))
          refine hK.out _ _ ⟨(blk_cell BK102.out 0).trans rfl, (blk_cell BK102.out 1).trans rfl⟩ (fun hHeld => ?_)
          clear hK K
          refine norm_ (a' := ?_) ?_ ?_
          rotate_left
          ·show Act.put _ (some 20) _ = _
           simp only [Act.put, List.setIfInBounds_toArray, List.set_cons_zero, List.set_cons_succ, i64_w, i32_w]
           rfl
          refine two_ (i := 4) (j := 8) (Ni := some 21) (Nj := some 25) #[true, true, true, true, true, true, true, true, false, false, false, false] #[true, true, true, true, false, true, true, true, true, false, false, false] rfl rfl rfl rfl (two_of HT_.out (by kernel_rfl)) (by decide) (by decide) (fun K hK => ?_) (fun K hK => ?_)
          ·skip
           refine Kd.R_append_rows_step (Kd.int .i64) (w0 := w) w.heap.size (by rfl) (.tmp 17) (.tmp 20) 57 3 (.int .i64 0) 8 rfl Try.underlying57 info3 rfl (by decide) (by omega) (.slice Ao9 x5_1.length co9) x5_1 y103 _ _ _ (fun k_ => some k_ ≠ (.slice Ao16 y103.length co16 : Value).ownBlock) (fun _ => False) rfl rfl ?aO ?aR (fun _ _ h => h) (fun _ h => h.elim) ?aF ?aB ?aS ?aL ?_
           (case aR => repeat (first | exact (Kd.R_reads' HO105.out).2.2 | (with_reducible refine Kd.C_alloc ?_ _) | (with_reducible refine Kd.C_drewN ?_ _) | (with_reducible refine Kd.C_drew ?_)))
           (case aB => exact (by repeat (first | (with_reducible first | exact HB.out | apply below_alloc | apply pw_below_drewN | apply below_drew1 | refine below_set ?_ GE102.out) | exact HB.out)))
           (case aF => exact (fun k_ hk => Kd.fresh' (Kd.R_lt (by (with_reducible repeat (first | apply Kd.R_alloc | apply Kd.R_drewN | apply Kd.R_drew)); exact HO105.out)) k_ hk))
           (case aO => exact (by (with_reducible repeat (first | apply Kd.R_alloc | apply Kd.R_drewN | apply Kd.R_drew)); exact Kd.R_mono HO_5.out (fun _ hk => hk.2)))
           (case aS => exact (below_size (by repeat (first | (with_reducible first | exact HB.out | apply below_alloc | apply pw_below_drewN | apply below_drew1 | refine below_set ?_ GE102.out) | exact HB.out))))
           (case aL => have := LMc5.out; omega)
           intro v107 w15 ho hb hg hat
           rw [← Ny106.out] at ho
           have n0_ := Aside0.mk (Kd.R_over' (by (with_reducible repeat (first | apply Kd.R_alloc | apply Kd.R_drewN | apply Kd.R_drew)); exact HO_6.out) (Kd.R_typed (by (with_reducible repeat (first | apply Kd.R_alloc | apply Kd.R_drewN | apply Kd.R_drew)); exact HO_5.out)) (by decide) hg)
           have n1_ := Aside0.mk (blk_grown (g := gb102) (o := .cells #[.int .i64 ((rd_T30 l0 x13_1).f0), .int .i64 ((rd_T30 l0 x13_1).f1)] 30 (0, 0)) (by (with_reducible repeat (first | refine blk_drewN ?_ _ | refine blk_drew ?_ | refine blk_alloc ?_ _)); exact BK102.out) hg (Kd.R_ne HO_5.out BK102.out (by decide)))
           have n2_ := Aside0.mk (Kd.R_after (ok := (fun _ => True)) (by (with_reducible repeat (first | apply Kd.R_alloc | apply Kd.R_drewN | apply Kd.R_drew)); exact HO105.out) hg hat)
           have n3_ := Aside0.mk (hb)
           have n4_ := Aside0.mk (ho)
           clear HO_6
           clear BK102
           clear HO105
           clear HB
           clear HO_5
           have HO_6 := n0_
           have BK102 := n1_
           have HO105 := n2_
           have HB := n3_
           have HO108 := n4_
           clear n0_ n1_ n2_ n3_ n4_
           clear ho hb hg hat
           refine hK.out _ _ ⟨(blk_cell BK102.out 0).trans rfl, (blk_cell BK102.out 1).trans rfl⟩ (fun hHeld => ?_)
           clear hK K
           refine norm_ (a' := ?_) ?_ ?_
           rotate_left
           ·show Act.put _ (some 21) _ = _
            simp only [Act.put, List.setIfInBounds_toArray, List.set_cons_zero, List.set_cons_succ, i64_w, i32_w]
            rfl
           refine one_ (i := 8) (N := some 25) #[true, true, true, true, true, true, true, true, true, false, false, false] rfl rfl (one_of HT_.out (by kernel_rfl)) (by decide) (fun K hK => ?_)
           refine Kd.R_lit_step (Kd.int .i64) _ 2 ?hg (N := 25) ?hd (xs := ([(rd_T30 l0 x13_1).f1] : List Int)) (inner := [.int .i64 ((rd_T30 l0 x13_1).f1)]) (ok := fun _ => True) (okp := fun _ => True) ?hr ?hp (fun _ hk => hk) trivial (Below.refl _ _) (Nat.le_refl _) (by simp) ?_; (case hd => rfl); (case hg => rfl); (case hr => first | (go_simp; done) | (go_simp; rfl)); (case hp => exact (Reps.one (show Kd.M (Kd.int .i64) _ _ _ ((rd_T30 l0 x13_1).f1) [.int .i64 ((rd_T30 l0 x13_1).f1)] from rfl) (Reps.none _ _)))
           intro v110 w17 ho18 hb hg_ hnew_
           clear hg_ hnew_
           (first | rw [← Ny109.out] at ho18 | (simp only [Int.reduceToNat] at ho18; rw [← Ny109.out] at ho18))
           have n0_ := Aside0.mk (Kd.R_elder' (by (with_reducible repeat (first | apply Kd.R_alloc | apply Kd.R_drewN | apply Kd.R_drew)); exact HO_6.out) (Kd.R_base ho18) hb)
           have n1_ := Aside0.mk (Kd.R_below (by (with_reducible repeat (first | apply Kd.R_alloc | apply Kd.R_drewN | apply Kd.R_drew)); exact HO105.out) hb)
           have n2_ := Aside0.mk (Kd.R_below (by (with_reducible repeat (first | apply Kd.R_alloc | apply Kd.R_drewN | apply Kd.R_drew)); exact HO108.out) hb)
           have n3_ := Aside0.mk (Kd.R_lower (Kd.R_new' ho18 (Kd.R_lt (by (with_reducible repeat (first | apply Kd.R_alloc | apply Kd.R_drewN | apply Kd.R_drew)); exact HO_6.out))) (below_size (by repeat (first | (with_reducible first | exact HB.out | apply below_alloc | apply pw_below_drewN | apply below_drew1 | refine below_set ?_ GE102.out) | exact HB.out))))
           have n4_ := Aside0.mk (blk_below (g := gb102) (o := .cells #[.int .i64 ((rd_T30 l0 x13_1).f0), .int .i64 ((rd_T30 l0 x13_1).f1)] 30 (0, 0)) (by (with_reducible repeat (first | refine blk_drewN ?_ _ | refine blk_drew ?_ | refine blk_alloc ?_ _)); exact BK102.out) hb)
           have n5_ := Aside0.mk (below_step (by repeat (first | (with_reducible first | exact HB.out | apply below_alloc | apply pw_below_drewN | apply below_drew1 | refine below_set ?_ GE102.out) | exact HB.out)) hb)
           clear HO_6
           clear HO105
           clear HO108
           clear BK102
           clear HB
           have HO_6 := n0_
           have HO105 := n1_
           have HO108 := n2_
           have HO111 := n3_
           have BK102 := n4_
           have HB := n5_
           clear n0_ n1_ n2_ n3_ n4_ n5_
           clear hb ho18
           refine hK.out _ _ ⟨(blk_cell BK102.out 0).trans rfl, (blk_cell BK102.out 1).trans rfl⟩ (fun hHeld => ?_)
           clear hK K
           refine norm_ (a' := ?_) ?_ ?_
           rotate_left
           ·show Act.put _ (some 25) _ = _
            simp only [Act.put, List.setIfInBounds_toArray, List.set_cons_zero, List.set_cons_succ, i64_w, i32_w]
            rfl
           exact norm_ (by simp only [putAll, Act.put, List.setIfInBounds_toArray, List.set_cons_zero, List.set_cons_succ]) (hCont (.slice Ao16 y103.length co16, v107, v110) _ ⟨hHeld, (by (with_reducible repeat (first | apply Kd.R_alloc | apply Kd.R_drewN | apply Kd.R_drew)); exact Kd.R_mono HO105.out (fun _ hk => hk.2)), (by (with_reducible repeat (first | apply Kd.R_alloc | apply Kd.R_drewN | apply Kd.R_drew)); exact HO108.out), (by (with_reducible repeat (first | apply Kd.R_alloc | apply Kd.R_drewN | apply Kd.R_drew)); exact Kd.R_mono HO111.out (fun _ hk => hk.2)), (by (with_reducible repeat (first | apply Kd.R_alloc | apply Kd.R_drewN | apply Kd.R_drew)); exact Kd.R_mono HO_6.out (fun _ hk => hk.2)), (by (with_reducible repeat (first | refine blk_drewN ?_ _ | refine blk_drew ?_ | refine blk_alloc ?_ _)); exact BK102.out), (by repeat (first | (with_reducible first | exact HB.out | apply below_alloc | apply pw_below_drewN | apply below_drew1 | refine below_set ?_ GE102.out) | exact HB.out))⟩)
          ·skip
           refine Kd.R_lit_step (Kd.int .i64) _ 2 ?hg (N := 25) ?hd (xs := ([(rd_T30 l0 x13_1).f1] : List Int)) (inner := [.int .i64 ((rd_T30 l0 x13_1).f1)]) (ok := fun _ => True) (okp := fun _ => True) ?hr ?hp (fun _ hk => hk) trivial (Below.refl _ _) (Nat.le_refl _) (by simp) ?_; (case hd => rfl); (case hg => rfl); (case hr => first | (go_simp; done) | (go_simp; rfl)); (case hp => exact (Reps.one (show Kd.M (Kd.int .i64) _ _ _ ((rd_T30 l0 x13_1).f1) [.int .i64 ((rd_T30 l0 x13_1).f1)] from rfl) (Reps.none _ _)))
           intro v110 w15 ho16 hb hg_ hnew_
           clear hg_ hnew_
           (first | rw [← Ny109.out] at ho16 | (simp only [Int.reduceToNat] at ho16; rw [← Ny109.out] at ho16))
           have n0_ := Aside0.mk (Kd.R_below (by (with_reducible repeat (first | apply Kd.R_alloc | apply Kd.R_drewN | apply Kd.R_drew)); exact HO_5.out) hb)
           have n1_ := Aside0.mk (Kd.R_elder' (by (with_reducible repeat (first | apply Kd.R_alloc | apply Kd.R_drewN | apply Kd.R_drew)); exact HO_6.out) (Kd.R_base ho16) hb)
           have n2_ := Aside0.mk (Kd.R_below (by (with_reducible repeat (first | apply Kd.R_alloc | apply Kd.R_drewN | apply Kd.R_drew)); exact HO105.out) hb)
           have n3_ := Aside0.mk (Kd.R_lower (Kd.R_new' ho16 (Kd.R_lt (by (with_reducible repeat (first | apply Kd.R_alloc | apply Kd.R_drewN | apply Kd.R_drew)); exact HO_6.out))) (below_size (by repeat (first | (with_reducible first | exact HB.out | apply below_alloc | apply pw_below_drewN | apply below_drew1 | refine below_set ?_ GE102.out) | exact HB.out))))
           have n4_ := Aside0.mk (blk_below (g := gb102) (o := .cells #[.int .i64 ((rd_T30 l0 x13_1).f0), .int .i64 ((rd_T30 l0 x13_1).f1)] 30 (0, 0)) (by (with_reducible repeat (first | refine blk_drewN ?_ _ | refine blk_drew ?_ | refine blk_alloc ?_ _)); exact BK102.out) hb)
           have n5_ := Aside0.mk (below_step (by repeat (first | (with_reducible first | exact HB.out | apply below_alloc | apply pw_below_drewN | apply below_drew1 | refine below_set ?_ GE102.out) | exact HB.out)) hb)
           clear HO_5
           clear HO_6
           clear HO105
           clear BK102
           clear HB
           have HO_5 := n0_
           have HO_6 := n1_
           have HO105 := n2_
           have HO111 := n3_
           have BK102 := n4_
           have HB := n5_
           clear n0_ n1_ n2_ n3_ n4_ n5_
           clear hb ho16
           obtain ⟨Ao18, co18, eo18⟩ := Kd.R_slice HO105.out
           (first | subst eo18 | (injection eo18 with f1_ f2_ f3_; have f4_ := f1_.symm; have f5_ := f3_.symm; clear f1_ f2_ f3_; subst f4_; subst f5_))
           refine hK.out _ _ ⟨(blk_cell BK102.out 0).trans rfl, (blk_cell BK102.out 1).trans rfl⟩ (fun hHeld => ?_)
           clear hK K
           refine norm_ (a' := ?_) ?_ ?_
           rotate_left
           ·show Act.put _ (some 25) _ = _
            simp only [Act.put, List.setIfInBounds_toArray, List.set_cons_zero, List.set_cons_succ, i64_w, i32_w]
            rfl
           refine one_ (i := 4) (N := some 21) #[true, true, true, true, true, true, true, true, true, false, false, false] rfl rfl (one_of HT_.out (by kernel_rfl)) (by decide) (fun K hK => ?_)
           refine Kd.R_append_rows_step (Kd.int .i64) (w0 := w) w.heap.size (by rfl) (.tmp 17) (.tmp 20) 57 3 (.int .i64 0) 8 rfl Try.underlying57 info3 rfl (by decide) (by omega) (.slice Ao9 x5_1.length co9) x5_1 y103 _ _ _ (fun k_ => some k_ ≠ (.slice Ao18 y103.length co18 : Value).ownBlock) (fun _ => False) rfl rfl ?aO ?aR (fun _ _ h => h) (fun _ h => h.elim) ?aF ?aB ?aS ?aL ?_
           (case aR => repeat (first | exact (Kd.R_reads' HO105.out).2.2 | (with_reducible refine Kd.C_alloc ?_ _) | (with_reducible refine Kd.C_drewN ?_ _) | (with_reducible refine Kd.C_drew ?_)))
           (case aB => exact (by repeat (first | (with_reducible first | exact HB.out | apply below_alloc | apply pw_below_drewN | apply below_drew1 | refine below_set ?_ GE102.out) | exact HB.out)))
           (case aF => exact (fun k_ hk => Kd.fresh' (Kd.R_lt (by (with_reducible repeat (first | apply Kd.R_alloc | apply Kd.R_drewN | apply Kd.R_drew)); exact HO105.out)) k_ hk))
           (case aO => exact (by (with_reducible repeat (first | apply Kd.R_alloc | apply Kd.R_drewN | apply Kd.R_drew)); exact Kd.R_mono HO_5.out (fun _ hk => hk.2)))
           (case aS => exact (below_size (by repeat (first | (with_reducible first | exact HB.out | apply below_alloc | apply pw_below_drewN | apply below_drew1 | refine below_set ?_ GE102.out) | exact HB.out))))
           (case aL => have := LMc5.out; omega)
           intro v107 w17 ho hb hg hat
           rw [← Ny106.out] at ho
           have n0_ := Aside0.mk (Kd.R_over' (by (with_reducible repeat (first | apply Kd.R_alloc | apply Kd.R_drewN | apply Kd.R_drew)); exact HO_6.out) (Kd.R_typed (by (with_reducible repeat (first | apply Kd.R_alloc | apply Kd.R_drewN | apply Kd.R_drew)); exact HO_5.out)) (by decide) hg)
           have n1_ := Aside0.mk (blk_grown (g := gb102) (o := .cells #[.int .i64 ((rd_T30 l0 x13_1).f0), .int .i64 ((rd_T30 l0 x13_1).f1)] 30 (0, 0)) (by (with_reducible repeat (first | refine blk_drewN ?_ _ | refine blk_drew ?_ | refine blk_alloc ?_ _)); exact BK102.out) hg (Kd.R_ne HO_5.out BK102.out (by decide)))
           have n2_ := Aside0.mk (Kd.R_after (ok := (fun _ => True)) (by (with_reducible repeat (first | apply Kd.R_alloc | apply Kd.R_drewN | apply Kd.R_drew)); exact HO105.out) hg hat)
           have n3_ := Aside0.mk (Kd.R_over' (by (with_reducible repeat (first | apply Kd.R_alloc | apply Kd.R_drewN | apply Kd.R_drew)); exact HO111.out) (Kd.R_typed (by (with_reducible repeat (first | apply Kd.R_alloc | apply Kd.R_drewN | apply Kd.R_drew)); exact HO_5.out)) (by decide) hg)
           have n4_ := Aside0.mk (hb)
           have n5_ := Aside0.mk (ho)
           clear HO_6
           clear BK102
           clear HO105
           clear HO111
           clear HB
           clear HO_5
           have HO_6 := n0_
           have BK102 := n1_
           have HO105 := n2_
           have HO111 := n3_
           have HB := n4_
           have HO108 := n5_
           clear n0_ n1_ n2_ n3_ n4_ n5_
           clear ho hb hg hat
           refine hK.out _ _ ⟨(blk_cell BK102.out 0).trans rfl, (blk_cell BK102.out 1).trans rfl⟩ (fun hHeld => ?_)
           clear hK K
           refine norm_ (a' := ?_) ?_ ?_
           rotate_left
           ·show Act.put _ (some 21) _ = _
            simp only [Act.put, List.setIfInBounds_toArray, List.set_cons_zero, List.set_cons_succ, i64_w, i32_w]
            rfl
           exact norm_ (by simp only [putAll, Act.put, List.setIfInBounds_toArray, List.set_cons_zero, List.set_cons_succ]) (hCont (.slice Ao18 y103.length co18, v107, v110) _ ⟨hHeld, (by (with_reducible repeat (first | apply Kd.R_alloc | apply Kd.R_drewN | apply Kd.R_drew)); exact Kd.R_mono HO105.out (fun _ hk => hk.2)), (by (with_reducible repeat (first | apply Kd.R_alloc | apply Kd.R_drewN | apply Kd.R_drew)); exact HO108.out), (by (with_reducible repeat (first | apply Kd.R_alloc | apply Kd.R_drewN | apply Kd.R_drew)); exact Kd.R_mono HO111.out (fun _ hk => hk.2)), (by (with_reducible repeat (first | apply Kd.R_alloc | apply Kd.R_drewN | apply Kd.R_drew)); exact Kd.R_mono HO_6.out (fun _ hk => hk.2)), (by (with_reducible repeat (first | refine blk_drewN ?_ _ | refine blk_drew ?_ | refine blk_alloc ?_ _)); exact BK102.out), (by repeat (first | (with_reducible first | exact HB.out | apply below_alloc | apply pw_below_drewN | apply below_drew1 | refine below_set ?_ GE102.out) | exact HB.out))⟩)
         ·skip
          refine Kd.R_lit_step (Kd.int .i64) _ 2 ?hg (N := 25) ?hd (xs := ([(rd_T30 l0 x13_1).f1] : List Int)) (inner := [.int .i64 ((rd_T30 l0 x13_1).f1)]) (ok := fun _ => True) (okp := fun _ => True) ?hr ?hp (fun _ hk => hk) trivial (Below.refl _ _) (Nat.le_refl _) (by simp) ?_; (case hd => rfl); (case hg => rfl); (case hr => first | (go_simp; done) | (go_simp; rfl)); (case hp => exact (Reps.one (show Kd.M (Kd.int .i64) _ _ _ ((rd_T30 l0 x13_1).f1) [.int .i64 ((rd_T30 l0 x13_1).f1)] from rfl) (Reps.none _ _)))
          intro v110 w13 ho14 hb hg_ hnew_
          clear hg_ hnew_
          (first | rw [← Ny109.out] at ho14 | (simp only [Int.reduceToNat] at ho14; rw [← Ny109.out] at ho14))
          have n0_ := Aside0.mk (Kd.R_below (by (with_reducible repeat (first | apply Kd.R_alloc | apply Kd.R_drewN | apply Kd.R_drew)); exact HO_5.out) hb)
          have n1_ := Aside0.mk (Kd.R_elder' (by (with_reducible repeat (first | apply Kd.R_alloc | apply Kd.R_drewN | apply Kd.R_drew)); exact HO_6.out) (Kd.R_base ho14) hb)
          have n2_ := Aside0.mk (Kd.R_lower (Kd.R_new' ho14 (Kd.R_lt (by (with_reducible repeat (first | apply Kd.R_alloc | apply Kd.R_drewN | apply Kd.R_drew)); exact HO_6.out))) (below_size (by repeat (first | (with_reducible first | exact HB.out | apply below_alloc | apply pw_below_drewN | apply below_drew1 | refine below_set ?_ GE102.out) | exact HB.out))))
          have n3_ := Aside0.mk (blk_below (g := gb102) (o := .cells #[.int .i64 ((rd_T30 l0 x13_1).f0), .int .i64 ((rd_T30 l0 x13_1).f1)] 30 (0, 0)) (by (with_reducible repeat (first | refine blk_drewN ?_ _ | refine blk_drew ?_ | refine blk_alloc ?_ _)); exact BK102.out) hb)
          have n4_ := Aside0.mk (below_step (by repeat (first | (with_reducible first | exact HB.out | apply below_alloc | apply pw_below_drewN | apply below_drew1 | refine below_set ?_ GE102.out) | exact HB.out)) hb)
          clear HO_5
          clear HO_6
          clear BK102
          clear HB
          have HO_5 := n0_
          have HO_6 := n1_
          have HO111 := n2_
          have BK102 := n3_
          have HB := n4_
          clear n0_ n1_ n2_ n3_ n4_
          clear hb ho14
          refine hK.out _ _ ⟨(blk_cell BK102.out 0).trans rfl, (blk_cell BK102.out 1).trans rfl⟩ (fun hHeld => ?_)
          clear hK K
          refine norm_ (a' := ?_) ?_ ?_
          rotate_left
          ·show Act.put _ (some 25) _ = _
           simp only [Act.put, List.setIfInBounds_toArray, List.set_cons_zero, List.set_cons_succ, i64_w, i32_w]
           rfl
          refine one_ (i := 3) (N := some 20) #[true, true, true, true, false, true, true, true, true, false, false, false] rfl rfl (one_of HT_.out (by kernel_rfl)) (by decide) (fun K hK => ?_)
          refine Kd.R_lit_step (Kd.int .i64) _ 3 ?hg (N := 20) ?hd (xs := ([(rd_T30 l0 x13_1).f0] : List Int)) (inner := [.int .i64 ((rd_T30 l0 x13_1).f0)]) (ok := fun _ => True) (okp := fun _ => True) ?hr ?hp (fun _ hk => hk) trivial (Below.refl _ _) (Nat.le_refl _) (by simp) ?_; (case hd => rfl); (case hg => rfl); (case hr => first | (go_simp; done) | (go_simp; rfl)); (case hp => exact (Reps.one (show Kd.M (Kd.int .i64) _ _ _ ((rd_T30 l0 x13_1).f0) [.int .i64 ((rd_T30 l0 x13_1).f0)] from rfl) (Reps.none _ _)))
          intro v104 w15 ho16 hb hg_ hnew_
          clear hg_ hnew_
          (first | rw [← Ny103.out] at ho16 | (simp only [Int.reduceToNat] at ho16; rw [← Ny103.out] at ho16))
          have n0_ := Aside0.mk (Kd.R_elder' (by (with_reducible repeat (first | apply Kd.R_alloc | apply Kd.R_drewN | apply Kd.R_drew)); exact HO_5.out) (Kd.R_base ho16) hb)
          have n1_ := Aside0.mk (Kd.R_below (by (with_reducible repeat (first | apply Kd.R_alloc | apply Kd.R_drewN | apply Kd.R_drew)); exact HO_6.out) hb)
          have n2_ := Aside0.mk (Kd.R_below (by (with_reducible repeat (first | apply Kd.R_alloc | apply Kd.R_drewN | apply Kd.R_drew)); exact HO111.out) hb)
          have n3_ := Aside0.mk (Kd.R_lower (Kd.R_new' ho16 (Kd.R_lt (by (with_reducible repeat (first | apply Kd.R_alloc | apply Kd.R_drewN | apply Kd.R_drew)); exact HO_5.out))) (below_size (by repeat (first | (with_reducible first | exact HB.out | apply below_alloc | apply pw_below_drewN | apply below_drew1 | refine below_set ?_ GE102.out) | exact HB.out))))
          have n4_ := Aside0.mk (blk_below (g := gb102) (o := .cells #[.int .i64 ((rd_T30 l0 x13_1).f0), .int .i64 ((rd_T30 l0 x13_1).f1)] 30 (0, 0)) (by (with_reducible repeat (first | refine blk_drewN ?_ _ | refine blk_drew ?_ | refine blk_alloc ?_ _)); exact BK102.out) hb)
          have n5_ := Aside0.mk (below_step (by repeat (first | (with_reducible first | exact HB.out | apply below_alloc | apply pw_below_drewN | apply below_drew1 | refine below_set ?_ GE102.out) | exact HB.out)) hb)
          clear HO_5
          clear HO_6
          clear HO111
          clear BK102
          clear HB
          have HO_5 := n0_
          have HO_6 := n1_
          have HO111 := n2_
          have HO105 := n3_
          have BK102 := n4_
          have HB := n5_
          clear n0_ n1_ n2_ n3_ n4_ n5_
          clear hb ho16
          obtain ⟨Ao18, co18, eo18⟩ := Kd.R_slice HO105.out
          (first | subst eo18 | (injection eo18 with f1_ f2_ f3_; have f4_ := f1_.symm; have f5_ := f3_.symm; clear f1_ f2_ f3_; subst f4_; subst f5_))
          refine hK.out _ _ ⟨(blk_cell BK102.out 0).trans rfl, (blk_cell BK102.out 1).trans rfl⟩ (fun hHeld => ?_)
          clear hK K
          refine norm_ (a' := ?_) ?_ ?_
          rotate_left
          ·show Act.put _ (some 20) _ = _
           simp only [Act.put, List.setIfInBounds_toArray, List.set_cons_zero, List.set_cons_succ, i64_w, i32_w]
           rfl
          refine one_ (i := 4) (N := some 21) #[true, true, true, true, true, true, true, true, true, false, false, false] rfl rfl (one_of HT_.out (by kernel_rfl)) (by decide) (fun K hK => ?_)
          refine Kd.R_append_rows_step (Kd.int .i64) (w0 := w) w.heap.size (by rfl) (.tmp 17) (.tmp 20) 57 3 (.int .i64 0) 8 rfl Try.underlying57 info3 rfl (by decide) (by omega) (.slice Ao9 x5_1.length co9) x5_1 y103 _ _ _ (fun k_ => some k_ ≠ (.slice Ao18 y103.length co18 : Value).ownBlock) (fun _ => False) rfl rfl ?aO ?aR (fun _ _ h => h) (fun _ h => h.elim) ?aF ?aB ?aS ?aL ?_
          (case aR => repeat (first | exact (Kd.R_reads' HO105.out).2.2 | (with_reducible refine Kd.C_alloc ?_ _) | (with_reducible refine Kd.C_drewN ?_ _) | (with_reducible refine Kd.C_drew ?_)))
          (case aB => exact (by repeat (first | (with_reducible first | exact HB.out | apply below_alloc | apply pw_below_drewN | apply below_drew1 | refine below_set ?_ GE102.out) | exact HB.out)))
          (case aF => exact (fun k_ hk => Kd.fresh' (Kd.R_lt (by (with_reducible repeat (first | apply Kd.R_alloc | apply Kd.R_drewN | apply Kd.R_drew)); exact HO105.out)) k_ hk))
          (case aO => exact (by (with_reducible repeat (first | apply Kd.R_alloc | apply Kd.R_drewN | apply Kd.R_drew)); exact Kd.R_mono HO_5.out (fun _ hk => hk.2)))
          (case aS => exact (below_size (by repeat (first | (with_reducible first | exact HB.out | apply below_alloc | apply pw_below_drewN | apply below_drew1 | refine below_set ?_ GE102.out) | exact HB.out))))
          (case aL => have := LMc5.out; omega)
          intro v107 w17 ho hb hg hat
          rw [← Ny106.out] at ho
          have n0_ := Aside0.mk (Kd.R_over' (by (with_reducible repeat (first | apply Kd.R_alloc | apply Kd.R_drewN | apply Kd.R_drew)); exact HO_6.out) (Kd.R_typed (by (with_reducible repeat (first | apply Kd.R_alloc | apply Kd.R_drewN | apply Kd.R_drew)); exact HO_5.out)) (by decide) hg)
          have n1_ := Aside0.mk (blk_grown (g := gb102) (o := .cells #[.int .i64 ((rd_T30 l0 x13_1).f0), .int .i64 ((rd_T30 l0 x13_1).f1)] 30 (0, 0)) (by (with_reducible repeat (first | refine blk_drewN ?_ _ | refine blk_drew ?_ | refine blk_alloc ?_ _)); exact BK102.out) hg (Kd.R_ne HO_5.out BK102.out (by decide)))
          have n2_ := Aside0.mk (Kd.R_over' (by (with_reducible repeat (first | apply Kd.R_alloc | apply Kd.R_drewN | apply Kd.R_drew)); exact HO111.out) (Kd.R_typed (by (with_reducible repeat (first | apply Kd.R_alloc | apply Kd.R_drewN | apply Kd.R_drew)); exact HO_5.out)) (by decide) hg)
          have n3_ := Aside0.mk (Kd.R_after (ok := (fun _ => True)) (by (with_reducible repeat (first | apply Kd.R_alloc | apply Kd.R_drewN | apply Kd.R_drew)); exact HO105.out) hg hat)
          have n4_ := Aside0.mk (hb)
          have n5_ := Aside0.mk (ho)
          clear HO_6
          clear BK102
          clear HO111
          clear HO105
          clear HB
          clear HO_5
          have HO_6 := n0_
          have BK102 := n1_
          have HO111 := n2_
          have HO105 := n3_
          have HB := n4_
          have HO108 := n5_
          clear n0_ n1_ n2_ n3_ n4_ n5_
          clear ho hb hg hat
          refine hK.out _ _ ⟨(blk_cell BK102.out 0).trans rfl, (blk_cell BK102.out 1).trans rfl⟩ (fun hHeld => ?_)
          clear hK K
          refine norm_ (a' := ?_) ?_ ?_
          rotate_left
          ·show Act.put _ (some 21) _ = _
           simp only [Act.put, List.setIfInBounds_toArray, List.set_cons_zero, List.set_cons_succ, i64_w, i32_w]
           rfl
          exact norm_ (by simp only [putAll, Act.put, List.setIfInBounds_toArray, List.set_cons_zero, List.set_cons_succ]) (hCont (.slice Ao18 y103.length co18, v107, v110) _ ⟨hHeld, (by (with_reducible repeat (first | apply Kd.R_alloc | apply Kd.R_drewN | apply Kd.R_drew)); exact Kd.R_mono HO105.out (fun _ hk => hk.2)), (by (with_reducible repeat (first | apply Kd.R_alloc | apply Kd.R_drewN | apply Kd.R_drew)); exact HO108.out), (by (with_reducible repeat (first | apply Kd.R_alloc | apply Kd.R_drewN | apply Kd.R_drew)); exact Kd.R_mono HO111.out (fun _ hk => hk.2)), (by (with_reducible repeat (first | apply Kd.R_alloc | apply Kd.R_drewN | apply Kd.R_drew)); exact Kd.R_mono HO_6.out (fun _ hk => hk.2)), (by (with_reducible repeat (first | refine blk_drewN ?_ _ | refine blk_drew ?_ | refine blk_alloc ?_ _)); exact BK102.out), (by repeat (first | (with_reducible first | exact HB.out | apply below_alloc | apply pw_below_drewN | apply below_drew1 | refine below_set ?_ GE102.out) | exact HB.out))⟩)
        rintro ⟨v104, v107, v110⟩ w19 ⟨hS_, h0_, h1_, h2_, h3_, h4_, h5_⟩
        have n0_ : Aside0 (Kd.R (Kd.int .i64) 3 w19 w.heap.size (fun k_ => some k_ ≠ (v107 : Value).ownBlock) v104 y103) := ⟨h0_⟩
        have n1_ : Aside0 (Kd.R (Kd.int .i64) 3 w19 w.heap.size (fun k_ => some k_ ≠ (v104 : Value).ownBlock) v107 y106) := ⟨h1_⟩
        have n2_ : Aside0 (Kd.R (Kd.int .i64) 2 w19 w.heap.size (fun k_ => some k_ ≠ (.slice Ao10 x6_1.length co10 : Value).ownBlock) v110 y109) := ⟨h2_⟩
        have n3_ : Aside0 (Kd.R (Kd.int .i64) 2 w19 w.heap.size (fun k_ => some k_ ≠ (v110 : Value).ownBlock) (.slice Ao10 x6_1.length co10) x6_1) := ⟨h3_⟩
        have n4_ : Aside0 (w19.heap[gb102]? = some (.cells #[.int .i64 ((rd_T30 l0 x13_1).f0), .int .i64 ((rd_T30 l0 x13_1).f1)] 30 (0, 0))) := ⟨h4_⟩
        have n5_ : Aside0 (Below w.heap.size w w19) := ⟨h5_⟩
        clear HO_5
        clear HO_6
        clear BK102
        clear HB
        clear h0_ h1_ h2_ h3_ h4_ h5_
        have HO105 := n0_
        have HO108 := n1_
        have HO111 := n2_
        have HO_6 := n3_
        have BK102 := n4_
        have HB := n5_
        clear n0_ n1_ n2_ n3_ n4_ n5_
        have hHeld : w19.cell? ⟨gb102, 0, none⟩ = some (.int .i64 ((rd_T30 l0 x13_1).f0)) ∧ w19.cell? ⟨gb102, 1, none⟩ = some (.int .i64 ((rd_T30 l0 x13_1).f1)) := hS_
        obtain ⟨Ao21, co21, eo21⟩ := Kd.R_slice HO111.out
        (first | subst eo21 | (injection eo21 with f1_ f2_ f3_; have f4_ := f1_.symm; have f5_ := f3_.symm; clear f1_ f2_ f3_; subst f4_; subst f5_))
        refine norm_ (a' := ?_) ?_ ?_
        rotate_left
        ·simp only [putAll, Act.put, List.setIfInBounds_toArray, List.set_cons_zero, List.set_cons_succ]
         rfl
        refine one_ (i := 9) (N := some 26) #[true, true, true, true, true, true, true, true, true, true, false, false] rfl rfl (one_of HT_.out (by kernel_rfl)) (by decide) (fun K hK => ?_)
        refine Kd.R_append_rows_step (Kd.int .i64) (w0 := w) w.heap.size (by rfl) (.tmp 22) (.tmp 25) 35 2 (.int .i64 0) 8 rfl Try.underlying35 info2 rfl (by decide) (by omega) (.slice Ao10 x6_1.length co10) x6_1 y109 _ _ _ (fun k_ => some k_ ≠ (.slice Ao21 y109.length co21 : Value).ownBlock) (fun _ => False) rfl rfl ?aO ?aR (fun _ _ h => h) (fun _ h => h.elim) ?aF ?aB ?aS ?aL ?_
        (case aR => repeat (first | exact (Kd.R_reads' HO111.out).2.2 | (with_reducible refine Kd.C_alloc ?_ _) | (with_reducible refine Kd.C_drewN ?_ _) | (with_reducible refine Kd.C_drew ?_)))
        (case aB => exact (by repeat (first | (with_reducible first | exact HB.out | apply below_alloc | apply pw_below_drewN | apply below_drew1 | refine below_set ?_ GE102.out) | exact HB.out)))
        (case aF => exact (fun k_ hk => Kd.fresh' (Kd.R_lt (by (with_reducible repeat (first | apply Kd.R_alloc | apply Kd.R_drewN | apply Kd.R_drew)); exact HO111.out)) k_ hk))
        (case aO => exact (by (with_reducible repeat (first | apply Kd.R_alloc | apply Kd.R_drewN | apply Kd.R_drew)); exact HO_6.out))
        (case aS => exact (below_size (by repeat (first | (with_reducible first | exact HB.out | apply below_alloc | apply pw_below_drewN | apply below_drew1 | refine below_set ?_ GE102.out) | exact HB.out))))
        (case aL => have := LMc6.out; omega)
        intro v113 w20 ho hb hg hat
        rw [← Ny112.out] at ho
        have n0_ := Aside0.mk (blk_grown (g := gb102) (o := .cells #[.int .i64 ((rd_T30 l0 x13_1).f0), .int .i64 ((rd_T30 l0 x13_1).f1)] 30 (0, 0)) (by (with_reducible repeat (first | refine blk_drewN ?_ _ | refine blk_drew ?_ | refine blk_alloc ?_ _)); exact BK102.out) hg (Kd.R_ne HO_6.out BK102.out (by decide)))
        have n1_ := Aside0.mk (Kd.R_over' (by (with_reducible repeat (first | apply Kd.R_alloc | apply Kd.R_drewN | apply Kd.R_drew)); exact HO105.out) (Kd.R_typed (by (with_reducible repeat (first | apply Kd.R_alloc | apply Kd.R_drewN | apply Kd.R_drew)); exact HO_6.out)) (by decide) hg)
        have n2_ := Aside0.mk (Kd.R_over' (by (with_reducible repeat (first | apply Kd.R_alloc | apply Kd.R_drewN | apply Kd.R_drew)); exact HO108.out) (Kd.R_typed (by (with_reducible repeat (first | apply Kd.R_alloc | apply Kd.R_drewN | apply Kd.R_drew)); exact HO_6.out)) (by decide) hg)
        have n3_ := Aside0.mk (Kd.R_after (ok := (fun _ => True)) (by (with_reducible repeat (first | apply Kd.R_alloc | apply Kd.R_drewN | apply Kd.R_drew)); exact Kd.R_mono HO111.out (fun _ hk => ⟨trivial, hk⟩)) hg hat)
        have n4_ := Aside0.mk (hb)
        have n5_ := Aside0.mk (ho)
        clear BK102
        clear HO105
        clear HO108
        clear HO111
        clear HB
        clear HO_6
        have BK102 := n0_
        have HO105 := n1_
        have HO108 := n2_
        have HO111 := n3_
        have HB := n4_
        have HO114 := n5_
        clear n0_ n1_ n2_ n3_ n4_ n5_
        clear ho hb hg hat
        refine hK.out _ _ ⟨(blk_cell BK102.out 0).trans rfl, (blk_cell BK102.out 1).trans rfl⟩ (fun hHeld => ?_)
        clear hK K
        refine norm_ (a' := ?_) ?_ ?_
        rotate_left
        ·show Act.put _ (some 26) _ = _
         simp only [Act.put, List.setIfInBounds_toArray, List.set_cons_zero, List.set_cons_succ, i64_w, i32_w]
         rfl
        refine pure_ (i := 10) (N := some 5) (v := ?_) (a' := ?_) #[true, true, true, true, true, true, true, true, true, true, true, false] rfl rfl (any_of HT_.out (by kernel_rfl)) (fun _ _ _ h => h) (Or.inl ⟨by rfl, ?_⟩) ?_ ?_
        rotate_left
        ·intro w'
         go_simp
         with_reducible rfl
        rotate_left
        ·simp only [Act.put, List.setIfInBounds_toArray, List.set_cons_zero, List.set_cons_succ, i64_w, i32_w]
         rfl
        refine pure_ (i := 11) (N := some 6) (v := ?_) (a' := ?_) #[true, true, true, true, true, true, true, true, true, true, true, true] rfl rfl (any_of HT_.out (by kernel_rfl)) (fun _ _ _ h => h) (Or.inl ⟨by rfl, ?_⟩) ?_ ?_
        rotate_left
        ·intro w'
         go_simp
         with_reducible rfl
        rotate_left
        ·simp only [Act.put, List.setIfInBounds_toArray, List.set_cons_zero, List.set_cons_succ, i64_w, i32_w]
         rfl
        refine done_ (done_of HT_.out (by kernel_rfl)) ?_
        try go_wp2
        go_roundg k1
        case measure => have := HK1.out; omega
        case rel => exact ⟨(y106), (y112), (wrap64 (x13_1 + 1)), (by first | rfl | (simp; done) | (simp [*]; done)), H', ⟨by have := HK1.out; omega⟩, ⟨by (with_reducible repeat (first | apply Kd.R_alloc | apply Kd.R_drewN | apply Kd.R_drew)); exact Kd.R_mono HO108.out (fun _ hk => trivial)⟩, ⟨by (with_reducible repeat (first | apply Kd.R_alloc | apply Kd.R_drewN | apply Kd.R_drew)); exact Kd.R_mono HO114.out (fun _ hk => trivial)⟩, ⟨by repeat (first | (with_reducible first | exact HB.out | apply below_alloc | apply pw_below_drewN | apply below_drew1 | refine below_set ?_ GE102.out) | exact HB.out)⟩⟩
       ·rw [if_neg c6] at H
        exact absurd H (by simp)
      ·rw [if_neg c5] at H
       exact absurd H (by simp)
     ·rw [if_neg c4] at H
      exact absurd H (by simp)
    ·rw [if_neg c3] at H
     exact absurd H (by simp)
   ·rw [if_neg c2] at H
    have c2b0 : decide (x13_1 < (l0.length : Int)) = false := decide_eq_false c2
    clear c2
    replace H := Option.bind_eq_some_iff.mp H
    obtain ⟨⟨t115, t116⟩, A220, H⟩ := H
    replace H : (if t116 = 0 then (some (t115, x6_1, 0)) else (some (([] : List (S108)), ([] : List Int), t116))) = some (r1, r2, r3) := H
    have A22 := Aside0.mk A220
    clear A220
    by_cases c23 : t116 = 0
    ·rw [if_pos c23] at H
     have c23b0 : (t116 == 0) = true := beq_iff_eq.mpr c23
     have c23b1 : (t116 != 0) = false := bne_eq_false_iff_eq.mpr c23
     clear c23
     simp only [Option.some.injEq, Prod.mk.injEq] at H
     obtain ⟨rfl, rfl, rfl⟩ := H
     obtain ⟨Ao24, co24, eo24⟩ := Kd.R_slice HO_5.out
     subst eo24
     go_wp2_with (first | ((with_reducible refine gate_callee (f := 122) rfl ?_); refine goesL_ (some 30) rfl rfl Try.func122 (by kernel_rfl) rfl #[.slice Ao24 x5_1.length co24] rfl (by (try simp only [List.map_toArray, List.map_cons, List.map_nil]); first | done | rfl | (simp only [List.length_drop, List.length_take]; rfl)) ?_; (with_reducible refine (span_From.calls k1 _ _ x5_1 t115 t116 _ ?side1 ?side2 A22.out).mono ?_); (case side1 => repeat (first | exact (Kd.R_reads' HO_5.out).2.2 | (with_reducible refine Kd.C_alloc ?_ _) | (with_reducible refine Kd.C_drewN ?_ _) | (with_reducible refine Kd.C_drew ?_))); (case side2 => exact (Kd.R_reads' HO_5.out).2.1); rintro e w25 ⟨v117, rfl, ho0, hb⟩; refine ⟨_, rfl, ?_⟩; have n0_ := Aside0.mk (Kd.R_below (by (with_reducible repeat (first | apply Kd.R_alloc | apply Kd.R_drewN | apply Kd.R_drew)); exact HO_5.out) hb); have n1_ := Aside0.mk (Kd.R_below (by (with_reducible repeat (first | apply Kd.R_alloc | apply Kd.R_drewN | apply Kd.R_drew)); exact HO_6.out) hb); have n2_ := Aside0.mk (Kd.R_lower ho0 (below_size (by repeat (first | (with_reducible first | exact HB.out | apply below_alloc | apply pw_below_drewN | apply below_drew1) | exact HB.out)))); have n3_ := Aside0.mk (below_step (by repeat (first | (with_reducible first | exact HB.out | apply below_alloc | apply pw_below_drewN | apply below_drew1) | exact HB.out)) hb); clear HO_5; clear HO_6; clear HB; have HO_5 := n0_; have HO_6 := n1_; have HO118 := n2_; have HB := n3_; clear n0_ n1_ n2_ n3_; (try clear hb); (try clear hb2); (try clear hk); (try clear hi); (try clear ho0); clear A22))
     go_ret3
     exact ⟨_, _, by first | rfl | (simp [errW_none, errW_some] <;> rfl) | (simp [*, errW_none, errW_some] <;> rfl), by (with_reducible repeat (first | apply Kd.R_alloc | apply Kd.R_drewN | apply Kd.R_drew)); exact HO118.out, by (with_reducible repeat (first | apply Kd.R_alloc | apply Kd.R_drewN | apply Kd.R_drew)); exact HO_6.out, by repeat (first | (with_reducible first | exact HB.out | apply below_alloc | apply pw_below_drewN | apply below_drew1) | exact HB.out)⟩
    ·rw [if_neg c23] at H
     have c23b0 : (t116 == 0) = false := beq_eq_false_iff_ne.mpr c23
     have c23b1 : (t116 != 0) = true := bne_iff_ne.mpr c23
     simp only [Option.some.injEq, Prod.mk.injEq] at H
     obtain ⟨rfl, rfl, rfl⟩ := H
     obtain ⟨Ao26, co26, eo26⟩ := Kd.R_slice HO_5.out
     subst eo26
     go_wp2_with (first | ((with_reducible refine gate_callee (f := 122) rfl ?_); refine goesL_ (some 30) rfl rfl Try.func122 (by kernel_rfl) rfl #[.slice Ao26 x5_1.length co26] rfl (by (try simp only [List.map_toArray, List.map_cons, List.map_nil]); first | done | rfl | (simp only [List.length_drop, List.length_take]; rfl)) ?_; (with_reducible refine (span_From.calls k1 _ _ x5_1 t115 t116 _ ?side1 ?side2 A22.out).mono ?_); (case side1 => repeat (first | exact (Kd.R_reads' HO_5.out).2.2 | (with_reducible refine Kd.C_alloc ?_ _) | (with_reducible refine Kd.C_drewN ?_ _) | (with_reducible refine Kd.C_drew ?_))); (case side2 => exact (Kd.R_reads' HO_5.out).2.1); rintro e w27 ⟨v117, rfl, ho0, hb⟩; refine ⟨_, rfl, ?_⟩; have n0_ := Aside0.mk (Kd.R_below (by (with_reducible repeat (first | apply Kd.R_alloc | apply Kd.R_drewN | apply Kd.R_drew)); exact HO_5.out) hb); have n1_ := Aside0.mk (Kd.R_below (by (with_reducible repeat (first | apply Kd.R_alloc | apply Kd.R_drewN | apply Kd.R_drew)); exact HO_6.out) hb); have n2_ := Aside0.mk (Kd.R_lower ho0 (below_size (by repeat (first | (with_reducible first | exact HB.out | apply below_alloc | apply pw_below_drewN | apply below_drew1) | exact HB.out)))); have n3_ := Aside0.mk (below_step (by repeat (first | (with_reducible first | exact HB.out | apply below_alloc | apply pw_below_drewN | apply below_drew1) | exact HB.out)) hb); clear HO_5; clear HO_6; clear HB; have HO_5 := n0_; have HO_6 := n1_; have HO118 := n2_; have HB := n3_; clear n0_ n1_ n2_ n3_; (try clear hb); (try clear hb2); (try clear hk); (try clear hi); (try clear ho0); clear A22))
     go_ret3
     exact ⟨_, _, by first | rfl | (simp [errW_none, errW_some] <;> rfl) | (simp [*, errW_none, errW_some] <;> rfl), by first | exact Kd.R_nil _ _ _ _ _ | exact Kd.N_nil _ _ _ _ _ | exact Kd.V_nil _ _ _ _ _ | exact Kd.Q_nil _ _ _ _ _ | exact Kd.S_nil _ _ _ _ _, by first | exact Kd.R_nil _ _ _ _ _ | exact Kd.N_nil _ _ _ _ _ | exact Kd.V_nil _ _ _ _ _ | exact Kd.Q_nil _ _ _ _ _ | exact Kd.S_nil _ _ _ _ _, by repeat (first | (with_reducible first | exact HB.out | apply below_alloc | apply pw_below_drewN | apply below_drew1) | exact HB.out)⟩
end Go.Proofs.Ytcabapilejagkaa.P
namespace Go.Proofs.Ytcabapilejagkaa.P
open Go.RowKit Go.Shelf Go.Proofs.YtcabapilejagkaaW.PrintWords Go.Proofs.YtcabapilejagkaaW.PrintLast Go.Proofs.YtcabapilejagkaaW.PrintMore
set_option linter.unusedVariables false
set_option linter.unusedSimpArgs false
def PredP_int64 (g : Nat) (cap : Array Value) (p : S30 → Bool) (w : World) : Prop :=
  ∀ (W : World) (x : S30), Below w.heap.size w W → Calls Try.prog g (#[.agg #[.int .i64 x.f0, .int .i64 x.f1]] ++ cap) W fun e w' => e = .returned (.bool (p x)) ∧ Below W.heap.size W w'
theorem rd_nat_int64 (l : List S30) (i : Nat) (h : i < l.length) : rd_T30 l (i : Int) = l[i] := by
  unfold rd_T30; simp [List.getD, h]
set_option maxHeartbeats 2000000 in
theorem indexFunc_pairs_int64 (g : Nat) (cap : Array Value) (p : S30 → Bool) (A : Option Addr) (c : Nat) (l : List S30) (w : World)
    (hr : Kd.C k30 w A l.length l) (hc : l.length ≤ c) (hm : l.length ≤ 9223372036854775807) (hp : PredP_int64 g cap p w) (eg : ∀ args w, (callFunc g args).run Try.prog w = .ok (.enter g args) w) :
    Calls Try.prog 126 #[.slice A l.length c, .func (.func g) #[] cap] w fun e w' => e = .returned (.int .i64 (idxP p l)) ∧ Below w.heap.size w w' := by
  have hu := Try.underlying30
  have HR := Aside0.mk hr
  have HP := Aside0.mk hp
  clear hr hp
  go_enter Try.func126, Try.ntmps126
  go_wp2
  go_loopg [5, 8] l.length (fun gg _ s8 wr => ∃ kk : Nat, kk ≤ l.length ∧ l.length - kk ≤ gg ∧ s8 = .int .i64 kk ∧ Aside0 (Below w.heap.size w wr) ∧ Aside0 (∀ j (hj : j < kk) (hj2 : j < l.length), p l[j] = false))
  case atStart => exact ⟨0, Nat.zero_le _, by omega, rfl, ⟨Below.refl _ w⟩, ⟨fun j hj => absurd hj (Nat.not_lt_zero _)⟩⟩
  case round =>
    obtain ⟨kk, hkk, hg, rfl, HB, HA⟩ := hrel
    by_cases hlt : kk < l.length
    · have hlti : (kk : Int) < (l.length : Int) := by omega
      obtain ⟨ad, e1, hx0, hx1⟩ := at_T30 HR.out kk (by omega) (by omega)
      cases e1
      replace hx0 := (HB.out.cell (World.block_lt_of_cell? w _ hx0)).trans hx0
      replace hx1 := (HB.out.cell (World.block_lt_of_cell? w _ hx1)).trans hx1
      rw [rd_nat_int64 l kk hlt, Int.toNat_natCast] at hx0 hx1
      have hcall := HP.out wr l[kk] HB.out
      generalize hy : l[kk] = y at hx0 hx1 hcall
      have HY := Aside0.mk hy
      clear hy
      cases hq : p y with
      | true =>
        rw [hq] at hcall
        have HQ := Aside0.mk hq
        clear hq
        have HC := Aside0.mk hcall
        clear hcall
        go_wp2_with (go_at_fn g; refine HC.out.mono ?_; rintro e w' ⟨rfl, hb'⟩)
        go_ret
        refine ⟨?_, HB.out.trans (hb'.mono HB.out.size)⟩
        rw [idxP_hit p l kk hlt (by rw [HY.out]; exact HQ.out) (fun j hj => HA.out j hj (by omega))]; rfl
      | false =>
        rw [hq] at hcall
        have HQ := Aside0.mk hq
        clear hq
        have HC := Aside0.mk hcall
        clear hcall
        go_wp2_with (go_at_fn g; refine HC.out.mono ?_; rintro e w' ⟨rfl, hb'⟩)
        go_roundg (l.length - (kk + 1))
        case measure => omega
        case rel =>
          refine ⟨kk + 1, by omega, by omega, by go_num, ⟨HB.out.trans (hb'.mono HB.out.size)⟩, ⟨fun j hj hj2 => ?_⟩⟩
          by_cases e : j = kk
          · subst e
            rw [HY.out]; exact HQ.out
          · exact HA.out j (by omega) hj2
    · have hlti : ¬ (kk : Int) < (l.length : Int) := by omega
      have hk : kk = l.length := by omega
      go_wp2
      go_ret
      refine ⟨?_, HB.out⟩
      rw [idxP_miss p l (fun j hj => HA.out j (by omega) hj)]; rfl
end Go.Proofs.Ytcabapilejagkaa.P
namespace Go.Proofs.Ytcabapilejagkaa.P
open Go.RowKit Go.Shelf Go.Proofs.YtcabapilejagkaaW.PrintWords Go.Proofs.YtcabapilejagkaaW.PrintLast Go.Proofs.YtcabapilejagkaaW.PrintMore
set_option linter.unusedVariables false
set_option linter.unusedSimpArgs false
set_option maxRecDepth 100000 in
theorem find1_any (W : World) (x : S30) (B : Nat) (pl : Int) (hc : W.cell? ⟨B, 0, none⟩ = some (.int .i64 pl)) :
    Calls Try.prog 127 #[.agg #[.int .i64 x.f0, .int .i64 x.f1], .pointer (some ⟨B, 0, none⟩)] W fun e w' => e = .returned (.bool (x.f0 == pl)) ∧ Below W.heap.size W w' := by
  have hu := Try.underlying30
  have hB : B < W.heap.size := World.block_lt_of_cell? W ⟨B, 0, none⟩ hc
  have hc2 : (W.alloc (.cells #[.int .i64 x.f0, .int .i64 x.f1] 30)).cell? ⟨B, 0, none⟩ = some (.int .i64 pl) := ((below_alloc (Below.refl _ _) _).cell (p := ⟨B, 0, none⟩) hB).trans hc
  go_enter Try.func127, Try.ntmps127
  go_wp2
  go_ret
  exact ⟨rfl, (Below.refl _ _).alloc (Nat.le_refl _) _⟩
def pairs_Find_int64.f (l0 : List S30) (a1 : Int) : Option (Int × Bool) :=
  if l0.length ≤ 9223372036854775807 then some (match l0.find? (fun x => x.f0 == a1) with | some x => (x.f1, true) | none => (0, false)) else none
set_option maxHeartbeats 2000000 in
set_option maxRecDepth 100000 in
theorem pairs_Find_int64.calls (A0 : Option Addr) (c0 : Nat) (l0 : List S30) (a1 : Int) (r1 : Int) (r2 : Bool) (w : World) (hr0 : Kd.C k30 w A0 l0.length l0) (hc0 : l0.length ≤ c0) (h : pairs_Find_int64.f l0 a1 = some (r1, r2)) :
    Calls Try.prog 68 #[.slice A0 l0.length c0, .int .i64 a1] w fun e w' => e = .returned (.tuple #[.int .i64 r1, .bool r2]) ∧ Below w.heap.size w w' := by
  have hu := Try.underlying30
  unfold pairs_Find_int64.f at h
  obtain ⟨hm, h2⟩ := of_ite_some h
  clear h
  have HI := find_idx (fun x : S30 => x.f0 == a1) l0
  have H1 := indexFunc_pairs_int64 127 #[.pointer (some ⟨w.heap.size, 0, none⟩)] (fun x => x.f0 == a1) A0 c0 l0 (w.alloc (.cells #[.int .i64 a1] 3))
    (Kd.C_below hr0 (below_alloc (Below.refl _ _) _)) hc0 hm
    (fun W x hb => find1_any W x w.heap.size a1 ((hb.cell (p := ⟨w.heap.size, 0, none⟩) (by simp)).trans (by simp)))
    (enters_of Try.func127 (by kernel_rfl) rfl)
  have HR := Aside0.mk hr0
  clear hr0
  have H := Aside0.mk h2
  clear h2
  generalize idxP (fun x : S30 => x.f0 == a1) l0 = ix at HI H1
  rcases HI with ⟨hx, hf⟩ | ⟨i, hi, hx, hf⟩
  · subst hx
    rw [hf] at H
    clear hf
    replace H1 := Aside0.mk H1
    go_enter Try.func68, Try.ntmps68
    go_wp2_with (go_at_call 126; refine H1.out.mono ?_; rintro e w' ⟨rfl, hb'⟩)
    go_ret2
    refine ⟨?_, ?_⟩
    · have h := H.out
      injection h with h1 h2
      subst h1; subst h2; rfl
    · exact below_then ((Below.refl _ _).alloc (Nat.le_refl _) _) (by simp) hb'
  · subst hx
    rw [hf] at H
    clear hf
    replace H1 := Aside0.mk H1
    have hi0 : (0 : Int) ≤ (i : Int) := by omega
    have hi1 : (i : Int) < (l0.length : Int) := by omega
    obtain ⟨ad, e1, hx0, hx1⟩ := at_T30 HR.out i (by omega) (by omega)
    cases e1
    rw [rd_nat_int64 l0 i hi, Int.toNat_natCast] at hx0 hx1
    have h := H.out
    injection h with h1 h2
    subst h1; subst h2
    clear H HR hm
    generalize l0[i] = y at hx0 hx1 ⊢
    have HX := Aside0.mk hx1
    clear hx0 hx1
    go_enter Try.func68, Try.ntmps68
    go_wp2_with (go_at_call 126; refine H1.out.mono ?_; rintro e w' ⟨rfl, hb'⟩; have hx1 := ((below_then ((Below.refl w.heap.size w).alloc (Nat.le_refl _) (.cells #[.int .i64 a1] 3)) (by simp) hb').cell (World.block_lt_of_cell? w _ HX.out)).trans HX.out)
    go_ret2
    exact ⟨rfl, below_then ((Below.refl _ _).alloc (Nat.le_refl _) _) (by simp) hb'⟩
end Go.Proofs.Ytcabapilejagkaa.P
namespace Go.Proofs.Ytcabapilejagkaa.P
open Go.RowKit Go.Shelf Go.Proofs.YtcabapilejagkaaW.PrintWords Go.Proofs.YtcabapilejagkaaW.PrintLast Go.Proofs.YtcabapilejagkaaW.PrintMore
set_option linter.unusedVariables false
set_option linter.unusedSimpArgs false
def slices_Clone_pair.f (l0 : List S30) : Option (List S30) := if l0.length < 8796093022208 then some l0 else none
set_option maxHeartbeats 2000000 in
set_option maxRecDepth 100000 in
theorem slices_Clone_pair.calls (A0 : Option Addr) (c0 : Nat) (l0 r : List S30) (w : World) (hr0 : Kd.C k30 w A0 l0.length l0) (hc0 : l0.length ≤ c0) (h : slices_Clone_pair.f l0 = some r) :
    Calls Try.prog 124 #[.slice A0 l0.length c0] w fun e w' => ∃ v0_ : Value, e = .returned (v0_) ∧ Kd.R k30 30 w' w.heap.size (fun _ => True) v0_ r ∧ Below w.heap.size w w' := by
  obtain ⟨hm, h2⟩ := of_ite_some h
  subst h2
  clear h
  have hu := Try.underlying22
  have HM := Aside0.mk hm
  clear hm
  cases A0 with
  | none =>
    have hl : l0 = [] := by
      rcases Nat.eq_zero_or_pos l0.length with h | h
      · exact List.length_eq_zero_iff.1 h
      · obtain ⟨ad, e, _⟩ := hr0.2.2 h
        cases e
    subst hl
    have hn : ∀ W n c, (binOp .eql 22 (.slice none n c) (.slice none 0 0)).run Try.prog W = .ok (.bool true) W := fun W n c => by
      exact Lib.run_eql_slice_nil W _ _ none n c 0 0 Try.underlying22
    go_enter Try.func124, Try.ntmps124
    go_wp2
    go_ret
    exact ⟨_, rfl, Kd.R_nil _ _ _ _ _, Below.refl _ _⟩
  | some ad =>
    have hn : ∀ W n c, (binOp .eql 22 (.slice (some ad) n c) (.slice none 0 0)).run Try.prog W = .ok (.bool false) W := fun W n c => by
      exact Lib.run_eql_slice_nil W _ _ (some ad) n c 0 0 Try.underlying22
    have HR := Aside0.mk hr0
    clear hr0
    go_enter Try.func124, Try.ntmps124
    go_wp2_with ((with_reducible refine gate_builtin (b := .append) (xs := #[.tmp 5, .tmp 6]) rfl ?_); at_builtin; refine Kd.R_append_rows k30 (w0 := w) (Rr := k30.K w) w.heap.size rfl (.tmp 5) (.tmp 6) 22 30 _ 16 rfl Try.underlying22 info30 rfl (by decide) (by omega) (.slice (some ⟨w.heap.size, 0, none⟩) 0 0) [] l0 (some ad) l0.length c0 (fun _ => True) (fun _ => False) rfl rfl ?aO ?aR ?aK (fun _ hk => hk.elim) (fun _ _ => trivial) ?aB ?aS ?aL ?_; (case aO => exact ⟨fun _ _ => trivial, [], ⟨rfl, .inr ⟨w.heap.size, 0, #[], rfl, Nat.le_refl _, by simpa using blk_new w _, Nat.le_refl _, by unfold maxLen; omega, rfl, rfl⟩⟩, Reps.none _ _⟩); (case aR => exact HR.out.imp_ (below_alloc (Below.refl _ _) _) (fun _ _ h => h)); (case aK => intro x cs hx; rw [k30_open hx]; exact k30_mkM _ _ _ x); (case aB => exact below_alloc (Below.refl _ _) _); (case aS => simp); (case aL => have := HM.out; simp; omega); intro v1 w1 ho hb hg hat; rw [List.nil_append] at ho; have HO := Aside0.mk ho; have HB := Aside0.mk hb; clear ho hb hg hat)
    go_ret
    exact ⟨_, rfl, HO.out, HB.out⟩
end Go.Proofs.Ytcabapilejagkaa.P
namespace Go.Proofs.Ytcabapilejagkaa.P
open Go.RowKit Go.Shelf Go.Proofs.YtcabapilejagkaaW.PrintWords Go.Proofs.YtcabapilejagkaaW.PrintLast Go.Proofs.YtcabapilejagkaaW.PrintMore
set_option linter.unusedVariables false
set_option linter.unusedSimpArgs false
theorem flat_int64 : ∀ w w1 base ok x cs, k30.M w base ok x cs → k30.M w1 base ok x cs := fun w w1 base ok x cs h => by
  rw [k30_openM h]; exact k30_mkM _ _ _ x
theorem zero_int64 (n : Nat) : (Builtin.zeroCells (Value.agg #[.int .i64 0, .int .i64 0]).cells n).toList.length = n * 2 ∧ ∀ v ∈ (Builtin.zeroCells (Value.agg #[.int .i64 0, .int .i64 0]).cells n).toList, v.oneCell' = true := by
  have hc : (Value.agg #[.int .i64 0, .int .i64 0]).cells = #[.int .i64 0, .int .i64 0] := by kernel_rfl
  rw [hc]
  refine ⟨by simp [Builtin.zeroCells], fun v hv => ?_⟩
  simp only [Builtin.zeroCells, Array.toList_map, List.mem_map] at hv
  obtain ⟨i, _, rfl⟩ := hv
  have : i % 2 = 0 ∨ i % 2 = 1 := by omega
  rcases this with h | h <;> simp [h] <;> rfl
set_option maxHeartbeats 4000000 in
set_option maxRecDepth 100000 in
theorem deleteFunc_int64 (g : Nat) (cap : Array Value) (p : S30 → Bool) (w0 w : World) (v : Value) (xs : List S30)
    (HO : Kd.R k30 30 w w0.heap.size (fun _ => True) v xs) (HB : Below w0.heap.size w0 w) (hp : PredP_int64 g cap p w0) (eg : ∀ args w, (callFunc g args).run Try.prog w = .ok (.enter g args) w) :
    Calls Try.prog 123 #[v, .func (.func g) #[] cap] w fun e w' => ∃ v' : Value, e = .returned v' ∧ Kd.R k30 30 w' w0.heap.size (fun _ => True) v' (xs.filter (fun x => !p x)) ∧ Below w0.heap.size w0 w' := by
  have hu := Try.underlying30
  obtain ⟨A, c, rfl, hlc, hC⟩ := Kd.R_reads HO
  have hm : xs.length ≤ 9223372036854775807 := hC.2.1
  have HI := indexFunc_pairs_int64 g cap p A c xs w hC hlc hm (fun W x hb => hp W x (below_then HB HB.size hb)) eg
  have HX := idxP_cases p xs
  have HP := Aside0.mk hp
  clear hp
  generalize idxP p xs = ix at HI HX
  rcases HX with ⟨rfl, hfil⟩ | ⟨i0, hi0, rfl, hhit, hbef⟩
  · rw [hfil]
    have HI := Aside0.mk HI
    have HO := Aside0.mk HO
    have HB := Aside0.mk HB
    clear hC hfil
    go_enter Try.func123, Try.ntmps123
    go_wp2_with (go_at_call 126; refine HI.out.mono ?_; rintro e w' ⟨rfl, hb'⟩)
    go_ret
    exact ⟨_, rfl, Kd.R_below HO.out hb', below_then HB.out HB.out.size hb'⟩
  · obtain ⟨gb, cp, hv, hbg, hgl, cells, hcells⟩ := Kd.R_form HO (by omega)
    injection hv with hA _ hcp
    subst hA; subst hcp
    have hne : (((i0 : Int)) == -1) = false := beq_eq_false_iff_ne.2 (by omega)
    have HS := DelInv.start hi0 hhit hbef
    have HI := Aside0.mk HI
    have HO := Aside0.mk HO
    have HB := Aside0.mk HB
    have HS := Aside0.mk HS
    have HM := Aside0.mk hm
    have hi0' : i0 + 1 ≤ xs.length := hi0
    clear hC hhit hbef hcells
    go_enter Try.func123, Try.ntmps123
    go_wp2_with (go_at_call 126; refine HI.out.mono ?_; rintro e w' ⟨rfl, hb'⟩; have HO1 := Aside0.mk (Kd.R_below HO.out hb'); have HB1 := Aside0.mk (below_then HB.out HB.out.size hb'); clear hb' HI HO HB)
    go_loopg [5, 6] xs.length (fun gg s5 s6 wr => ∃ (i j : Nat) (ys : List S30), s5 = .int .i64 i ∧ s6 = .int .i64 j ∧ j ≤ xs.length ∧ xs.length - j ≤ gg ∧ Aside0 (DelInv p xs i j ys) ∧ Aside0 (Kd.R k30 30 wr w0.heap.size (fun _ => True) (.slice (some ⟨gb, 0, none⟩) xs.length c) ys) ∧ Aside0 (Below w0.heap.size w0 wr))
    case atStart => exact ⟨i0, i0 + 1, xs, rfl, by go_num, by omega, by omega, HS, HO1, HB1⟩
    case round =>
      obtain ⟨i, j, ys, rfl, rfl, hj, hg, HD, HO, HB⟩ := hrel
      clear HS HO1 HB1
      have hlen := HD.out.len
      have hij := HD.out.lt
      by_cases hlt : j < xs.length
      · have hlti : (j : Int) < (xs.length : Int) := by omega
        have hii : (i : Int) < (xs.length : Int) := by omega
        obtain ⟨hj2, hyx⟩ := HD.out.at_ hlt
        have hC := (Kd.R_reads' HO.out).2.2
        obtain ⟨ad, e1, hx0, hx1⟩ := at_T30 hC j (by omega) (by omega)
        cases e1
        rw [rd_nat_int64 ys j hj2, Int.toNat_natCast, hyx] at hx0 hx1
        rw [add_plain] at hx0 hx1
        dsimp only at hx1
        have hcall := HP.out (wr.alloc (.cells #[.int .i64 xs[j].f0, .int .i64 xs[j].f1] 30)) xs[j] (below_then HB.out HB.out.size (below_alloc (Below.refl _ _) _))
        clear hC
        cases hq : p xs[j] with
        | true =>
          rw [hq] at hcall
          have HD' := Aside0.mk (HD.out.skip hlt hq)
          have HC := Aside0.mk hcall
          clear hcall hq hyx
          generalize xs[j] = y at hx0 hx1 HC
          go_wp2_with (go_at_fn g; refine HC.out.mono ?_; rintro e w' ⟨rfl, hb'⟩; have HB1 := Aside0.mk (below_then (below_then HB.out HB.out.size (below_alloc (Below.refl _ _) _)) (by have := HB.out.size; simp; omega) hb'); have HO1 := Aside0.mk (Kd.R_below (Kd.R_below HO.out (below_alloc (Below.refl _ _) _)) hb'); clear hb' HO HB)
          go_roundg (xs.length - (j + 1))
          case measure => omega
          case rel => exact ⟨i, j + 1, ys, rfl, by go_num, by omega, by omega, HD', HO1, HB1⟩
        | false =>
          rw [hq] at hcall
          have HD' := Aside0.mk (HD.out.keep hlt hq)
          have HC := Aside0.mk hcall
          clear hcall hq hyx
          generalize xs[j] = y at hx0 hx1 HC HD'
          go_wp2_with (first | (go_at_fn g; refine HC.out.mono ?_; rintro e w' ⟨rfl, hb'⟩; have hv0 : w'.cell? ⟨wr.heap.size, 0, none⟩ = some (.int .i64 y.f0) := (hb'.cell (p := ⟨wr.heap.size, 0, none⟩) (by simp)).trans (by simp); have hv1 : w'.cell? ⟨wr.heap.size, 1, none⟩ = some (.int .i64 y.f1) := (hb'.cell (p := ⟨wr.heap.size, 1, none⟩) (by simp)).trans (by simp); have HB1 := Aside0.mk (below_then (below_then HB.out HB.out.size (below_alloc (Below.refl _ _) _)) (by have := HB.out.size; simp; omega) hb'); have HO1 := Aside0.mk (Kd.R_below (Kd.R_below HO.out (below_alloc (Below.refl _ _) _)) hb'); clear hb' HO HB) | ((with_reducible refine gate_ (.store 30 (.tmp 33) (.tmp 32)) rfl ?_); obtain ⟨ce, hcl, hcM, hcc, hcf⟩ := Kd.R_elem HO1.out z30 (i : Int) (by omega) (by omega); refine Kd.R_store k30 (w0 := w0) w0.heap.size rfl rfl 30 (.tmp 33) (.tmp 32) rfl 30 (i : Int) 0 ys y (.agg #[.int .i64 y.f0, .int .i64 y.f1]) [.int .i64 y.f0, .int .i64 y.f1] ce (fun _ => True) (fun _ => False) (by first | rfl | simp) rfl rfl rfl (by kernel_rfl) (by intro q hq; simp at hq; rcases hq with rfl | rfl <;> rfl) HO1.out (by omega) (by omega) hcl hcc (by show 0 + 2 ≤ 2; omega) (by rw [show ce.drop (0 + [Value.int .i64 y.f0, Value.int .i64 y.f1].length) = [] from List.drop_eq_nil_of_le (by rw [hcl]; exact Nat.le_refl 2)]; exact k30_mkM _ _ _ y) (fun _ h => h.elim) HB1.out ?_; intro w1 ho hb hg; rw [Int.toNat_natCast] at ho; have HO2 := Aside0.mk ho; have HB2 := Aside0.mk hb; clear ho hb hg hcl hcM hcc hcf HO1 HB1))
          go_roundg (xs.length - (j + 1))
          case measure => omega
          case rel => exact ⟨i + 1, j + 1, ys.set i y, by go_num, by go_num, by omega, by omega, HD', HO2, HB2⟩
      · have hjx : j = xs.length := by omega
        subst hjx
        have hlti : ¬ (xs.length : Int) < (xs.length : Int) := by omega
        have hii : (i : Int) < (xs.length : Int) := by omega
        obtain ⟨inner, hown⟩ := Kd.R_own HO.out
        obtain ⟨cur, hcur, hcs, hnc⟩ : ∃ cur, wr.heap[gb]? = some (.cells cur 30 (0, 0)) ∧ cur.size = c * 2 ∧ xs.length ≤ c := by
          rcases hown.2 with ⟨hv, _⟩ | ⟨g', cap', cur, hv, hb, hh, hnc, hcm, hcs, ht⟩
          · cases hv
          · injection hv with ha _ hc
            injection ha with ha
            injection ha with hg'
            subst hg'; subst hc
            exact ⟨cur, hh, hcs, by omega⟩
        have hzl := zero_int64 (xs.length - i)
        have hpc := piece_there hcur (i * 2) (Builtin.zeroCells (Value.agg #[.int .i64 0, .int .i64 0]).cells (xs.length - i)).toList.length (by rw [hzl.1]; omega)
        have hcl : ∀ ty, (Builtin.clear_ #[22] ty #[.slice (some ⟨gb, i * 2, none⟩) (xs.length - i) (c - i)]).run Try.prog wr = .ok (.tuple #[]) (wr.setCells gb (i * 2) (Builtin.zeroCells (Value.agg #[.int .i64 0, .int .i64 0]).cells (xs.length - i)).toList) := fun ty =>
          run_clear_cells wr _ _ ty (Value.agg #[.int .i64 0, .int .i64 0]) Try.underlying22 (fun w => by kernel_rfl) gb (i * 2) _ _ (by omega) hzl.2 hpc.1 hpc.2
        have HF := Aside0.mk HD.out.done
        have HR2 : Aside0 (Kd.R k30 30 (wr.setCells gb (i * 2) (Builtin.zeroCells (Value.agg #[.int .i64 0, .int .i64 0]).cells (xs.length - i)).toList) w0.heap.size (fun _ => True) (.slice (some ⟨gb, 0, none⟩) i c) (ys.take i)) := ⟨R_beyond flat_int64 (Kd.R_take HO.out (by omega)) _ _ (by show i * 2 ≤ i * 2; omega) (by rw [hzl.1]; show i * 2 + (xs.length - i) * 2 ≤ c * 2; omega)⟩
        have HB2 : Aside0 (Below w0.heap.size w0 (wr.setCells gb (i * 2) (Builtin.zeroCells (Value.agg #[.int .i64 0, .int .i64 0]).cells (xs.length - i)).toList)) := ⟨by
          obtain ⟨h1, h2, h3, h4⟩ := setCells_same gb (Builtin.zeroCells (Value.agg #[.int .i64 0, .int .i64 0]).cells (xs.length - i)).toList (i * 2) wr
          refine HB.out.trans ⟨h1, h2, h3, by rw [h4]; exact Nat.le_refl _, fun k hk => setCells_far _ _ k (by omega)⟩⟩
        have hic : (c = i) = False := by simp; omega
        clear HO HB hpc hzl hcur hcs hown HD
        generalize (Builtin.zeroCells (Value.agg #[.int .i64 0, .int .i64 0]).cells (xs.length - i)).toList = seg at hcl HR2 HB2
        go_wp2
        go_ret
        exact ⟨_, rfl, by rw [← HF.out]; exact HR2.out, HB2.out⟩
set_option maxRecDepth 100000 in
theorem without1_int64 (W : World) (x : S30) (B : Nat) (pl : Int) (hc : W.cell? ⟨B, 0, none⟩ = some (.int .i64 pl)) :
    Calls Try.prog 125 #[.agg #[.int .i64 x.f0, .int .i64 x.f1], .pointer (some ⟨B, 0, none⟩)] W fun e w' => e = .returned (.bool (x.f1 == pl)) ∧ Below W.heap.size W w' := by
  have hu := Try.underlying30
  have hB : B < W.heap.size := World.block_lt_of_cell? W ⟨B, 0, none⟩ hc
  have hc2 : (W.alloc (.cells #[.int .i64 x.f0, .int .i64 x.f1] 30)).cell? ⟨B, 0, none⟩ = some (.int .i64 pl) := ((below_alloc (Below.refl _ _) _).cell (p := ⟨B, 0, none⟩) hB).trans hc
  go_enter Try.func125, Try.ntmps125
  go_wp2
  go_ret
  exact ⟨rfl, (Below.refl _ _).alloc (Nat.le_refl _) _⟩
def pairs_Without_int64.f (l0 : List S30) (a1 : Int) : Option (List S30) :=
  if l0.length < 8796093022208 then some (l0.filter (fun x => !(x.f1 == a1))) else none
set_option maxHeartbeats 2000000 in
set_option maxRecDepth 100000 in
theorem pairs_Without_int64.calls (A0 : Option Addr) (c0 : Nat) (l0 : List S30) (a1 : Int) (r : List S30) (w : World) (hr0 : Kd.C k30 w A0 l0.length l0) (hc0 : l0.length ≤ c0) (h : pairs_Without_int64.f l0 a1 = some r) :
    Calls Try.prog 67 #[.slice A0 l0.length c0, .int .i64 a1] w fun e w' => ∃ v0_ : Value, e = .returned (v0_) ∧ Kd.R k30 30 w' w.heap.size (fun _ => True) v0_ r ∧ Below w.heap.size w w' := by
  obtain ⟨hm, h2⟩ := of_ite_some h
  subst h2
  clear h
  have HC := Aside0.mk (slices_Clone_pair.calls A0 c0 l0 l0 (w.alloc (.cells #[.int .i64 a1] 2)) (Kd.C_below hr0 (below_alloc (Below.refl _ _) _)) hc0 (by unfold slices_Clone_pair.f; rw [if_pos hm]))
  have hp : PredP_int64 125 #[.pointer (some ⟨w.heap.size, 0, none⟩)] (fun x => x.f1 == a1) (w.alloc (.cells #[.int .i64 a1] 2)) :=
    fun W x hb => without1_int64 W x w.heap.size a1 ((hb.cell (p := ⟨w.heap.size, 0, none⟩) (by simp)).trans (by simp))
  have HD := Aside0.mk (fun w1 v ho hb => deleteFunc_int64 125 #[.pointer (some ⟨w.heap.size, 0, none⟩)] (fun x => x.f1 == a1) (w.alloc (.cells #[.int .i64 a1] 2)) w1 v l0 ho hb hp (enters_of Try.func125 (by kernel_rfl) rfl))
  clear hp hm hr0 hc0
  go_enter Try.func67, Try.ntmps67
  go_wp2_with (first | (go_at_call 124; refine HC.out.mono ?_; rintro e w' ⟨v, rfl, ho, hb⟩; have HO := Aside0.mk ho; have HB := Aside0.mk hb; clear ho hb HC) | (go_at_call 123; refine (HD.out _ _ HO.out HB.out).mono ?_; rintro e w' ⟨v', rfl, ho, hb⟩; have HO2 := Aside0.mk ho; have HB2 := Aside0.mk hb; clear ho hb HD))
  go_ret
  refine ⟨_, rfl, Kd.R_lower HO2.out (by simp), below_then (below_alloc (Below.refl _ _) _) (by simp) HB2.out⟩
end Go.Proofs.Ytcabapilejagkaa.P
namespace Go.Proofs.Ytcabapilejagkaa.P
open Go.RowKit Go.Shelf Go.Proofs.YtcabapilejagkaaW.PrintWords Go.Proofs.YtcabapilejagkaaW.PrintLast Go.Proofs.YtcabapilejagkaaW.PrintMore
set_option linter.unusedVariables false
set_option linter.unusedSimpArgs false
def tidepolelaw07_awake.f : Option Bool := some true
theorem aw07_1 : pairs_Zip_int64.f 20 [⟨3, 2⟩] [5, 0] = some ([⟨3, 5⟩, ⟨4, 0⟩], 0) := by kernel_rfl
theorem aw07_2 : pairs_Absolute.f 20 [3, -1] = some ([3, 2], 0) := by kernel_rfl
theorem aw07_3 : pairs_Absolute.f 20 [9223372036854775807, 1] = some ([], 28) := by kernel_rfl
theorem aw07_4 : pairs_Unzip_int64.f 20 [⟨3, 5⟩, ⟨4, 0⟩] = some ([⟨3, 2⟩], [5, 0], 0) := by kernel_rfl
theorem aw07_5 : pairs_Without_int64.f [⟨3, 5⟩, ⟨4, 0⟩] 0 = some [⟨3, 5⟩] := by kernel_rfl
theorem aw07_6 : pairs_Find_int64.f [⟨3, 5⟩, ⟨4, 0⟩] 3 = some (5, true) := by kernel_rfl
theorem reps_one_span (w : World) (a b : Int) : Reps (k108.K w) 2 [(⟨a, b⟩ : S108)] [.int .i64 a, .int .i64 b] := by
  refine ⟨rfl, fun j p hj => ?_⟩
  cases j with
  | zero => injection hj with hj; subst hj; exact k108_mk w _
  | succ j => simp at hj
set_option maxRecDepth 100000 in
set_option maxHeartbeats 8000000 in
theorem tidepolelaw07_awake.calls (r : Bool) (w : World) (h : tidepolelaw07_awake.f = some r) :
    Calls Try.prog 17 #[] w fun e w' => e = .returned (.bool r) ∧ Below w.heap.size w w' := by
  obtain rfl : true = r := Option.some.inj h
  clear h
  have hu1 := Try.underlying108
  have hu2 := Try.underlying30
  go_enter Try.func17, Try.ntmps17
  go_wp2_with fail
  have hb1 : ((w.alloc (.cells #[.int .i64 3, .int .i64 2] 108)).alloc (.cells #[.int .i64 5, .int .i64 0] 2)).heap[w.heap.size]? = some (.cells #[.int .i64 3, .int .i64 2] 108 (0, 0)) := blk_alloc (by simpa using blk_new w (.cells #[.int .i64 3, .int .i64 2] 108)) _
  have hb2 : ((w.alloc (.cells #[.int .i64 3, .int .i64 2] 108)).alloc (.cells #[.int .i64 5, .int .i64 0] 2)).heap[w.heap.size + 1]? = some (.cells #[.int .i64 5, .int .i64 0] 2 (0, 0)) := by simpa using blk_new (w.alloc (.cells #[.int .i64 3, .int .i64 2] 108)) (.cells #[.int .i64 5, .int .i64 0] 2)
  refine (pairs_Zip_int64.calls 20 _ 1 [(⟨3, 2⟩ : S108)] _ 2 [5, 0] _ _ _ (C_of_blk [(⟨3, 2⟩ : S108)] hb1 (reps_one_span _ 3 2) (by decide)) (by decide) (C_of_blk [5, 0] hb2 (reps_nums _ .i64 [5, 0]) (by decide)) (by decide) aw07_1).mono ?_
  rintro e w1 ⟨v1, rfl, ho1, hb⟩
  have HB := Aside0.mk (below_then (below_then (below_alloc (Below.refl w.heap.size w) (.cells #[.int .i64 3, .int .i64 2] 108)) (by simp) (below_alloc (Below.refl _ _) (.cells #[.int .i64 5, .int .i64 0] 2))) (by simp; omega) hb)
  obtain ⟨A1, c1, rfl, hc1, hC1⟩ := Kd.R_reads ho1
  have HC1 := Aside0.mk hC1
  clear ho1 hC1 hb hb1 hb2
  go_wp2_with fail
  have hb1 : (w1.alloc (.cells #[.int .i64 3, .int .i64 (-1)] 2)).heap[w1.heap.size]? = some (.cells #[.int .i64 3, .int .i64 (-1)] 2 (0, 0)) := by simpa using blk_new w1 (.cells #[.int .i64 3, .int .i64 (-1)] 2)
  refine (pairs_Absolute.calls 20 _ 2 [3, -1] _ _ _ (C_of_blk [3, -1] hb1 (reps_nums _ .i64 [3, -1]) (by decide)) (by decide) aw07_2).mono ?_
  rintro e w2 ⟨v2, rfl, ho2, hb⟩
  have hb' := below_then (below_alloc (Below.refl w1.heap.size w1) (.cells #[.int .i64 3, .int .i64 (-1)] 2)) (by simp) hb
  have HB2 := Aside0.mk (below_then HB.out HB.out.size hb')
  have HC2 := Aside0.mk (Kd.C_below HC1.out hb')
  obtain ⟨A2, c2, rfl, hc2, hD1⟩ := Kd.R_reads ho2
  have HD1 := Aside0.mk hD1
  clear ho2 hD1 hb hb1 hb' HC1 HB
  go_wp2_with fail
  have hb1 : (w2.alloc (.cells #[.int .i64 9223372036854775807, .int .i64 1] 2)).heap[w2.heap.size]? = some (.cells #[.int .i64 9223372036854775807, .int .i64 1] 2 (0, 0)) := by simpa using blk_new w2 (.cells #[.int .i64 9223372036854775807, .int .i64 1] 2)
  refine (pairs_Absolute.calls 20 _ 2 [9223372036854775807, 1] _ _ _ (C_of_blk [9223372036854775807, 1] hb1 (reps_nums _ .i64 [9223372036854775807, 1]) (by decide)) (by decide) aw07_3).mono ?_
  rintro e w3 ⟨v3, rfl, ho3, hb⟩
  have hb' := below_then (below_alloc (Below.refl w2.heap.size w2) (.cells #[.int .i64 9223372036854775807, .int .i64 1] 2)) (by simp) hb
  have HB3 := Aside0.mk (below_then HB2.out HB2.out.size hb')
  have HC3 := Aside0.mk (Kd.C_below HC2.out hb')
  have HD2 := Aside0.mk (Kd.C_below HD1.out hb')
  clear ho3 hb hb1 hb' HC2 HB2 HD1
  go_wp2_with fail
  refine (pairs_Unzip_int64.calls 20 A1 c1 [(⟨3, 5⟩ : S30), ⟨4, 0⟩] _ _ _ _ HC3.out hc1 aw07_4).mono ?_
  rintro e w4 ⟨v4, v5, rfl, ho4, ho5, hb⟩
  have HB4 := Aside0.mk (below_then HB3.out HB3.out.size hb)
  have HC4 := Aside0.mk (Kd.C_below HC3.out hb)
  have HD3 := Aside0.mk (Kd.C_below HD2.out hb)
  obtain ⟨A4, c4, rfl⟩ := Kd.R_slice ho4
  obtain ⟨A5, c5, rfl⟩ := Kd.R_slice ho5
  clear ho4 ho5 hb HC3 HB3 HD2
  go_wp2_with fail
  refine (pairs_Without_int64.calls A1 c1 [(⟨3, 5⟩ : S30), ⟨4, 0⟩] 0 _ _ HC4.out hc1 aw07_5).mono ?_
  rintro e w5 ⟨v6, rfl, ho6, hb⟩
  have HB5 := Aside0.mk (below_then HB4.out HB4.out.size hb)
  have HC5 := Aside0.mk (Kd.C_below HC4.out hb)
  have HD4 := Aside0.mk (Kd.C_below HD3.out hb)
  obtain ⟨A6, c6, rfl⟩ := Kd.R_slice ho6
  clear ho6 hb HC4 HB4 HD3
  go_wp2_with fail
  refine (pairs_Find_int64.calls A1 c1 [(⟨3, 5⟩ : S30), ⟨4, 0⟩] 3 _ _ _ HC5.out hc1 aw07_6).mono ?_
  rintro e w6 ⟨rfl, hb⟩
  have HB6 := Aside0.mk (below_then HB5.out HB5.out.size hb)
  have hC := Kd.C_below HC5.out hb
  have hD := Kd.C_below HD4.out hb
  obtain ⟨a1, e1, hx, _⟩ := at_T30 hC 1 (by decide) (by decide)
  cases e1
  obtain ⟨a2, e2, hy⟩ := Kd.at_int hD 1 (by decide) (by decide)
  cases e2
  clear hb HC5 HB5 HD4 hC hD
  have hx' : w6.cell? ⟨a1.block, a1.off + 2, none⟩ = some (.int .i64 4) := hx
  have hy' : w6.cell? ⟨a2.block, a2.off + 1, none⟩ = some (.int .i64 2) := hy
  clear hx hy
  go_wp2
  go_ret
  exact ⟨rfl, HB6.out⟩
end Go.Proofs.Ytcabapilejagkaa.P
namespace Go.Proofs.Ytcabapilejagkaa.P
open Go.RowKit Go.Proofs.YtcabapilejagkaaW.PrintWords Go.Proofs.YtcabapilejagkaaW.PrintLast Go.Proofs.YtcabapilejagkaaW.PrintMore
set_option linter.unusedVariables false
set_option linter.unusedSimpArgs false
theorem goesF_ {P : Program} {ops : Array Oper} {Q : Exit → Act → World → Prop} {oi : Oper} {N : Option Tmp} {a : Act} {w : World} {K : Act → World → Prop} {f : FuncId} {fn : Func} {tf : Tmp} {xs : Array Operand} {ts : Array TypeId} (hf : P.funcs[f]? = some fn) (hname : (fn.name == "runtime.NumGoroutine") = false) (hb : fn.body.isSome = true) (args : Array Value)
    (hw : Region.wanted oi (yielded ops a.tmps) = true) (hN : oi.dst = N) (hop : oi.op = .call { callee := .value (.tmp tf), args := xs, argTypes := ts }) (hv : a.eval (.tmp tf) = .func (.func f) #[] #[]) (hargs : xs.map a.eval = args)
    (h : Calls P f args w fun e w' => ∃ v, e = .returned v ∧ K (a.put N v) w') : if Region.wanted oi (yielded ops a.tmps) = true then Oper.wp P oi a w K Q else K (a.put N undef) w := by
  refine call_ f args hw hN ?_ h
  have he := enters_ hf hname hb args w
  unfold execOp
  simp [hop, resolve, Deferred.ofValue, invoke, hv, hargs, he]
end Go.Proofs.Ytcabapilejagkaa.P
namespace Go.Proofs.YtcabapilejagkaaW.PrintWords.Kd
open Go.RowKit
theorem V_away {α : Type} {d : Kd α} {e base g c : Nat} {W : World} {ok : Nat → Prop} {A : Option Addr} {xs : List α} (h : V d e W base ok (.slice A xs.length c) xs) (hok : ∀ k, ok k → k ≠ g) (hne : decide (0 < xs.length) = true := by assumption) (hs : 0 < d.sz := by decide) : some g ≠ (Value.slice A xs.length c).ownBlock := by
  obtain ⟨A', c', hv, _, hf⟩ := h
  injection hv with hA _ _
  subst hA
  have hn : 0 < xs.length := of_decide_eq_true hne
  have hW := hf { W with heap := W.heap.setIfInBounds g (Obj.deferred none) } (fun k hk hlt => by
    show (W.heap.setIfInBounds g (Obj.deferred none))[k]? = W.heap[k]?
    rw [Array.getElem?_setIfInBounds_ne (fun e => hok k hk e.symm)])
  obtain ⟨_, _, h3⟩ := hW
  obtain ⟨ad, rfl, h4⟩ := h3 hn
  obtain ⟨cs, hl, hk, hc⟩ := h4 0 _ (List.getElem?_eq_getElem hn)
  obtain ⟨u, hu⟩ : ∃ u, cs[0]? = some u := ⟨_, List.getElem?_eq_getElem (by omega)⟩
  have hcell := hc 0 u hu
  intro he
  have hg : ad.block = g := by
    simp only [Value.ownBlock] at he
    exact (Option.some.inj he).symm
  have hb : (ad.add (0 * d.sz + 0)).block = g := by rw [← hg]; unfold Addr.add; split <;> rfl
  simp only [World.cell?, hb] at hcell
  rw [Array.getElem?_setIfInBounds] at hcell
  simp at hcell
end Go.Proofs.YtcabapilejagkaaW.PrintWords.Kd
namespace Go.Proofs.Ytcabapilejagkaa.P
open Go.RowKit Go.Proofs.YtcabapilejagkaaW.PrintWords Go.Proofs.YtcabapilejagkaaW.PrintLast Go.Proofs.YtcabapilejagkaaW.PrintMore
def merge_join.f (a0 a1 : Int) : Option Int := some (wrap64 (wrap64 (3 * a0) + a1))
set_option maxRecDepth 100000 in
theorem merge_join.calls (a0 a1 : Int) (r : Int) (w : World) (h : merge_join.f a0 a1 = some r) :
    Calls Try.prog 19 #[.int .i64 a0, .int .i64 a1] w fun e w' => e = .returned (.int .i64 r) ∧ Drawn0 w w' := by
  obtain rfl := Option.some.inj h
  clear h
  go_enter Try.func19, Try.ntmps19
  go_wp2
  go_ret
  exact ⟨by first | rfl | (simp; done), Drawn0.refl _⟩
end Go.Proofs.Ytcabapilejagkaa.P
