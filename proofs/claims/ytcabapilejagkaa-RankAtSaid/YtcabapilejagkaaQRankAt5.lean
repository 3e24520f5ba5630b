/- RankAt: the part that this text bears of the proof that the statement answers true for every input. No condition. -/
import Derived.Test.YtcabapilejagkaaProg
import Derived.Below
import Derived.Deep.Draws
import Derived.Deep.AppendLies
import Derived.Maps.AppendAt
import Derived.OwnWalk
import Derived.Laws.BytesArg
import Derived.Laws.MakeOwn
import Derived.Laws.OwnMore
import Derived.Deep.OwnRows
import Derived.Tactics
import Derived.Lib.ConvBytes
import Derived.Laws.Slices
import Derived.WalkKit
import Derived.KernelRfl
import Derived.RowKit3
import Derived.Deep.LoopGhost
import Derived.Deep.QuietTactic
import Derived.BigQuiet
import Derived.WideLaws
import Derived.Deep.DeepCutAuto
import Derived.Deep.CutBlock
import Derived.Deep.RegionHeld3
import Derived.Laws.Rows
import Derived.Lib.AppendStr
import Derived.ArgAppend
import Derived.Laws.IdiomCopy
import Derived.OrdersHeld
import Derived.Laws.BitsLemmas
import Derived.RowKit
import Derived.Shelf.Abstract
import Derived.WalkSpells
import Derived.RangeFuncNested
import Derived.RangeFuncBound
import Derived.RangeFuncCalls
import Derived.RangeFuncLeaves
import Derived.RangeFuncBox
import Derived.OwnWalkIn
import Derived.TacticsInMore
import Derived.LoopNIn
import Derived.LoopIn
import Derived.Deep.Slices
import Derived.ChangeArms
import Derived.Laws.Externs
import Derived.Shelf.Spec.BitsCarry
import Derived.RegionIn
import Derived.Sort.QuietTacIn
import Derived.Deep.RegionWith
import Derived.Laws.BitsAllLaws
import Derived.Shelf.Bits.Mul64
import Derived.ProofKit
import Derived.JoinedOf
import Derived.OpenShut
import Derived.ShutString
import Derived.ChangeOld
import Derived.SizedLaws
import Derived.Test.YtcabapilejagkaaQRankAtWWords
import Derived.Test.YtcabapilejagkaaQRankAtWLast
import Derived.Test.YtcabapilejagkaaQRankAtWTab
import Derived.Test.YtcabapilejagkaaQRankAtWFour
import Derived.Test.YtcabapilejagkaaQRankAtWQPut
import Derived.Test.YtcabapilejagkaaQRankAtWApart
import Derived.Test.YtcabapilejagkaaQRankAtWArr
import Derived.Test.YtcabapilejagkaaQRankAtWZeros
import Derived.Test.YtcabapilejagkaaQRankAtWFoot
import Derived.Test.YtcabapilejagkaaQRankAtWKept
import Derived.Test.YtcabapilejagkaaQRankAtWShare
import Derived.Test.YtcabapilejagkaaQRankAtWN
import Derived.Test.YtcabapilejagkaaQRankAtWFootNe
import Derived.Test.YtcabapilejagkaaQRankAtWAt
import Derived.Test.YtcabapilejagkaaQRankAtWEqStruct
import Derived.Test.YtcabapilejagkaaQRankAtWRepsOne
import Derived.Test.YtcabapilejagkaaQRankAtWInv
import Derived.Test.YtcabapilejagkaaQRankAtWInvWords
import Derived.Test.YtcabapilejagkaaQRankAtWGuard
import Derived.Test.YtcabapilejagkaaQRankAtWNEv
import Derived.Test.YtcabapilejagkaaQRankAtWMore
import Derived.Test.YtcabapilejagkaaRows
import Derived.Test.YtcabapilejagkaaQRankAt0
import Derived.Test.YtcabapilejagkaaQRankAt1
import Derived.Test.YtcabapilejagkaaQRankAt2
import Derived.Test.YtcabapilejagkaaQRankAt3
import Derived.Test.YtcabapilejagkaaQRankAt4
namespace Go.Proofs.Ytcabapilejagkaa.P
def headSigns : List Char := List.map Char.ofNat [104, 97, 114, 110, 101, 115, 115, 32, 100, 51, 52, 53, 56, 100, 57, 102, 56, 57, 97, 99, 100, 102, 101, 100, 99, 48, 51, 57, 55, 51, 48, 97, 56, 53, 48, 57, 50, 54, 99, 52, 51, 52, 102, 100, 99, 55, 50, 57, 54, 57, 51, 97, 53, 48, 50, 52, 51, 102, 51, 98, 51, 53, 98, 51, 50, 102, 57, 50, 101, 50, 101, 100, 32, 99, 117, 116, 32, 97, 116, 32, 116, 105, 100, 101, 112, 111, 108, 101, 47, 116, 105, 100, 101, 112, 111, 108, 101, 108, 97, 119, 48, 55, 46, 80, 97, 105, 114, 115, 77, 101, 114, 103, 101, 32, 116, 105, 100, 101, 112, 111, 108, 101, 47, 116, 105, 100, 101, 112, 111, 108, 101, 108, 97, 119, 49, 49, 46, 82, 101, 115, 101, 116, 66, 111, 116, 104, 32, 116, 105, 100, 101, 112, 111, 108, 101, 47, 116, 105, 100, 101, 112, 111, 108, 101, 108, 97, 119, 48, 57, 46, 72, 105, 115, 116, 87, 97, 108, 107, 115, 32, 116, 105, 100, 101, 112, 111, 108, 101, 47, 116, 105, 100, 101, 112, 111, 108, 101, 108, 97, 119, 50, 57, 46, 82, 97, 110, 107, 65, 116, 32, 116, 105, 100, 101, 112, 111, 108, 101, 47, 116, 105, 100, 101, 112, 111, 108, 101, 108, 97, 119, 50, 57, 46, 82, 97, 110, 107, 66, 101, 108, 111, 119, 32, 116, 105, 100, 101, 112, 111, 108, 101, 47, 116, 105, 100, 101, 112, 111, 108, 101, 108, 97, 119, 50, 57, 46, 82, 97, 110, 107, 70, 105, 114, 115, 116, 32, 116, 105, 100, 101, 112, 111, 108, 101, 47, 116, 105, 100, 101, 112, 111, 108, 101, 108, 97, 119, 50, 57, 46, 82, 97, 110, 107, 82, 105, 115, 101, 115, 32, 116, 105, 100, 101, 112, 111, 108, 101, 47, 116, 105, 100, 101, 112, 111, 108, 101, 108, 97, 119, 50, 57, 46, 82, 97, 110, 107, 80, 97, 114, 116, 115, 32, 116, 105, 100, 101, 112, 111, 108, 101, 47, 116, 105, 100, 101, 112, 111, 108, 101, 108, 97, 119, 50, 57, 46, 82, 97, 110, 107, 81, 117, 97, 110, 116, 105, 108, 101, 115, 32, 116, 105, 100, 101, 112, 111, 108, 101, 47, 116, 105, 100, 101, 112, 111, 108, 101, 108, 97, 119, 49, 48, 46, 70, 104, 105, 115, 116, 70, 108, 111, 97, 116, 115, 32, 116, 105, 100, 101, 112, 111, 108, 101, 47, 116, 105, 100, 101, 112, 111, 108, 101, 108, 97, 119, 49, 48, 46, 70, 104, 105, 115, 116, 66, 97, 99, 107, 32, 116, 105, 100, 101, 112, 111, 108, 101, 47, 116, 105, 100, 101, 112, 111, 108, 101, 108, 97, 119, 49, 48, 46, 70, 104, 105, 115, 116, 70, 114, 111, 109]
theorem head_is : Try.prog.initOrder = String.ofList headSigns := by kernel_rfl
theorem head_signs : Try.prog.initOrder.toList = headSigns := by rw [head_is]; exact String.toList_ofList
theorem head_first : (behindMainWord (wordsSigns headSigns)).head? = some "cut".toList := by kernel_rfl
theorem head_words : ∃ r, behindMainWord (wordsSigns headSigns) = "cut".toList :: r := by have h := head_first; cases h2 : behindMainWord (wordsSigns headSigns) with | nil => rw [h2] at h; cases h | cons c r => rw [h2] at h; injection h with h; exact ⟨r, by rw [h]⟩
theorem strip_cut (r : List (List Char)) : stripLifts liftWords ("cut".toList :: r) = ([], "cut".toList :: r) := by kernel_rfl
theorem head_lifts : Try.prog.headLifts = [] := by obtain ⟨r, hr⟩ := head_words; unfold Program.headLifts; rw [head_signs, hr, strip_cut]; kernel_rfl
theorem head_doorFits : Try.prog.doorFits [] = true := by kernel_rfl
theorem head_laysLater : Try.prog.laysLater = false := by kernel_rfl
theorem head_bearsReflect : Try.prog.bearsReflect = false := by kernel_rfl
theorem mayEnter_of {P : Program} {L : List Char} {r : List (List Char)} (h1 : P.initOrder.toList = L) (h2 : behindMainWord (wordsSigns L) = "cut".toList :: r) (h3 : P.doorFits [] = true) (h4 : P.laysLater = false) (h5 : P.bearsReflect = false) : P.mayEnter = true := by unfold Program.mayEnter; rw [h1, h2]; simp only [strip_cut, h3, h4, h5]; kernel_rfl
theorem head_mayEnter : Try.prog.mayEnter = true := by obtain ⟨r, hr⟩ := head_words; exact mayEnter_of head_signs hr head_doorFits head_laysLater head_bearsReflect
theorem head_liftsFinal : Try.prog.liftsFinal = false := by obtain ⟨r, hr⟩ := head_words; unfold Program.liftsFinal; rw [head_signs, head_lifts, hr]; kernel_rfl
theorem make_of {P : Program} {L : List Char} {r : List (List Char)} (h1 : P.initOrder.toList = L) (h2 : behindMainWord (wordsSigns L) = "cut".toList :: r) : P.make = some .cut := by unfold Program.make; rw [h1, h2]; kernel_rfl
theorem head_make : Try.prog.make = some .cut := by obtain ⟨r, hr⟩ := head_words; exact make_of head_signs hr
theorem head_laidOut : laidOutB Try.prog = true := by kernel_rfl
theorem head_mapsRowed : mapsRowed Try.prog = true := by kernel_rfl
theorem head_stops : (Try.prog.stops == []) = true := by kernel_rfl
theorem head_stopKnobs : (Try.prog.stopKnobs == []) = true := by kernel_rfl
theorem head_plainKeys : Try.prog.plainKeys = true := by kernel_rfl
theorem head_stopsHeard : Try.prog.stopsHeard = true := by kernel_rfl
end Go.Proofs.Ytcabapilejagkaa.P
namespace Go.Proofs.Ytcabapilejagkaa.P
open Go.RowKit Go.Shelf Go.Proofs.YtcabapilejagkaaW.PrintWords Go.Proofs.YtcabapilejagkaaW.PrintLast Go.Proofs.YtcabapilejagkaaW.PrintMore
set_option linter.unusedVariables false
set_option linter.unusedSimpArgs false
theorem few29_eq (l : List Sp) : ∃ b : Bool, (b = true → l.length ≤ 400) ∧ ∀ k, 402 ≤ k → tidepolelaw29_few.f k l = some b := by
  have hl : ∀ (d k i : Nat) (n : Int), 401 - i = d → d < k → i ≤ l.length → (i : Int) ≤ n → n ≤ 400 → ∃ b, tidepolelaw29_few.l0 k n l (l.length : Int) (i : Int) = some b ∧ (b = true → l.length ≤ 400) := by
    intro d
    induction d with
    | zero => intro k i n hd hk hi h0 h1; omega
    | succ d ih =>
      intro k i n hd hk hi h0 h1
      obtain ⟨k, rfl⟩ : ∃ m, k = m + 1 := ⟨k - 1, by omega⟩
      simp only [tidepolelaw29_few.l0]
      by_cases hlt : i < l.length
      · rw [if_pos (by omega), if_pos (by omega), if_pos (by omega), rdSp_at hlt, wrap_succ (by omega)]
        generalize l[i] = s
        have hrec : ∀ m : Int, n + 1 ≤ m → ∃ b, (if m > 400 then some false else tidepolelaw29_few.l0 k m l (l.length : Int) ((i + 1 : Nat) : Int)) = some b ∧ (b = true → l.length ≤ 400) := by
          intro m hm
          by_cases c : m > 400
          · rw [if_pos c]; exact ⟨false, rfl, fun h => by cases h⟩
          · rw [if_neg c]; exact ih k (i + 1) m (by omega) (by omega) (by omega) (by omega) (by omega)
        by_cases c : s.f1 > 0
        · rw [if_pos c]
          have hmn : 0 ≤ mn s.f1 5000 ∧ mn s.f1 5000 ≤ 5000 := by unfold mn; omega
          have ht := Int.tdiv_eq_ediv_of_nonneg (b := 10) hmn.1
          rw [ht]
          refine hrec _ ?_
          rw [wrap_id (x := mn s.f1 5000 / 10) (by omega) (by omega), wrap_id (x := 1 + mn s.f1 5000 / 10) (by omega) (by omega), wrap_id (x := n + (1 + mn s.f1 5000 / 10)) (by omega) (by omega), wrap_id (by omega) (by omega)]
          omega
        · rw [if_neg c]
          refine hrec _ ?_
          rw [wrap_id (by omega) (by omega)]; omega
      · rw [if_neg (by omega)]; exact ⟨true, rfl, fun _ => by omega⟩
  obtain ⟨b, h1, h2⟩ := hl 401 402 0 0 (by omega) (by omega) (by omega) (by omega) (by omega)
  refine ⟨b, h2, fun k hk => ?_⟩
  obtain ⟨b', h3, h4⟩ := hl 401 k 0 0 (by omega) (by omega) (by omega) (by omega) (by omega)
  have hm : ∀ m, tidepolelaw29_few.l0 (402 + m) 0 l (l.length : Int) 0 = some b := by
    intro m
    induction m with
    | zero => exact h1
    | succ m ih => exact (tidepolelaw29_few.mono_l (402 + m)) 0 l (l.length : Int) 0 b ih
  have := hm (k - 402)
  rw [show 402 + (k - 402) = k by omega] at this
  exact this
theorem small29_eq (h : Hi) : ∃ b : Bool, (b = true → h.f5.length ≤ 400 ∧ h.f6.length ≤ 400 ∧ h.f7.length ≤ 300 ∧ h.f8.length ≤ 300) ∧ ∀ k, 402 ≤ k → tidepolelaw29_small.f k h.f0 h.f1 h.f2 h.f3 h.f4 h.f5 h.f6 h.f7 h.f8 = some b := by
  obtain ⟨b5, h5, e5⟩ := few29_eq h.f5
  obtain ⟨b6, h6, e6⟩ := few29_eq h.f6
  unfold tidepolelaw29_small.f
  cases b5 with
  | false => exact ⟨false, (fun h => by cases h), fun k hk => by rw [e5 k hk]; rfl⟩
  | true =>
    cases b6 with
    | false => exact ⟨false, (fun h => by cases h), fun k hk => by rw [e5 k hk]; simp only [Option.bind_some, if_true]; rw [e6 k hk]; rfl⟩
    | true =>
      refine ⟨decide (h.f7.length ≤ 300) && decide (h.f8.length ≤ 300), fun h => ?_, fun k hk => ?_⟩
      · simp only [Bool.and_eq_true, decide_eq_true_eq] at h; exact ⟨h5 rfl, h6 rfl, h.1, h.2⟩
      · rw [e5 k hk]; simp only [Option.bind_some, if_true]; rw [e6 k hk]; simp only [Option.bind_some, if_true]
        by_cases c : h.f7.length ≤ 300
        · rw [if_pos (by omega)]; simp [c]; omega
        · rw [if_neg (by omega)]; simp [c]
theorem spans29_eq (l : List Sp) (hm : l.length < 8796093022208) (k : Nat) (hk : l.length < k) : tidepolelaw29_spans.f k l = some (l.map toR) := by
  unfold tidepolelaw29_spans.f
  have : ∀ (d k i : Nat), l.length - i = d → d < k → i ≤ l.length → tidepolelaw29_spans.l0 k ((l.take i).map toR) l (l.length : Int) (i : Int) = some (l.map toR) := by
    intro d
    induction d with
    | zero =>
      intro k i hd hk hi
      obtain ⟨k, rfl⟩ : ∃ m, k = m + 1 := ⟨k - 1, by omega⟩
      rw [tidepolelaw29_spans.l0, if_neg (by omega), List.take_of_length_le (by omega)]
    | succ d ih =>
      intro k i hd hk hi
      obtain ⟨k, rfl⟩ : ∃ m, k = m + 1 := ⟨k - 1, by omega⟩
      have hlt : i < l.length := by omega
      have hl1 : ((l.take i).map toR).length = i := by simp; omega
      rw [tidepolelaw29_spans.l0, if_pos (by omega), if_pos (by omega), if_pos (by omega), hl1, rdSp_at hlt, if_pos (by omega), wrap_succ (by omega), ← ih k (i + 1) (by omega) (by omega) (by omega), take_at hlt]
      simp only [List.map_append, List.map_cons, List.map_nil]
      rfl
  exact this l.length k 0 (by omega) hk (by omega)
theorem ref29_eq (h : Hi) (h5 : h.f5.length ≤ 400) (h6 : h.f6.length ≤ 400) (k : Nat) (hk : 402 ≤ k) : tidepolelaw29_ref.f k h.f0 h.f1 h.f2 h.f3 h.f4 h.f5 h.f6 h.f7 h.f8 = some (h.f0, h.f1, h.f2, h.f3, h.f4, h.f5.map toR, h.f6.map toR, h.f7, h.f8) := by
  unfold tidepolelaw29_ref.f
  rw [spans29_eq _ (by omega) k (by omega)]
  simp only [Option.bind_some]
  rw [spans29_eq _ (by omega) k (by omega)]
  rfl
theorem refCheck09_eq (h : Hi) (hw : wfH h) (h7 : h.f7.length ≤ 4096) (h8 : h.f8.length ≤ 4096) (k : Nat) (hk : 5130000 ≤ k) : tidepoleref09_Check.f k h.f0 h.f1 h.f2 h.f3 h.f4 (h.f5.map toR) (h.f6.map toR) h.f7 h.f8 = some (checkR h) := by
  obtain ⟨w0, w1, w2, w3, w4, w5, w6, w7, w8, w9, w10⟩ := hw
  have r5 := sideRes_row (l := h.f5) w7
  have r6 := sideRes_row (l := h.f6) w8
  have hf := refFits_eq h.f2 h.f3 h.f4 (sideRes h.f5 h.f7).1 (sideRes h.f6 h.f8).1 w2 w3 w4 (fun x hx => (r5.cnt x hx).2) (fun x hx => (r6.cnt x hx).2) (by have := r5.len; omega) (by have := r6.len; omega) k (by have := r5.len; have := r6.len; omega)
  unfold tidepoleref09_Check.f
  rw [refHead_eq _ _ k (by omega), show (if h.f0 < -4 ∨ h.f0 > 8 then (21 : Int) else if ¬ h.f1 < 9218868437227405312 then 11 else 0) = headE h from rfl, checkR_eq]
  simp only [Option.bind_some]
  by_cases c1 : headE h = 0
  · rw [if_pos c1, if_neg (by omega), refSide_eq h.f5 h.f7 w5 w7 w9 k (by omega)]
    simp only [Option.bind_some, sideRef]
    by_cases c2 : (sideRes h.f5 h.f7).2 = 0
    · rw [if_pos c2, if_neg (by omega), refSide_eq h.f6 h.f8 w6 w8 w10 k (by omega)]
      simp only [Option.bind_some, sideRef]
      by_cases c3 : (sideRes h.f6 h.f8).2 = 0
      · rw [if_pos c3, if_neg (by omega), hf]; rfl
      · rw [if_neg c3, if_pos c3]
    · rw [if_neg c2, if_pos c2]
  · rw [if_neg c1, if_pos c1]
abbrev Rb := S74
def toRb (b : Bk) : Rb := ⟨b.s, b.p, b.n⟩
theorem rdRb_at {l : List Rb} {i : Nat} (h : i < l.length) : rd_T74 l (i : Int) = l[i] := by unfold rd_T74; simp [List.getD, h]
theorem total29_eq (l : List Bk) (hl : l.length ≤ 20000) (k : Nat) (hk : l.length < k) : tidepoleref29_Total.f k (l.map toRb) = some (IntKind.u64.wrap (sumB l)) := by
  unfold tidepoleref29_Total.f
  have : ∀ (d k i : Nat), l.length - i = d → d < k → i ≤ l.length → tidepoleref29_Total.l0 k (l.map toRb) (IntKind.u64.wrap (sumB (l.take i))) (i : Int) = some (IntKind.u64.wrap (sumB l)) := by
    intro d
    induction d with
    | zero =>
      intro k i hd hk hi
      obtain ⟨k, rfl⟩ : ∃ m, k = m + 1 := ⟨k - 1, by omega⟩
      rw [tidepoleref29_Total.l0, if_neg (by simp; omega), List.take_of_length_le (by omega)]
    | succ d ih =>
      intro k i hd hk hi
      obtain ⟨k, rfl⟩ : ∃ m, k = m + 1 := ⟨k - 1, by omega⟩
      have hlt : i < l.length := by omega
      rw [tidepoleref29_Total.l0, if_pos (by simp; omega), if_pos (by omega), rdRb_at (by simp; omega), wrap_succ (by omega), ← ih k (i + 1) (by omega) (by omega) (by omega), take_at hlt, sumB_snoc]
      congr 1
      simp only [List.getElem_map, toRb]
      show (sumB (l.take i) % 18446744073709551616 + l[i].n) % 18446744073709551616 = (sumB (l.take i) + l[i].n) % 18446744073709551616
      omega
  have h0 := this l.length k 0 (by omega) hk (by omega)
  rw [show IntKind.u64.wrap (sumB (l.take 0)) = 0 from rfl] at h0
  exact h0
end Go.Proofs.Ytcabapilejagkaa.P
namespace Go.Proofs.Ytcabapilejagkaa.P
open Go.RowKit Go.Shelf Go.Proofs.YtcabapilejagkaaW.PrintWords Go.Proofs.YtcabapilejagkaaW.PrintLast Go.Proofs.YtcabapilejagkaaW.PrintMore
set_option linter.unusedVariables false
set_option linter.unusedSimpArgs false
theorem order_l1 (l : List Pr) (hp : cnts l) (hl : l.length ≤ 4096) (acc : List Bk) (ha : acc.length ≤ 4097) : ∀ (d k i : Nat), l.length - i = d → d < k → i ≤ l.length →
    tidepoleref29_Order.l1 k ((acc ++ segW 0 (l.take i)).map toRb) (l.map (·.f0)) (l.map (·.f1)) (i : Int) = some ((acc ++ segW 0 l).map toRb) := by
  intro d
  induction d with
  | zero =>
    intro k i hd hk hi
    obtain ⟨k, rfl⟩ : ∃ m, k = m + 1 := ⟨k - 1, by omega⟩
    rw [tidepoleref29_Order.l1, if_neg (by simp; omega), List.take_of_length_le (by omega)]
  | succ d ih =>
    intro k i hd hk hi
    obtain ⟨k, rfl⟩ : ∃ m, k = m + 1 := ⟨k - 1, by omega⟩
    have hlt : i < l.length := by omega
    have hc := hp l[i] (List.getElem_mem hlt)
    have hsl : (segW 0 (l.take i)).length ≤ l.length := by unfold segW; rw [List.length_map]; exact Nat.le_trans (List.length_filter_le _ _) (by rw [List.length_take]; omega)
    rw [tidepoleref29_Order.l1, if_pos (by simp; omega), if_pos (by omega), if_pos (by simp; omega), rd_map (·.f0) hlt, rd_map (·.f1) hlt, wrap_succ (by omega), ← ih k (i + 1) (by omega) (by omega) (by omega), take_at hlt, segW_snoc]
    by_cases c : 0 < l[i].f1
    · rw [if_pos c, if_pos c, if_pos (by rw [List.length_map, List.length_append]; omega), u64_wrap ⟨by omega, by omega⟩]
      simp only [List.map_append, List.map_cons, List.map_nil, List.append_assoc]
      rfl
    · rw [if_neg c, if_neg c, List.append_nil]
theorem order_l0 (h : Hi) (l : List Pr) (hp : cnts l) (hl : l.length ≤ 4096) (r : List Bk) (K : Nat)
    (hz : ∀ k, K ≤ k → tidepoleref29_Order.j1 k (((segW 1 l.reverse) ++ (if h.f2 = 0 then [] else [(⟨2, 0, h.f2⟩ : Bk)])).map toRb) h.f0 h.f1 h.f2 h.f3 h.f4 (h.f5.map toR) (h.f6.map toR) h.f7 h.f8 = some (r.map toRb)) (h2 : u64 h.f2) : ∀ (i k : Nat), K + i < k → i ≤ l.length →
    tidepoleref29_Order.l0 k ((segW 1 (l.drop i).reverse).map toRb) (l.map (·.f0)) (l.map (·.f1)) ((i : Int) - 1) h.f0 h.f1 h.f2 h.f3 h.f4 (h.f5.map toR) (h.f6.map toR) h.f7 h.f8 = some (r.map toRb) := by
  intro i
  induction i with
  | zero =>
    intro k hk hi
    obtain ⟨k, rfl⟩ : ∃ m, k = m + 1 := ⟨k - 1, by omega⟩
    have hsl : (segW 1 (l.drop 0).reverse).length ≤ l.length := by unfold segW; rw [List.length_map]; exact Nat.le_trans (List.length_filter_le _ _) (by simp)
    rw [tidepoleref29_Order.l0, if_neg (by omega)]
    have := hz k (by omega)
    rw [List.drop_zero] at hsl ⊢
    by_cases c : h.f2 = 0
    · rw [if_pos c, List.append_nil] at this
      rw [if_neg (by omega)]
      exact this
    · rw [if_neg c, List.map_append] at this
      rw [if_pos (by have := h2.1; omega), if_pos (by rw [List.length_map]; omega)]
      exact this
  | succ i ih =>
    intro k hk hi
    obtain ⟨k, rfl⟩ : ∃ m, k = m + 1 := ⟨k - 1, by omega⟩
    have hlt : i < l.length := by omega
    have hc := hp l[i] (List.getElem_mem hlt)
    have hsl : (segW 1 (l.drop (i + 1)).reverse).length ≤ l.length := by unfold segW; rw [List.length_map]; exact Nat.le_trans (List.length_filter_le _ _) (by simp)
    have e : ((i + 1 : Nat) : Int) - 1 = (i : Int) := by omega
    rw [tidepoleref29_Order.l0, e, if_pos (by omega), if_pos (by omega), if_pos (by simp; omega), rd_map (·.f0) hlt, rd_map (·.f1) hlt, wrap_id (by omega) (by omega), ← ih k (by omega) (by omega)]
    have hd : l.drop i = l[i] :: l.drop (i + 1) := List.drop_eq_getElem_cons hlt
    rw [hd, List.reverse_cons, segW_snoc]
    by_cases c : 0 < l[i].f1
    · rw [if_pos c, if_pos c, if_pos (by simp; omega), if_pos (by rw [List.length_map]; omega), u64_wrap ⟨by omega, by omega⟩, List.map_append]
      rfl
    · rw [if_neg c, if_neg c, List.append_nil]
theorem order29_eq (h : Hi) (hw : wfH h) (hc : checkR h = 0) (k : Nat) (hk : 5140000 ≤ k) :
    tidepoleref29_Order.f k h.f0 h.f1 h.f2 h.f3 h.f4 (h.f5.map toR) (h.f6.map toR) h.f7 h.f8 = some ((toldW h).map toRb) := by
  obtain ⟨w0, w1, w2, w3, w4, w5, w6, w7, w8, w9, w10⟩ := hw
  have r5 := sideRes_row (l := h.f5) w7
  have r6 := sideRes_row (l := h.f6) w8
  obtain ⟨c1, c2, c3, c4⟩ := checkR_zero hc
  have n7 := (side_bounds c2).2.1
  have n8 := (side_bounds c3).2.1
  have ht : toldW h = segW 1 (sideRes h.f6 h.f8).1.reverse ++ ((if h.f2 = 0 then [] else [⟨2, 0, h.f2⟩]) ++ segW 0 (sideRes h.f5 h.f7).1) := by
    unfold toldW; rw [if_pos hc, openR_right hc]
  rw [ht]
  unfold tidepoleref29_Order.f
  rw [refSide_eq h.f6 h.f8 w6 w8 w10 k (by have := r6.len; omega)]
  simp only [Option.bind_some, sideRef]
  rw [List.length_map, wrap_id (by have := r6.len; omega) (by have := r6.len; omega)]
  have h0 := order_l0 h (sideRes h.f6 h.f8).1 r6.cnt r6.len (segW 1 (sideRes h.f6 h.f8).1.reverse ++ ((if h.f2 = 0 then [] else [⟨2, 0, h.f2⟩]) ++ segW 0 (sideRes h.f5 h.f7).1)) 5130000 (fun k hk => by
    obtain ⟨k, rfl⟩ : ∃ m, k = m + 1 := ⟨k - 1, by omega⟩
    rw [tidepoleref29_Order.j1, refSide_eq h.f5 h.f7 w5 w7 w9 k (by have := r5.len; omega)]
    simp only [Option.bind_some, sideRef]
    have hal : (segW 1 (sideRes h.f6 h.f8).1.reverse ++ (if h.f2 = 0 then [] else [(⟨2, 0, h.f2⟩ : Bk)])).length ≤ 4097 := by
      have : (segW 1 (sideRes h.f6 h.f8).1.reverse).length ≤ 4096 := by unfold segW; rw [List.length_map]; exact Nat.le_trans (List.length_filter_le _ _) (by rw [List.length_reverse]; exact r6.len)
      rw [List.length_append]
      by_cases z : h.f2 = 0
      · rw [if_pos z]; simp; omega
      · rw [if_neg z]; simp; omega
    have := order_l1 (sideRes h.f5 h.f7).1 r5.cnt r5.len _ hal (sideRes h.f5 h.f7).1.length k 0 (by omega) (by have := r5.len; omega) (by omega)
    rw [List.take_zero, show segW 0 [] = [] from rfl, List.append_nil, List.append_assoc] at this
    exact this) w2 (sideRes h.f6 h.f8).1.length k (by have := r6.len; omega) (Nat.le_refl _)
  rw [List.drop_length] at h0
  exact h0
end Go.Proofs.Ytcabapilejagkaa.P
namespace Go.Proofs.Ytcabapilejagkaa.P
open Go.RowKit Go.Shelf Go.Proofs.YtcabapilejagkaaW.PrintWords Go.Proofs.YtcabapilejagkaaW.PrintLast Go.Proofs.YtcabapilejagkaaW.PrintMore
set_option linter.unusedVariables false
set_option linter.unusedSimpArgs false
theorem sumB_nonneg : ∀ {l : List Bk}, (∀ b ∈ l, 0 ≤ b.n) → 0 ≤ sumB l
  | [], _ => by simp [sumB]
  | b :: l, h => by
    have h1 := sumB_nonneg (l := l) (fun x hx => h x (List.mem_cons_of_mem _ hx))
    have h2 := h b (List.mem_cons_self ..)
    simp only [sumB]; omega
theorem sumB_segW (s : Int) : ∀ (l : List Pr), (∀ p ∈ l, 0 ≤ p.f1) → sumB (segW s l) = sumV l
  | [], _ => by simp [segW, sumB, sumV]
  | p :: l, h => by
    have h1 := sumB_segW s l (fun x hx => h x (List.mem_cons_of_mem _ hx))
    have h2 := h p (List.mem_cons_self ..)
    have e : sumV (p :: l) = p.f1 + sumV l := by simp [sumV]
    unfold segW at h1 ⊢
    rw [List.filter_cons, e]
    by_cases c : 0 < p.f1
    · rw [if_pos (by simpa using c), List.map_cons]; simp only [sumB]; omega
    · rw [if_neg (by simpa using c)]; omega
theorem sumV_reverse (l : List Pr) : sumV l.reverse = sumV l := by simp [sumV, List.map_reverse, List.sum_reverse]
theorem told_sum {h : Hi} (hw : wfH h) (hc : checkR h = 0) : 0 ≤ sumB (toldW h) ∧ sumB (toldW h) ≤ h.f3 := by
  refine ⟨sumB_nonneg (fun b hb => (toldW_u64 hw b hb).1), ?_⟩
  have hrow := openR_row hw
  obtain ⟨c1, c2, c3, c4⟩ := checkR_zero hc
  have ho := openR_right hc
  have e5 : (openR h).1 = (sideRes h.f5 h.f7).1 := by rw [ho]
  have e6 : (openR h).2.1 = (sideRes h.f6 h.f8).1 := by rw [ho]
  rw [← e5, ← e6] at c4
  have hp : ∀ p ∈ (openR h).1, 0 ≤ p.f1 := fun p hp => (hrow.1.cnt p hp).2.1
  have hn : ∀ p ∈ (openR h).2.1, 0 ≤ p.f1 := fun p hp => (hrow.2.cnt p hp).2.1
  unfold toldW
  rw [if_pos hc, sumB_app, sumB_app, sumB_segW 0 _ hp, sumB_segW 1 _ (fun p hq => hn p (List.mem_reverse.1 hq)), sumV_reverse]
  have hz : sumB (if h.f2 = 0 then [] else [(⟨2, 0, h.f2⟩ : Bk)]) = h.f2 := by
    by_cases z : h.f2 = 0
    · rw [if_pos z, z]; rfl
    · rw [if_neg z]; simp [sumB]
  rw [hz]
  unfold fits totalRes sumR at c4
  simp only [List.map_cons, List.map_nil, List.sum_cons, List.sum_nil, Int.add_zero, Bool.and_eq_true, decide_eq_true_eq] at c4
  obtain ⟨⟨t1, t2⟩, -⟩ := c4
  by_cases k : h.f2 + (sumV (openR h).1 + sumV (openR h).2.1) ≤ 18446744073709551615
  · rw [if_pos k] at t2; omega
  · rw [if_neg k] at t1; cases t1
theorem told_wrap {h : Hi} (hw : wfH h) (hc : checkR h = 0) : IntKind.u64.wrap (sumB (toldW h)) = sumB (toldW h) := by
  obtain ⟨h0, h1⟩ := told_sum hw hc
  have h2 := hw.2.2.2.1.2
  have h_ : IntKind.u64.wrap (sumB (toldW h)) = sumB (toldW h) % 18446744073709551616 := rfl
  rw [h_]; omega
theorem findK_some : ∀ {l : List Bk} {k : Int} {b : Bk}, findK l k = some b → 0 < k → ∃ l1 l2, l = l1 ++ b :: l2 ∧ sumB l1 < k ∧ k ≤ sumB l1 + b.n
  | [], k, b, h, _ => by simp [findK] at h
  | x :: l, k, b, h, h0 => by
    simp only [findK] at h
    by_cases c : k ≤ x.n
    · rw [if_pos c] at h
      obtain rfl := Option.some.inj h
      exact ⟨[], l, rfl, by simp [sumB]; omega, by simp [sumB]; omega⟩
    · rw [if_neg c] at h
      obtain ⟨l1, l2, rfl, h1, h2⟩ := findK_some h (by omega)
      exact ⟨x :: l1, l2, rfl, by simp only [sumB]; omega, by simp only [sumB]; omega⟩
theorem findK_none : ∀ {l : List Bk} {k : Int}, (∀ b ∈ l, 0 ≤ b.n) → findK l k = none → 0 < k → sumB l < k
  | [], k, _, _, h0 => by simpa [sumB] using h0
  | x :: l, k, hp, h, h0 => by
    simp only [findK] at h
    by_cases c : k ≤ x.n
    · rw [if_pos c] at h; cases h
    · rw [if_neg c] at h
      have := findK_none (fun b hb => hp b (List.mem_cons_of_mem _ hb)) h (by omega)
      simp only [sumB]; omega
theorem findK_is {h : Hi} (hw : wfH h) {k : Int} (h0 : 0 < k) : (∃ b, findK (toldW h) k = some b) ↔ k ≤ sumB (toldW h) := by
  have hp : ∀ b ∈ toldW h, 0 ≤ b.n := fun b hb => (toldW_u64 hw b hb).1
  constructor
  · rintro ⟨b, hb⟩
    obtain ⟨l1, l2, e, h1, h2⟩ := findK_some hb h0
    rw [e] at hp ⊢
    have := sumB_nonneg (l := l2) (fun x hx => hp x (by simp [hx]))
    rw [sumB_app]; simp only [sumB]; omega
  · intro hk
    cases e : findK (toldW h) k with
    | some b => exact ⟨b, rfl⟩
    | none => have := findK_none hp e h0; omega
end Go.Proofs.Ytcabapilejagkaa.P
namespace Go.Proofs.Ytcabapilejagkaa.P
open Go.RowKit Go.Shelf Go.Proofs.YtcabapilejagkaaW.PrintWords Go.Proofs.YtcabapilejagkaaW.PrintLast Go.Proofs.YtcabapilejagkaaW.PrintMore
set_option linter.unusedVariables false
set_option linter.unusedSimpArgs false
def wfI29 (h : Hi) : Prop := i64 h.f0 ∧ u64 h.f1 ∧ u64 h.f2 ∧ u64 h.f3 ∧ u64 h.f4 ∧ wfSps h.f5 ∧ wfSps h.f6 ∧ i64s h.f7 ∧ i64s h.f8
theorem wfI29_of {x : S37} (h : wf37 x) : wfI29 x := ⟨i64_of h.1, u64_of h.2.1, u64_of h.2.2.1, u64_of h.2.2.2.1, u64_of h.2.2.2.2.1, wfSps_of h.2.2.2.2.2.1, wfSps_of h.2.2.2.2.2.2.1, i64_all h.2.2.2.2.2.2.2.1, i64_all h.2.2.2.2.2.2.2.2⟩
theorem wfI29_wf {h : Hi} (x : wfI29 h) (h7 : h.f7.length ≤ 300) (h8 : h.f8.length ≤ 300) : wfH h := ⟨x.1, x.2.1, x.2.2.1, x.2.2.2.1, x.2.2.2.2.1, x.2.2.2.2.2.1, x.2.2.2.2.2.2.1, x.2.2.2.2.2.2.2.1, x.2.2.2.2.2.2.2.2, by omega, by omega⟩
theorem rank_Total.eq (h : Hi) (hw : wfH h) : rank_Total.f h.f0 h.f1 h.f2 h.f3 h.f4 h.f5 h.f6 h.f7 h.f8 = some (totalR h) := if_pos hw
theorem rank_At.eq (h : Hi) (hw : wfH h) (k : Int) (hk : u64 k) : rank_At.f h.f0 h.f1 h.f2 h.f3 h.f4 h.f5 h.f6 h.f7 h.f8 k = some ((atR h k).1.s, (atR h k).1.p, (atR h k).1.n, (atR h k).2) := if_pos ⟨hw, hk⟩
theorem told_len {h : Hi} (hw : wfH h) : (toldW h).length ≤ 10000 := by
  have hrow := openR_row hw
  have hseg : ∀ (s : Int) (l : List Pr), (segW s l).length ≤ l.length := fun s l => by unfold segW; rw [List.length_map]; exact List.length_filter_le _ _
  unfold toldW
  by_cases c : checkR h = 0
  · rw [if_pos c, List.length_append, List.length_append]
    have h1 := hseg 1 (openR h).2.1.reverse
    have h2 := hseg 0 (openR h).1
    have h3 := hrow.1.len
    have h4 := hrow.2.len
    rw [List.length_reverse] at h1
    by_cases z : h.f2 = 0
    · rw [if_pos z]; simp; omega
    · rw [if_neg z]; simp; omega
  · rw [if_neg c]; simp
theorem rankAt_l0 (l : List Bk) (hl : l.length ≤ 10000) (b : Bk) : ∀ (d k i : Nat) (left : Int), l.length - i = d → d < k → i ≤ l.length → findK (l.drop i) left = some b → (∀ x ∈ l, u64 x.n) → u64 left →
    tidepolelaw29_RankAt.l0 k 0 left (l.map toRb) ((l.map toRb).length : Int) (i : Int) b.s b.p b.n = some true := by
  intro d
  induction d with
  | zero =>
    intro k i left hd hk hi hf hu hl
    rw [drop_end (by omega)] at hf
    simp [findK] at hf
  | succ d ih =>
    intro k i left hd hk hi hf hu hul
    obtain ⟨k, rfl⟩ : ∃ m, k = m + 1 := ⟨k - 1, by omega⟩
    have hlt : i < l.length := by omega
    rw [List.drop_eq_getElem_cons hlt] at hf
    simp only [findK] at hf
    rw [tidepolelaw29_RankAt.l0, if_pos (by simp; omega), if_pos (by omega), if_pos (by simp; omega), rdRb_at (by simp; omega), wrap_succ (by omega)]
    simp only [List.getElem_map, toRb]
    have hx := hu l[i] (List.getElem_mem hlt)
    by_cases c : left ≤ l[i].n
    · rw [if_pos c] at hf ⊢
      obtain rfl := Option.some.inj hf
      simp [tidepolelaw29_like.f, tidepolelaw29_awake.f]
    · rw [if_neg c] at hf ⊢
      unfold u64 at hx hul
      rw [u64_wrap ⟨by omega, by omega⟩]
      exact ih k (i + 1) _ (by omega) (by omega) (by omega) hf hu ⟨by omega, by omega⟩
theorem rankAt_f (h : Hi) (hw0 : wfI29 h) (k0 : Int) (hk0 : u64 k0) : tidepolelaw29_RankAt.f 6000000 h.f0 h.f1 h.f2 h.f3 h.f4 h.f5 h.f6 h.f7 h.f8 k0 = some true := by
  obtain ⟨b, hb, eb⟩ := small29_eq h
  unfold tidepolelaw29_RankAt.f
  rw [eb _ (by omega)]
  simp only [Option.bind_some]
  cases b with
  | false => rfl
  | true =>
    obtain ⟨n5, n6, n7, n8⟩ := hb rfl
    have hw := wfI29_wf hw0 n7 n8
    rw [if_pos rfl, rank_Total.eq h hw, rank_At.eq h hw k0 hk0, ref29_eq h n5 n6 _ (by omega)]
    simp only [Option.bind_some]
    rw [refCheck09_eq h hw (by omega) (by omega) _ (by omega)]
    simp only [Option.bind_some]
    by_cases hc : checkR h = 0
    · rw [if_pos hc, order29_eq h hw hc _ (by omega)]
      simp only [Option.bind_some]
      have ht : totalR h = (sumB (toldW h), 0) := by unfold totalR; rw [if_pos hc, told_wrap hw hc]
      obtain ⟨s0, s1⟩ := told_sum hw hc
      rw [total29_eq _ (by have := told_len hw; omega) _ (by have := told_len hw; omega), told_wrap hw hc]
      simp only [ht, Option.bind_some, if_true]
      rw [decide_eq_false (by omega), show (6000000 : Nat) = 5999999 + 1 from rfl, tidepolelaw29_RankAt.j0, if_neg (by decide)]
      have hj : tidepolelaw29_RankAt.j1 5999999 k0 (atR h k0).2 (List.map toRb (toldW h)) (decide (k0 = 0 ∨ k0 > sumB (toldW h))) (atR h k0).1.s (atR h k0).1.p (atR h k0).1.n = some true := by
        rw [show (5999999 : Nat) = 5999998 + 1 from rfl, tidepolelaw29_RankAt.j1]
        have hk1 := hk0.1
        by_cases c : k0 = 0 ∨ k0 > sumB (toldW h)
        · rw [decide_eq_true c, if_pos rfl]
          have ha : atR h k0 = (⟨0, 0, 0⟩, 11) := by
            unfold atR
            rw [if_pos hc]
            by_cases c0 : 0 < k0
            · rw [if_pos c0]
              cases e : findK (toldW h) k0 with
              | none => rfl
              | some b => have := (findK_is hw c0).1 ⟨b, e⟩; omega
            · rw [if_neg c0]
          rw [ha]
          simp [tidepolelaw29_awake.f]
        · rw [decide_eq_false c, if_neg (by decide)]
          obtain ⟨b, hb⟩ := (findK_is hw (k := k0) (by omega)).2 (by omega)
          have ha : atR h k0 = (b, 0) := by unfold atR; rw [if_pos hc, if_pos (by omega), hb]
          rw [ha]
          exact rankAt_l0 (toldW h) (told_len hw) b (toldW h).length 5999998 0 k0 (by omega) (by have := told_len hw; omega) (by omega) hb (toldW_u64 hw) hk0
      by_cases c : k0 = 0
      · rw [if_pos c]
        rw [decide_eq_true (.inl c)] at hj
        exact hj
      · rw [if_neg c]
        have e : (k0 = 0 ∨ k0 > sumB (toldW h)) ↔ k0 > sumB (toldW h) := by omega
        rw [decide_eq_decide.2 e] at hj
        exact hj
    · rw [if_neg hc]
      have ht : totalR h = (0, checkR h) := by unfold totalR; rw [if_neg hc]
      have ha : atR h k0 = (⟨0, 0, 0⟩, checkR h) := by unfold atR; rw [if_neg hc]
      rw [ht, ha]
      simp [tidepolelaw29_awake.f]
end Go.Proofs.Ytcabapilejagkaa.P
namespace Go.Proofs.Ytcabapilejagkaa.Pure
open Go.RowKit Go.Proofs.Ytcabapilejagkaa.P Go.Proofs.YtcabapilejagkaaW.PrintWords
theorem RankAt : ∀ (x0 : S37) (x1 : Int), wf37 x0 → inI .u64 x1 → ∃ k, tidepolelaw29_RankAt.f k x0.f0 x0.f1 x0.f2 x0.f3 x0.f4 x0.f5 x0.f6 x0.f7 x0.f8 x1 = some true := fun x0 x1 h0 h1 => ⟨_, rankAt_f x0 (wfI29_of h0) x1 (u64_of h1)⟩
end Go.Proofs.Ytcabapilejagkaa.Pure
namespace Go.Proofs.Ytcabapilejagkaa.rankAt
open Go.ChangeShapes Go.WideShapes Go.ChangeAt Go.RowKit Go.Proofs.Ytcabapilejagkaa.P Go.Proofs.YtcabapilejagkaaW.PrintWords
set_option linter.unusedVariables false
theorem own : ownKnob Try.prog.godebug = none := by kernel_rfl
theorem laidOut : laidOutB Try.prog = true := by kernel_rfl
set_option maxRecDepth 100000 in
set_option maxHeartbeats 4000000 in
theorem lifted (os : Os) (started : os.Started) (H : Type) (enc : TypeId × Value → H) :
    ReturnsInHanded {} Try.checked os 6 .any (Rows.rankAtSpec.pre6 enc Try.prog Try.f6 Rows.rankAtRow.domain false) (Rows.rankAtSpec.post enc Try.prog Try.f6 false true false false) := by
  refine returnsInHanded_of_change_sized (C := Try.checked) own started (by kernel_rfl) Try.func6
    (ChangeSpec.witness6 (enc := enc) (C := Try.checked) false ⟨#[], #[.agg #[.int .i64 0, .int .u64 0, .int .u64 0, .int .u64 0, .int .u64 0, .slice none 0 0, .slice none 0 0, .slice none 0 0, .slice none 0 0], .int .u64 0], []⟩ 8 (by kernel_rfl) (by kernel_rfl) (by kernel_rfl) (by kernel_rfl)) ?_
  intro W base args ds gs before hval0 hW hcnd hsz0 _
  have hval : ∀ (j : Nat) t v, Try.f6.params[j]? = some t → args[j]? = some v → Value.okWide Try.prog W .any base t v := hval0
  have hW' := hW
  obtain ⟨p, q, hA0, hV, rfl, hfz, hnd⟩ := hW
  have hA : DataW.TrodAll enc Try.prog W 0 (fun _ => true) true Try.f6.params.toList args.toList ds p := hA0
  rw [Try.params6] at hA hval
  obtain ⟨v0, vs0, d0, ds0, p0, q0, hargs, rfl, rfl, h0, r0⟩ := trodAll_cons hA
  obtain ⟨v1, vs1, d1, ds1, p1, q1, rfl, rfl, rfl, h1, r1⟩ := trodAll_cons r0
  obtain ⟨rfl, rfl, rfl⟩ := trodAll_nil r1
  obtain rfl : args = #[v0, v1] := by cases args; simp_all
  obtain ⟨rfl, rfl⟩ := trodVars_none hV
  have k0 := h0
  have lt0 : ∀ x ∈ p0, x.block < W.heap.size := by obtain ⟨m, hm⟩ := k0; exact DataW.trod_lt m _ _ _ hm
  obtain ⟨fu0, hf0⟩ := h0
  obtain ⟨x0, hK0, w0⟩ := opens37 enc W 0 _ true fu0 _ _ hf0
  obtain ⟨cs0, rfl, _⟩ := okWide_struct Try.underlying37 (hval 0 37 v0 rfl rfl)
  obtain ⟨A0_5, c0_5, A0_6, c0_6, A0_7, c0_7, A0_8, c0_8, he0, h0_5_l, hC0_5, h0_6_l, hC0_6, h0_7_l, hC0_7, h0_8_l, hC0_8⟩ := k37_open hK0
  obtain rfl : cs0 = #[.int .i64 x0.f0, .int .u64 x0.f1, .int .u64 x0.f2, .int .u64 x0.f3, .int .u64 x0.f4, .slice A0_5 x0.f5.length c0_5, .slice A0_6 x0.f6.length c0_6, .slice A0_7 x0.f7.length c0_7, .slice A0_8 x0.f8.length c0_8] := by
    have he : cs0.toList = _ := he0
    exact Array.toList_inj.1 he
  obtain ⟨a1, rfl, rfl, rfl, w1⟩ := open_int Try.underlying33 (hval 1 33 v1 rfl rfl) h1
  clear hA0 hval0 hsz0
  obtain ⟨k, hk⟩ := Pure.RankAt x0 a1 w0 w1
  refine (P.tidepolelaw29_RankAt.calls k x0.f0 x0.f1 x0.f2 x0.f3 x0.f4 A0_5 c0_5 x0.f5 A0_6 c0_6 x0.f6 A0_7 c0_7 x0.f7 A0_8 c0_8 x0.f8 a1 true W hC0_5 h0_5_l hC0_6 h0_6_l hC0_7 h0_7_l hC0_8 h0_8_l hk).mono fun e W' ⟨he, bel⟩ => ?_
  subst he
  exact ⟨_, rfl, _, _, _, [], _, [], hW', trodAll_mk1 (shut_bool Try.underlying4 _), (trodAll_cons_mk (Below.trod laidOut (by kernel_rfl) (of_decide_eq_true (by kernel_rfl)) k0 bel lt0) (trodAll_cons_mk (shut_int Try.underlying33 w1) trodAll_mk0)), rfl, bel.frame _, fun h => by cases h⟩
theorem cf0 : (Rows.rankAtRow.wf (OpenSpec.ofChange Rows.rankAtSpec)) = true := by kernel_rfl
theorem cf1 : (laidOutB Try.prog) = true := P.head_laidOut
theorem cf2 : (mapsRowed Try.prog) = true := P.head_mapsRowed
theorem cf3 : (Try.f6.params.all (Try.prog.readableRec ·)) = true := by kernel_rfl
theorem cf4 : (namedTie Try.prog Rows.rankAtRow.named Rows.rankAtSpec.vars) = true := by kernel_rfl
theorem cf5 : ((Rows.rankAtRow.stops == [])) = true := by kernel_rfl
theorem cf6 : ((Try.prog.stops == [])) = true := P.head_stops
theorem cf7 : ((Rows.rankAtRow.knobs == [])) = true := by kernel_rfl
theorem cf8 : ((Try.prog.stopKnobs == [])) = true := P.head_stopKnobs
theorem cf9 : ((Rows.rankAtRow.inPlace == Try.prog.inPlace 6)) = true := by kernel_rfl
theorem cf10 : ((Rows.rankAtRow.unfollowed == Try.prog.unfollowed 6)) = true := by kernel_rfl
theorem cf11 : ((Rows.rankAtRow.recurses == Try.prog.recurses 6)) = true := by kernel_rfl
theorem cf12 : ((Rows.rankAtRow.named == Try.prog.varsNamed 6)) = true := by kernel_rfl
theorem cf13 : ((Rows.rankAtRow.maps == (Try.f6.params.toList ++ Rows.rankAtSpec.plain.varTypes Try.prog).any (Try.prog.mapsRec ·))) = true := by kernel_rfl
theorem cf14 : ((Rows.rankAtRow.ifaces == (Try.f6.params.toList ++ Rows.rankAtSpec.plain.varTypes Try.prog).any (Try.prog.ifacesRec ·))) = true := by kernel_rfl
theorem cf15 : ((Rows.rankAtRow.mapsOut == Try.prog.mapsAmong Try.f6.resultTypes.toList)) = true := by kernel_rfl
theorem cf16 : ((Rows.rankAtRow.loops == (Try.f6.params.toList ++ Rows.rankAtSpec.plain.varTypes Try.prog).any (Try.prog.loopsFrom ·))) = true := by kernel_rfl
theorem cf17 : ((Rows.rankAtRow.wideKeys == (Try.f6.params.toList ++ Rows.rankAtSpec.plain.varTypes Try.prog ++ Try.f6.resultTypes.toList).any (Try.prog.wideKeysFrom ·))) = true := by kernel_rfl
theorem cf18 : (Rows.rankAtSpec.vars.all (Try.prog.varReadable ·)) = true := by kernel_rfl
theorem cf19 : (Try.f6.resultTypes.all (fun t => Try.prog.readableRec t && decide (t < Try.prog.types.size))) = true := by kernel_rfl
theorem cf20 : ((Rows.rankAtRow.ifacesOut == Try.f6.resultTypes.toList.any (Try.prog.ifacesRec ·))) = true := by kernel_rfl
theorem cf21 : ((Rows.rankAtRow.loopsOut == Try.f6.resultTypes.toList.any (Try.prog.loopsFrom ·))) = true := by kernel_rfl
theorem cf22 : ((Rows.rankAtRow.plainKeys == Try.prog.plainKeys)) = true := by rw [P.head_plainKeys]; kernel_rfl
theorem cf23 : (Rows.rankAtRow.shortTexts.isNone) = true := by kernel_rfl
theorem cf24 : (Try.prog.stopsHeard) = true := P.head_stopsHeard
theorem cf25 : (Try.prog.mayEnter) = true := P.head_mayEnter
theorem cf26 : ((Rows.rankAtRow.lifted == Try.prog.liftsFinal)) = true := by rw [P.head_liftsFinal]; kernel_rfl
theorem cf27 : ((Try.prog.make == some Rows.rankAtRow.make)) = true := by rw [P.head_make]; kernel_rfl
theorem cf28 : ((Rows.rankAtRow.kinds == (if Rows.rankAtRow.domain.isEmpty then [] else Try.f6.params.toList.map fun t => match Try.prog.underlying t with | some (.int k) => some k | _ => none))) = true := by kernel_rfl
theorem cf29 : ((Rows.rankAtRow.pinned == Rows.rankAtRow.pinnedBy)) = true := by kernel_rfl
theorem cf30 : ((Rows.rankAtRow.veiled == (Try.f6.params.toList ++ Rows.rankAtSpec.plain.varTypes Try.prog ++ Try.f6.resultTypes.toList).any (Try.prog.veiledRec ·))) = true := by kernel_rfl
theorem cf31 : (Rows.rankAtRow.veiledFits Try.prog Try.f6.params.toList (Try.f6.params.toList ++ Rows.rankAtSpec.plain.varTypes Try.prog ++ Try.f6.resultTypes.toList)) = true := by kernel_rfl
theorem band_mk {a b : Bool} (h : a = true) (k : b = true) : (a && b) = true := by rw [h, k]; rfl
theorem closed : joinedFacts Try.prog 6 Try.f6 Rows.rankAtSpec Rows.rankAtRow = true := by unfold joinedFacts; exact (band_mk (band_mk (band_mk (band_mk (band_mk (band_mk (band_mk (band_mk (band_mk (band_mk (band_mk (band_mk (band_mk (band_mk (band_mk (band_mk (band_mk (band_mk (band_mk (band_mk (band_mk (band_mk (band_mk (band_mk (band_mk (band_mk (band_mk (band_mk (band_mk (band_mk (band_mk cf0 cf1) cf2) cf3) cf4) cf5) cf6) cf7) cf8) cf9) cf10) cf11) cf12) cf13) cf14) cf15) cf16) cf17) cf18) cf19) cf20) cf21) cf22) cf23) cf24) cf25) cf26) cf27) (by kernel_rfl)) cf29) cf30) cf31)
theorem over : Rows.rankAtRow.holds Try.pinned (OpenSpec.ofChange Rows.rankAtSpec) :=
  OpenClaim.holds_of_wide 6 Try.f6 rfl rfl rfl rfl rfl rfl rfl ⟨rfl, rfl, rfl, rfl, rfl⟩ rfl rfl rfl rfl rfl (by kernel_rfl) Try.func6 closed
    (of_decide_eq_true (by kernel_rfl)) (by unfold Func.isWrapper; first | (rw [if_pos (by decide +kernel)]; kernel_rfl) | (rw [if_neg (by decide +kernel)]; exact ⟨rfl, rfl⟩))
    (fun os started H enc _ => lifted os started H enc)
theorem proved : Rows.RankAtSaid := over
#print axioms proved
end Go.Proofs.Ytcabapilejagkaa.rankAt
namespace Go.Proofs.Ytcabapilejagkaa
theorem rankAt_holds : Rows.RankAtSaid := rankAt.proved
end Go.Proofs.Ytcabapilejagkaa
