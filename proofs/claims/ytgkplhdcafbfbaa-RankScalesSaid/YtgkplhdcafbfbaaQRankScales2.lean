/- RankScales: the part that this text bears of the proof that the statement answers true for every input. No condition. -/
import Derived.Test.YtgkplhdcafbfbaaProg
import Derived.Below
import Derived.Deep.Draws
import Derived.Deep.AppendLies
import Derived.Maps.AppendAt
import Derived.OwnWalk
import Derived.Laws.BytesArg
import Derived.Laws.MakeOwn
import Derived.Laws.OwnMore
import Derived.Deep.OwnRows
import Derived.Tactics
import Derived.Lib.ConvBytes
import Derived.Laws.Slices
import Derived.WalkKit
import Derived.KernelRfl
import Derived.RowKit3
import Derived.Deep.LoopGhost
import Derived.Deep.QuietTactic
import Derived.BigQuiet
import Derived.WideLaws
import Derived.Deep.DeepCutAuto
import Derived.Deep.CutBlock
import Derived.Deep.RegionHeld3
import Derived.Laws.Rows
import Derived.Lib.AppendStr
import Derived.ArgAppend
import Derived.Laws.IdiomCopy
import Derived.OrdersHeld
import Derived.Laws.BitsLemmas
import Derived.RowKit
import Derived.Deep.Slices
import Derived.ChangeArms
import Derived.Shelf.Abstract
import Derived.WalkSpells
import Derived.RangeFuncNested
import Derived.RangeFuncBound
import Derived.RangeFuncCalls
import Derived.RangeFuncLeaves
import Derived.RangeFuncBox
import Derived.OwnWalkIn
import Derived.TacticsInMore
import Derived.LoopNIn
import Derived.LoopIn
import Derived.Laws.Externs
import Derived.Shelf.Spec.BitsCarry
import Derived.RegionIn
import Derived.Sort.QuietTacIn
import Derived.Deep.RegionWith
import Derived.Laws.BitsAllLaws
import Derived.Outline
import Derived.Laws.StructEq
import Derived.Test.YtgkplhdcafbfbaaQRankScalesWWords
import Derived.Test.YtgkplhdcafbfbaaQRankScalesWLast
import Derived.Test.YtgkplhdcafbfbaaQRankScalesWTab
import Derived.Test.YtgkplhdcafbfbaaQRankScalesWFour
import Derived.Test.YtgkplhdcafbfbaaQRankScalesWQPut
import Derived.Test.YtgkplhdcafbfbaaQRankScalesWApart
import Derived.Test.YtgkplhdcafbfbaaQRankScalesWArr
import Derived.Test.YtgkplhdcafbfbaaQRankScalesWZeros
import Derived.Test.YtgkplhdcafbfbaaQRankScalesWFoot
import Derived.Test.YtgkplhdcafbfbaaQRankScalesWKept
import Derived.Test.YtgkplhdcafbfbaaQRankScalesWShare
import Derived.Test.YtgkplhdcafbfbaaQRankScalesWN
import Derived.Test.YtgkplhdcafbfbaaQRankScalesWFootNe
import Derived.Test.YtgkplhdcafbfbaaQRankScalesWAt
import Derived.Test.YtgkplhdcafbfbaaQRankScalesWEqStruct
import Derived.Test.YtgkplhdcafbfbaaQRankScalesWRepsOne
import Derived.Test.YtgkplhdcafbfbaaQRankScalesWInv
import Derived.Test.YtgkplhdcafbfbaaQRankScalesWInvWords
import Derived.Test.YtgkplhdcafbfbaaQRankScalesWGuard
import Derived.Test.YtgkplhdcafbfbaaQRankScalesWNEv
import Derived.Test.YtgkplhdcafbfbaaQRankScalesWMore
import Derived.Test.YtgkplhdcafbfbaaRows
import Derived.Test.YtgkplhdcafbfbaaQRankScales0
import Derived.Test.YtgkplhdcafbfbaaQRankScales1
set_option linter.unusedVariables false
set_option linter.unusedSimpArgs false
namespace Go.Proofs.Ytgkplhdcafbfbaa.P
open Go.RowKit Go.Shelf Go.Proofs.YtgkplhdcafbfbaaW.PrintWords Go.Proofs.YtgkplhdcafbfbaaW.PrintLast Go.Proofs.YtgkplhdcafbfbaaW.PrintMore
def PredP_int64 (g : Nat) (cap : Array Value) (p : S62 → Bool) (w : World) : Prop :=
  ∀ (W : World) (x : S62), Below w.heap.size w W → Calls Try.prog g (#[.agg #[.int .i64 x.f0, .int .i64 x.f1]] ++ cap) W fun e w' => e = .returned (.bool (p x)) ∧ Below W.heap.size W w'
theorem rd_nat_int64 (l : List S62) (i : Nat) (h : i < l.length) : rd_T62 l (i : Int) = l[i] := by
  unfold rd_T62; simp [List.getD, h]
set_option maxHeartbeats 2000000 in
theorem indexFunc_pairs_int64 (g : Nat) (cap : Array Value) (p : S62 → Bool) (A : Option Addr) (c : Nat) (l : List S62) (w : World)
    (hr : Kd.C k62 w A l.length l) (hc : l.length ≤ c) (hm : l.length ≤ 9223372036854775807) (hp : PredP_int64 g cap p w) (eg : ∀ args w, (callFunc g args).run Try.prog w = .ok (.enter g args) w) :
    Calls Try.prog 116 #[.slice A l.length c, .func (.func g) #[] cap] w fun e w' => e = .returned (.int .i64 (idxP p l)) ∧ Below w.heap.size w w' := by
  have hu := Try.underlying62
  have HR := Aside0.mk hr
  have HP := Aside0.mk hp
  clear hr hp
  go_enter Try.func116, Try.ntmps116
  go_wp2
  go_loopg [5, 8] l.length (fun gg _ s8 wr => ∃ kk : Nat, kk ≤ l.length ∧ l.length - kk ≤ gg ∧ s8 = .int .i64 kk ∧ Aside0 (Below w.heap.size w wr) ∧ Aside0 (∀ j (hj : j < kk) (hj2 : j < l.length), p l[j] = false))
  case atStart => exact ⟨0, Nat.zero_le _, by omega, rfl, ⟨Below.refl _ w⟩, ⟨fun j hj => absurd hj (Nat.not_lt_zero _)⟩⟩
  case round =>
    obtain ⟨kk, hkk, hg, rfl, HB, HA⟩ := hrel
    by_cases hlt : kk < l.length
    · have hlti : (kk : Int) < (l.length : Int) := by omega
      obtain ⟨ad, e1, hx0, hx1⟩ := at_T62 HR.out kk (by omega) (by omega)
      cases e1
      replace hx0 := (HB.out.cell (World.block_lt_of_cell? w _ hx0)).trans hx0
      replace hx1 := (HB.out.cell (World.block_lt_of_cell? w _ hx1)).trans hx1
      rw [rd_nat_int64 l kk hlt, Int.toNat_natCast] at hx0 hx1
      have hcall := HP.out wr l[kk] HB.out
      generalize hy : l[kk] = y at hx0 hx1 hcall
      have HY := Aside0.mk hy
      clear hy
      cases hq : p y with
      | true =>
        rw [hq] at hcall
        have HQ := Aside0.mk hq
        clear hq
        have HC := Aside0.mk hcall
        clear hcall
        go_wp2_with (go_at_fn g; refine HC.out.mono ?_; rintro e w' ⟨rfl, hb'⟩)
        go_ret
        refine ⟨?_, HB.out.trans (hb'.mono HB.out.size)⟩
        rw [idxP_hit p l kk hlt (by rw [HY.out]; exact HQ.out) (fun j hj => HA.out j hj (by omega))]; rfl
      | false =>
        rw [hq] at hcall
        have HQ := Aside0.mk hq
        clear hq
        have HC := Aside0.mk hcall
        clear hcall
        go_wp2_with (go_at_fn g; refine HC.out.mono ?_; rintro e w' ⟨rfl, hb'⟩)
        go_roundg (l.length - (kk + 1))
        case measure => omega
        case rel =>
          refine ⟨kk + 1, by omega, by omega, by go_num, ⟨HB.out.trans (hb'.mono HB.out.size)⟩, ⟨fun j hj hj2 => ?_⟩⟩
          by_cases e : j = kk
          · subst e
            rw [HY.out]; exact HQ.out
          · exact HA.out j (by omega) hj2
    · have hlti : ¬ (kk : Int) < (l.length : Int) := by omega
      have hk : kk = l.length := by omega
      go_wp2
      go_ret
      refine ⟨?_, HB.out⟩
      rw [idxP_miss p l (fun j hj => HA.out j (by omega) hj)]; rfl
end Go.Proofs.Ytgkplhdcafbfbaa.P
namespace Go.Proofs.Ytgkplhdcafbfbaa.P
open Go.RowKit Go.Shelf Go.Proofs.YtgkplhdcafbfbaaW.PrintWords Go.Proofs.YtgkplhdcafbfbaaW.PrintLast Go.Proofs.YtgkplhdcafbfbaaW.PrintMore
def slices_Clone_pair.f (l0 : List S62) : Option (List S62) := if l0.length < 8796093022208 then some l0 else none
set_option maxHeartbeats 2000000 in
set_option maxRecDepth 100000 in
theorem slices_Clone_pair.calls (A0 : Option Addr) (c0 : Nat) (l0 r : List S62) (w : World) (hr0 : Kd.C k62 w A0 l0.length l0) (hc0 : l0.length ≤ c0) (h : slices_Clone_pair.f l0 = some r) :
    Calls Try.prog 86 #[.slice A0 l0.length c0] w fun e w' => ∃ v0_ : Value, e = .returned (v0_) ∧ Kd.R k62 62 w' w.heap.size (fun _ => True) v0_ r ∧ Below w.heap.size w w' := by
  obtain ⟨hm, h2⟩ := of_ite_some h
  subst h2
  clear h
  have hu := Try.underlying58
  have HM := Aside0.mk hm
  clear hm
  cases A0 with
  | none =>
    have hl : l0 = [] := by
      rcases Nat.eq_zero_or_pos l0.length with h | h
      · exact List.length_eq_zero_iff.1 h
      · obtain ⟨ad, e, _⟩ := hr0.2.2 h
        cases e
    subst hl
    have hn : ∀ W n c, (binOp .eql 58 (.slice none n c) (.slice none 0 0)).run Try.prog W = .ok (.bool true) W := fun W n c => by
      exact Lib.run_eql_slice_nil W _ _ none n c 0 0 Try.underlying58
    go_enter Try.func86, Try.ntmps86
    go_wp2
    go_ret
    exact ⟨_, rfl, Kd.R_nil _ _ _ _ _, Below.refl _ _⟩
  | some ad =>
    have hn : ∀ W n c, (binOp .eql 58 (.slice (some ad) n c) (.slice none 0 0)).run Try.prog W = .ok (.bool false) W := fun W n c => by
      exact Lib.run_eql_slice_nil W _ _ (some ad) n c 0 0 Try.underlying58
    have HR := Aside0.mk hr0
    clear hr0
    go_enter Try.func86, Try.ntmps86
    go_wp2_with ((with_reducible refine gate_builtin (b := .append) (xs := #[.tmp 5, .tmp 6]) rfl ?_); at_builtin; refine Kd.R_append_rows k62 (w0 := w) (Rr := k62.K w) w.heap.size rfl (.tmp 5) (.tmp 6) 58 62 _ 16 rfl Try.underlying58 info62 rfl (by decide) (by omega) (.slice (some ⟨w.heap.size, 0, none⟩) 0 0) [] l0 (some ad) l0.length c0 (fun _ => True) (fun _ => False) rfl rfl ?aO ?aR ?aK (fun _ hk => hk.elim) (fun _ _ => trivial) ?aB ?aS ?aL ?_; (case aO => exact ⟨fun _ _ => trivial, [], ⟨rfl, .inr ⟨w.heap.size, 0, #[], rfl, Nat.le_refl _, by simpa using blk_new w _, Nat.le_refl _, by unfold maxLen; omega, rfl, rfl⟩⟩, Reps.none _ _⟩); (case aR => exact HR.out.imp_ (below_alloc (Below.refl _ _) _) (fun _ _ h => h)); (case aK => intro x cs hx; rw [k62_open hx]; exact k62_mkM _ _ _ x); (case aB => exact below_alloc (Below.refl _ _) _); (case aS => simp); (case aL => have := HM.out; simp; omega); intro v1 w1 ho hb hg hat; rw [List.nil_append] at ho; have HO := Aside0.mk ho; have HB := Aside0.mk hb; clear ho hb hg hat)
    go_ret
    exact ⟨_, rfl, HO.out, HB.out⟩
end Go.Proofs.Ytgkplhdcafbfbaa.P
namespace Go.Proofs.Ytgkplhdcafbfbaa.P
open Go.RowKit Go.Shelf Go.Proofs.YtgkplhdcafbfbaaW.PrintWords Go.Proofs.YtgkplhdcafbfbaaW.PrintLast Go.Proofs.YtgkplhdcafbfbaaW.PrintMore
theorem flat_int64 : ∀ w w1 base ok x cs, k62.M w base ok x cs → k62.M w1 base ok x cs := fun w w1 base ok x cs h => by
  rw [k62_openM h]; exact k62_mkM _ _ _ x
theorem zero_int64 (n : Nat) : (Builtin.zeroCells (Value.agg #[.int .i64 0, .int .i64 0]).cells n).toList.length = n * 2 ∧ ∀ v ∈ (Builtin.zeroCells (Value.agg #[.int .i64 0, .int .i64 0]).cells n).toList, v.oneCell' = true := by
  have hc : (Value.agg #[.int .i64 0, .int .i64 0]).cells = #[.int .i64 0, .int .i64 0] := by kernel_rfl
  rw [hc]
  refine ⟨by simp [Builtin.zeroCells], fun v hv => ?_⟩
  simp only [Builtin.zeroCells, Array.toList_map, List.mem_map] at hv
  obtain ⟨i, _, rfl⟩ := hv
  have : i % 2 = 0 ∨ i % 2 = 1 := by omega
  rcases this with h | h <;> simp [h] <;> rfl
set_option maxHeartbeats 4000000 in
set_option maxRecDepth 100000 in
theorem deleteFunc_int64 (g : Nat) (cap : Array Value) (p : S62 → Bool) (w0 w : World) (v : Value) (xs : List S62)
    (HO : Kd.R k62 62 w w0.heap.size (fun _ => True) v xs) (HB : Below w0.heap.size w0 w) (hp : PredP_int64 g cap p w0) (eg : ∀ args w, (callFunc g args).run Try.prog w = .ok (.enter g args) w) :
    Calls Try.prog 85 #[v, .func (.func g) #[] cap] w fun e w' => ∃ v' : Value, e = .returned v' ∧ Kd.R k62 62 w' w0.heap.size (fun _ => True) v' (xs.filter (fun x => !p x)) ∧ Below w0.heap.size w0 w' := by
  have hu := Try.underlying62
  obtain ⟨A, c, rfl, hlc, hC⟩ := Kd.R_reads HO
  have hm : xs.length ≤ 9223372036854775807 := hC.2.1
  have HI := indexFunc_pairs_int64 g cap p A c xs w hC hlc hm (fun W x hb => hp W x (below_then HB HB.size hb)) eg
  have HX := idxP_cases p xs
  have HP := Aside0.mk hp
  clear hp
  generalize idxP p xs = ix at HI HX
  rcases HX with ⟨rfl, hfil⟩ | ⟨i0, hi0, rfl, hhit, hbef⟩
  · rw [hfil]
    have HI := Aside0.mk HI
    have HO := Aside0.mk HO
    have HB := Aside0.mk HB
    clear hC hfil
    go_enter Try.func85, Try.ntmps85
    go_wp2_with (go_at_call 116; refine HI.out.mono ?_; rintro e w' ⟨rfl, hb'⟩)
    go_ret
    exact ⟨_, rfl, Kd.R_below HO.out hb', below_then HB.out HB.out.size hb'⟩
  · obtain ⟨gb, cp, hv, hbg, hgl, cells, hcells⟩ := Kd.R_form HO (by omega)
    injection hv with hA _ hcp
    subst hA; subst hcp
    have hne : (((i0 : Int)) == -1) = false := beq_eq_false_iff_ne.2 (by omega)
    have HS := DelInv.start hi0 hhit hbef
    have HI := Aside0.mk HI
    have HO := Aside0.mk HO
    have HB := Aside0.mk HB
    have HS := Aside0.mk HS
    have HM := Aside0.mk hm
    have hi0' : i0 + 1 ≤ xs.length := hi0
    clear hC hhit hbef hcells
    go_enter Try.func85, Try.ntmps85
    go_wp2_with (go_at_call 116; refine HI.out.mono ?_; rintro e w' ⟨rfl, hb'⟩; have HO1 := Aside0.mk (Kd.R_below HO.out hb'); have HB1 := Aside0.mk (below_then HB.out HB.out.size hb'); clear hb' HI HO HB)
    go_loopg [5, 6] xs.length (fun gg s5 s6 wr => ∃ (i j : Nat) (ys : List S62), s5 = .int .i64 i ∧ s6 = .int .i64 j ∧ j ≤ xs.length ∧ xs.length - j ≤ gg ∧ Aside0 (DelInv p xs i j ys) ∧ Aside0 (Kd.R k62 62 wr w0.heap.size (fun _ => True) (.slice (some ⟨gb, 0, none⟩) xs.length c) ys) ∧ Aside0 (Below w0.heap.size w0 wr))
    case atStart => exact ⟨i0, i0 + 1, xs, rfl, by go_num, by omega, by omega, HS, HO1, HB1⟩
    case round =>
      obtain ⟨i, j, ys, rfl, rfl, hj, hg, HD, HO, HB⟩ := hrel
      clear HS HO1 HB1
      have hlen := HD.out.len
      have hij := HD.out.lt
      by_cases hlt : j < xs.length
      · have hlti : (j : Int) < (xs.length : Int) := by omega
        have hii : (i : Int) < (xs.length : Int) := by omega
        obtain ⟨hj2, hyx⟩ := HD.out.at_ hlt
        have hC := (Kd.R_reads' HO.out).2.2
        obtain ⟨ad, e1, hx0, hx1⟩ := at_T62 hC j (by omega) (by omega)
        cases e1
        rw [rd_nat_int64 ys j hj2, Int.toNat_natCast, hyx] at hx0 hx1
        rw [add_plain] at hx0 hx1
        dsimp only at hx1
        have hcall := HP.out (wr.alloc (.cells #[.int .i64 xs[j].f0, .int .i64 xs[j].f1] 62)) xs[j] (below_then HB.out HB.out.size (below_alloc (Below.refl _ _) _))
        clear hC
        cases hq : p xs[j] with
        | true =>
          rw [hq] at hcall
          have HD' := Aside0.mk (HD.out.skip hlt hq)
          have HC := Aside0.mk hcall
          clear hcall hq hyx
          generalize xs[j] = y at hx0 hx1 HC
          go_wp2_with (go_at_fn g; refine HC.out.mono ?_; rintro e w' ⟨rfl, hb'⟩; have HB1 := Aside0.mk (below_then (below_then HB.out HB.out.size (below_alloc (Below.refl _ _) _)) (by have := HB.out.size; simp; omega) hb'); have HO1 := Aside0.mk (Kd.R_below (Kd.R_below HO.out (below_alloc (Below.refl _ _) _)) hb'); clear hb' HO HB)
          go_roundg (xs.length - (j + 1))
          case measure => omega
          case rel => exact ⟨i, j + 1, ys, rfl, by go_num, by omega, by omega, HD', HO1, HB1⟩
        | false =>
          rw [hq] at hcall
          have HD' := Aside0.mk (HD.out.keep hlt hq)
          have HC := Aside0.mk hcall
          clear hcall hq hyx
          generalize xs[j] = y at hx0 hx1 HC HD'
          go_wp2_with (first | (go_at_fn g; refine HC.out.mono ?_; rintro e w' ⟨rfl, hb'⟩; have hv0 : w'.cell? ⟨wr.heap.size, 0, none⟩ = some (.int .i64 y.f0) := (hb'.cell (p := ⟨wr.heap.size, 0, none⟩) (by simp)).trans (by simp); have hv1 : w'.cell? ⟨wr.heap.size, 1, none⟩ = some (.int .i64 y.f1) := (hb'.cell (p := ⟨wr.heap.size, 1, none⟩) (by simp)).trans (by simp); have HB1 := Aside0.mk (below_then (below_then HB.out HB.out.size (below_alloc (Below.refl _ _) _)) (by have := HB.out.size; simp; omega) hb'); have HO1 := Aside0.mk (Kd.R_below (Kd.R_below HO.out (below_alloc (Below.refl _ _) _)) hb'); clear hb' HO HB) | ((with_reducible refine gate_ (.store 62 (.tmp 33) (.tmp 32)) rfl ?_); obtain ⟨ce, hcl, hcM, hcc, hcf⟩ := Kd.R_elem HO1.out z62 (i : Int) (by omega) (by omega); refine Kd.R_store k62 (w0 := w0) w0.heap.size rfl rfl 62 (.tmp 33) (.tmp 32) rfl 62 (i : Int) 0 ys y (.agg #[.int .i64 y.f0, .int .i64 y.f1]) [.int .i64 y.f0, .int .i64 y.f1] ce (fun _ => True) (fun _ => False) (by first | rfl | simp) rfl rfl rfl (by kernel_rfl) (by intro q hq; simp at hq; rcases hq with rfl | rfl <;> rfl) HO1.out (by omega) (by omega) hcl hcc (by show 0 + 2 ≤ 2; omega) (by rw [show ce.drop (0 + [Value.int .i64 y.f0, Value.int .i64 y.f1].length) = [] from List.drop_eq_nil_of_le (by rw [hcl]; exact Nat.le_refl 2)]; exact k62_mkM _ _ _ y) (fun _ h => h.elim) HB1.out ?_; intro w1 ho hb hg; rw [Int.toNat_natCast] at ho; have HO2 := Aside0.mk ho; have HB2 := Aside0.mk hb; clear ho hb hg hcl hcM hcc hcf HO1 HB1))
          go_roundg (xs.length - (j + 1))
          case measure => omega
          case rel => exact ⟨i + 1, j + 1, ys.set i y, by go_num, by go_num, by omega, by omega, HD', HO2, HB2⟩
      · have hjx : j = xs.length := by omega
        subst hjx
        have hlti : ¬ (xs.length : Int) < (xs.length : Int) := by omega
        have hii : (i : Int) < (xs.length : Int) := by omega
        obtain ⟨inner, hown⟩ := Kd.R_own HO.out
        obtain ⟨cur, hcur, hcs, hnc⟩ : ∃ cur, wr.heap[gb]? = some (.cells cur 62 (0, 0)) ∧ cur.size = c * 2 ∧ xs.length ≤ c := by
          rcases hown.2 with ⟨hv, _⟩ | ⟨g', cap', cur, hv, hb, hh, hnc, hcm, hcs, ht⟩
          · cases hv
          · injection hv with ha _ hc
            injection ha with ha
            injection ha with hg'
            subst hg'; subst hc
            exact ⟨cur, hh, hcs, by omega⟩
        have hzl := zero_int64 (xs.length - i)
        have hpc := piece_there hcur (i * 2) (Builtin.zeroCells (Value.agg #[.int .i64 0, .int .i64 0]).cells (xs.length - i)).toList.length (by rw [hzl.1]; omega)
        have hcl : ∀ ty, (Builtin.clear_ #[58] ty #[.slice (some ⟨gb, i * 2, none⟩) (xs.length - i) (c - i)]).run Try.prog wr = .ok (.tuple #[]) (wr.setCells gb (i * 2) (Builtin.zeroCells (Value.agg #[.int .i64 0, .int .i64 0]).cells (xs.length - i)).toList) := fun ty =>
          run_clear_cells wr _ _ ty (Value.agg #[.int .i64 0, .int .i64 0]) Try.underlying58 (fun w => by kernel_rfl) gb (i * 2) _ _ (by omega) hzl.2 hpc.1 hpc.2
        have HF := Aside0.mk HD.out.done
        have HR2 : Aside0 (Kd.R k62 62 (wr.setCells gb (i * 2) (Builtin.zeroCells (Value.agg #[.int .i64 0, .int .i64 0]).cells (xs.length - i)).toList) w0.heap.size (fun _ => True) (.slice (some ⟨gb, 0, none⟩) i c) (ys.take i)) := ⟨R_beyond flat_int64 (Kd.R_take HO.out (by omega)) _ _ (by show i * 2 ≤ i * 2; omega) (by rw [hzl.1]; show i * 2 + (xs.length - i) * 2 ≤ c * 2; omega)⟩
        have HB2 : Aside0 (Below w0.heap.size w0 (wr.setCells gb (i * 2) (Builtin.zeroCells (Value.agg #[.int .i64 0, .int .i64 0]).cells (xs.length - i)).toList)) := ⟨by
          obtain ⟨h1, h2, h3, h4⟩ := setCells_same gb (Builtin.zeroCells (Value.agg #[.int .i64 0, .int .i64 0]).cells (xs.length - i)).toList (i * 2) wr
          refine HB.out.trans ⟨h1, h2, h3, by rw [h4]; exact Nat.le_refl _, fun k hk => setCells_far _ _ k (by omega)⟩⟩
        have hic : (c = i) = False := by simp; omega
        clear HO HB hpc hzl hcur hcs hown HD
        generalize (Builtin.zeroCells (Value.agg #[.int .i64 0, .int .i64 0]).cells (xs.length - i)).toList = seg at hcl HR2 HB2
        go_wp2
        go_ret
        exact ⟨_, rfl, by rw [← HF.out]; exact HR2.out, HB2.out⟩
set_option maxRecDepth 100000 in
theorem without1_int64 (W : World) (x : S62) (B : Nat) (pl : Int) (hc : W.cell? ⟨B, 0, none⟩ = some (.int .i64 pl)) :
    Calls Try.prog 87 #[.agg #[.int .i64 x.f0, .int .i64 x.f1], .pointer (some ⟨B, 0, none⟩)] W fun e w' => e = .returned (.bool (x.f1 == pl)) ∧ Below W.heap.size W w' := by
  have hu := Try.underlying62
  have hB : B < W.heap.size := World.block_lt_of_cell? W ⟨B, 0, none⟩ hc
  have hc2 : (W.alloc (.cells #[.int .i64 x.f0, .int .i64 x.f1] 62)).cell? ⟨B, 0, none⟩ = some (.int .i64 pl) := ((below_alloc (Below.refl _ _) _).cell (p := ⟨B, 0, none⟩) hB).trans hc
  go_enter Try.func87, Try.ntmps87
  go_wp2
  go_ret
  exact ⟨rfl, (Below.refl _ _).alloc (Nat.le_refl _) _⟩
def pairs_Without_int64.f (l0 : List S62) (a1 : Int) : Option (List S62) :=
  if l0.length < 8796093022208 then some (l0.filter (fun x => !(x.f1 == a1))) else none
set_option maxHeartbeats 2000000 in
set_option maxRecDepth 100000 in
theorem pairs_Without_int64.calls (A0 : Option Addr) (c0 : Nat) (l0 : List S62) (a1 : Int) (r : List S62) (w : World) (hr0 : Kd.C k62 w A0 l0.length l0) (hc0 : l0.length ≤ c0) (h : pairs_Without_int64.f l0 a1 = some r) :
    Calls Try.prog 44 #[.slice A0 l0.length c0, .int .i64 a1] w fun e w' => ∃ v0_ : Value, e = .returned (v0_) ∧ Kd.R k62 62 w' w.heap.size (fun _ => True) v0_ r ∧ Below w.heap.size w w' := by
  obtain ⟨hm, h2⟩ := of_ite_some h
  subst h2
  clear h
  have HC := Aside0.mk (slices_Clone_pair.calls A0 c0 l0 l0 (w.alloc (.cells #[.int .i64 a1] 2)) (Kd.C_below hr0 (below_alloc (Below.refl _ _) _)) hc0 (by unfold slices_Clone_pair.f; rw [if_pos hm]))
  have hp : PredP_int64 87 #[.pointer (some ⟨w.heap.size, 0, none⟩)] (fun x => x.f1 == a1) (w.alloc (.cells #[.int .i64 a1] 2)) :=
    fun W x hb => without1_int64 W x w.heap.size a1 ((hb.cell (p := ⟨w.heap.size, 0, none⟩) (by simp)).trans (by simp))
  have HD := Aside0.mk (fun w1 v ho hb => deleteFunc_int64 87 #[.pointer (some ⟨w.heap.size, 0, none⟩)] (fun x => x.f1 == a1) (w.alloc (.cells #[.int .i64 a1] 2)) w1 v l0 ho hb hp (enters_of Try.func87 (by kernel_rfl) rfl))
  clear hp hm hr0 hc0
  go_enter Try.func44, Try.ntmps44
  go_wp2_with (first | (go_at_call 86; refine HC.out.mono ?_; rintro e w' ⟨v, rfl, ho, hb⟩; have HO := Aside0.mk ho; have HB := Aside0.mk hb; clear ho hb HC) | (go_at_call 85; refine (HD.out _ _ HO.out HB.out).mono ?_; rintro e w' ⟨v', rfl, ho, hb⟩; have HO2 := Aside0.mk ho; have HB2 := Aside0.mk hb; clear ho hb HD))
  go_ret
  refine ⟨_, rfl, Kd.R_lower HO2.out (by simp), below_then (below_alloc (Below.refl _ _) _) (by simp) HB2.out⟩
end Go.Proofs.Ytgkplhdcafbfbaa.P
namespace Go.Proofs.Ytgkplhdcafbfbaa.P
open Go.RowKit Go.Shelf Go.Proofs.YtgkplhdcafbfbaaW.PrintWords Go.Proofs.YtgkplhdcafbfbaaW.PrintLast Go.Proofs.YtgkplhdcafbfbaaW.PrintMore
def some0 (l : List Pr) : List Pr := l.filter (fun x => !(x.f1 == 0))
theorem without_c (l : List Pr) (hl : l.length ≤ 4611686018427) (w : World) (v : Value) (hv : SI kPr w v l) : Calls Try.prog 44 #[v, .int .i64 0] w fun e w' =>
    ∃ v', e = .returned v' ∧ SI kPr w' v' (some0 l) ∧ Below w.heap.size w w' := by
  obtain ⟨A, c, rfl, hc, hr⟩ := hv
  refine (pairs_Without_int64.calls A c l 0 (some0 l) w hr hc (if_pos (by omega))).mono ?_
  rintro e w1 ⟨v0, rfl, h0, hb⟩
  exact ⟨v0, rfl, .of_R h0, hb⟩
theorem some0_wf {l : List Pr} (h : wfRow l) : wfRow (some0 l) := ⟨fun s hs => h.1 s (List.mem_filter.1 hs).1, Nat.lt_of_le_of_lt (List.length_filter_le _ _) h.2⟩
structure RowOK (l : List Pr) : Prop where
  wf : wfRow l
  len : l.length ≤ 4096
  cnt : cnts l
  ups : Ups (fun p : Pr => p.f0) l
theorem rises_ups : ∀ (l : List Int) (e : Int), rises e l = true → l.Pairwise (· < ·) ∧ ∀ x ∈ l, e ≤ x
  | [], _, _ => ⟨List.Pairwise.nil, fun x hx => by simp at hx⟩
  | p :: l, e, h => by
    simp only [rises, Bool.and_eq_true, decide_eq_true_eq] at h
    obtain ⟨h1, h2⟩ := rises_ups l (p + 1) h.2
    refine ⟨List.pairwise_cons.2 ⟨fun x hx => by have := h2 x hx; omega, h1⟩, fun x hx => ?_⟩
    rcases List.mem_cons.1 hx with rfl | hx
    · exact h.1.1
    · have := h2 x hx; omega
theorem zip_ups : ∀ (ps v : List Int), ps.Pairwise (· < ·) → Ups (fun p : Pr => p.f0) (List.zipWith (fun p x => (⟨p, x⟩ : Pr)) ps v)
  | [], _, _ => by simp [Ups]
  | p :: ps, [], _ => by simp [Ups]
  | p :: ps, x :: v, h => by
    have h1 := List.pairwise_cons.1 h
    refine List.pairwise_cons.2 ⟨fun y hy => ?_, zip_ups ps v h1.2⟩
    have : y.f0 ∈ ps := by
      obtain ⟨i, hi, rfl⟩ := List.mem_iff_getElem.1 hy
      simp only [List.getElem_zipWith]; exact List.getElem_mem _
    exact h1.1 _ this
theorem RowOK.nil : RowOK [] := ⟨⟨fun s hs => by simp at hs, by simp⟩, by simp, fun s hs => by simp at hs, Ups.nil⟩
theorem sideRes_row {l : List Sp} {d : List Int} (hd : i64s d) : RowOK (sideRes l d).1 := by
  by_cases h0 : (sideRes l d).2 = 0
  · obtain ⟨hc, hl⟩ := sideRes_ok hd h0
    unfold sideRes at h0 hc hl ⊢
    by_cases c1 : spCheck l = 0
    rotate_left
    · rw [if_neg c1] at h0; exact absurd h0 c1
    rw [if_pos c1] at h0 hc hl ⊢
    by_cases c2 : cntN l = d.length
    rotate_left
    · rw [if_neg c2] at h0; cases h0
    rw [if_pos c2] at h0 hc hl ⊢
    cases hs : sumsFrom 0 d with
    | none => rw [hs] at h0; cases h0
    | some c =>
      rw [hs] at h0 hc hl
      simp only at h0 hc hl ⊢
      by_cases c3 : c.any (fun x => decide (x < 0)) = true
      · rw [if_pos c3] at h0; cases h0
      rw [if_neg c3] at hc hl ⊢
      have hr := rises_of_right c1
      have hf : ∀ p ∈ List.zipWith (fun p x => (⟨p, x⟩ : Pr)) (plN 0 l) c, -1048576 ≤ p.f0 ∧ p.f0 ≤ 1048576 := by
        intro y hy
        have : y.f0 ∈ plN 0 l := by
          obtain ⟨i, hi, rfl⟩ := List.mem_iff_getElem.1 hy
          simp only [List.getElem_zipWith]; exact List.getElem_mem _
        exact rises_i64 hr _ this
      refine ⟨⟨fun p hp => ?_, by omega⟩, hl, fun p hp => ?_, zip_ups _ _ (rises_ups _ _ hr).1⟩
      · have h1 := hf p hp; have h2 := hc p hp; exact ⟨⟨by omega, by omega⟩, ⟨by omega, by omega⟩⟩
      · have h1 := hf p hp; have h2 := hc p hp; exact ⟨⟨by omega, by omega⟩, h2⟩
  · have : (sideRes l d).1 = [] := by
      unfold sideRes at h0 ⊢
      by_cases c1 : spCheck l = 0
      · rw [if_pos c1] at h0 ⊢
        by_cases c2 : cntN l = d.length
        · rw [if_pos c2] at h0 ⊢
          cases hs : sumsFrom 0 d with
          | none => rfl
          | some c =>
            rw [hs] at h0
            simp only at h0 ⊢
            by_cases c3 : c.any (fun x => decide (x < 0)) = true
            · rw [if_pos c3]
            · rw [if_neg c3] at h0; exact absurd rfl h0
        · rw [if_neg c2]
      · rw [if_neg c1]
    rw [this]; exact RowOK.nil
theorem openR_row {h : Hi} (hw : wfH h) : RowOK (openR h).1 ∧ RowOK (openR h).2.1 := by
  obtain ⟨-, -, -, -, -, -, -, h7, h8, -⟩ := hw
  have a := sideRes_row (l := h.f5) h7
  have b := sideRes_row (l := h.f6) h8
  unfold openR openRes
  repeat' split
  all_goals first | exact ⟨a, b⟩ | exact ⟨RowOK.nil, RowOK.nil⟩
end Go.Proofs.Ytgkplhdcafbfbaa.P
namespace Go.Proofs.Ytgkplhdcafbfbaa.P
open Go.RowKit Go.Proofs.YtgkplhdcafbfbaaW.PrintWords Go.Proofs.YtgkplhdcafbfbaaW.PrintLast Go.Proofs.YtgkplhdcafbfbaaW.PrintMore
attribute [local go_sem] max2_int min2_int max_two min_two max_three min_three max_four min_four
mutual
def scale_widen_int64.l0 : Nat → Int → List (S62) → List (S62) → Int → Int → Option ((List (S62)) × Bool)
 | 0, _, _, _, _, _ => none
 | k + 1, x1, x8, x15, x16, x17 => if x17 < x16 then (if 0 ≤ x17 then (if x17 < (x15.length : Int) then ((scale_Place.f k ((rd_T62 x15 x17).f0) x1).bind fun t103 => (if (x8.length : Int) > 0 then (if 0 ≤ (wrap64 ((x8.length : Int) - 1)) then (if (wrap64 ((x8.length : Int) - 1)) < (x8.length : Int) then (scale_widen_int64.j1 k x1 x8 t103 (x8.length : Int) x15 x16 x17 (((rd_T62 x8 (wrap64 ((x8.length : Int) - 1))).f0) == t103) ((rd_T62 x15 x17).f0) ((rd_T62 x15 x17).f1)) else (none)) else (none)) else (scale_widen_int64.j1 k x1 x8 t103 (x8.length : Int) x15 x16 x17 false ((rd_T62 x15 x17).f0) ((rd_T62 x15 x17).f1)))) else (none)) else (none)) else (some (x8, true))
def scale_widen_int64.j1 : Nat → Int → List (S62) → Int → Int → List (S62) → Int → Int → Bool → Int → Int → Option ((List (S62)) × Bool)
 | 0, _, _, _, _, _, _, _, _, _, _ => none
 | k + 1, x1, x8, x11, x12, x15, x16, x17, x38, x103000, x103001 => if x38 = true then (if 0 ≤ (wrap64 (x12 - 1)) then (if (wrap64 (x12 - 1)) < (x8.length : Int) then ((scale_whole.f ((rd_T62 x8 (wrap64 (x12 - 1))).f1) x103001).bind fun bt106 => (if bt106.2 = true then (scale_widen_int64.l0 k x1 (x8.set ((wrap64 (x12 - 1)) : Int).toNat (⟨(rd_T62 x8 (wrap64 (x12 - 1))).f0, bt106.1⟩ : S62)) x15 x16 (wrap64 (x17 + 1))) else (some (([] : List (S62)), false)))) else (none)) else (none)) else (if x8.length < 8796093022208 then (scale_widen_int64.l0 k x1 (x8 ++ [(⟨x11, x103001⟩ : S62)]) x15 x16 (wrap64 (x17 + 1))) else (none))
end
def scale_widen_int64.f (k : Nat) (l0 : List (S62)) (a1 : Int) : Option ((List (S62)) × Bool) := scale_widen_int64.l0 k a1 ([] : List (S62)) l0 (l0.length : Int) 0
set_option maxHeartbeats 8000000 in
set_option maxRecDepth 100000 in
theorem scale_widen_int64.calls (k : Nat) (A0 : Option Addr) (c0 : Nat) (l0 : List (S62)) (a1 : Int) (r1 : List (S62)) (r2 : Bool) (w : World) (hr0 : Kd.C k62 w A0 l0.length l0) (hc0 : l0.length ≤ c0) (h : scale_widen_int64.f k l0 a1 = some (r1, r2)) :
  Calls Try.prog 41 #[.slice A0 l0.length c0, .int .i64 a1, .func (.func 42) #[] #[]] w fun e w' => ∃ v0_ : Value, e = .returned (.tuple #[v0_, .bool r2]) ∧ Kd.R k62 62 w' w.heap.size (fun _ => True) v0_ r1 ∧ Below w.heap.size w w' := by
 have hu62 := Try.underlying62
 have HR0 := Aside0.mk hr0
 have HC0 := Aside0.mk hc0
 clear hr0 hc0
 have HB := Aside0.mk (Below.refl w.heap.size w)
 have H : (scale_widen_int64.l0 k a1 ([] : List (S62)) l0 (l0.length : Int) 0) = some (r1, r2) := h
 clear h
 have H' := Aside0.mk H
 clear H
 go_enter Try.func41, Try.ntmps41
 go_wp2
 repeat (go_quiet (fail); try go_wp2)
 go_loopg [8, 17] k (fun kq v8 v17 w' => ∃ (x8_1 : List (S62)) (x17_1 : Int), v17 = .int .i64 x17_1 ∧ Aside0 (scale_widen_int64.l0 kq a1 x8_1 l0 (l0.length : Int) x17_1 = some (r1, r2)) ∧ Aside0 (kq ≤ k) ∧ Aside0 (Kd.R k62 62 w' w.heap.size (fun _ => True) v8 x8_1) ∧ Aside0 (Below w.heap.size w w'))
 case atStart => exact ⟨(([] : List (S62))), (0), (by first | rfl | (simp; done) | (simp [*]; done)), H', ⟨Nat.le_refl _⟩, ⟨by first | exact Kd.R_nil _ _ _ _ _ | exact Kd.N_nil _ _ _ _ _ | exact Kd.V_nil _ _ _ _ _ | exact Kd.Q_nil _ _ _ _ _ | exact Kd.S_nil _ _ _ _ _⟩, ⟨by repeat (first | (with_reducible first | exact HB.out | apply below_alloc | apply pw_below_drewN | apply below_drew1) | exact HB.out)⟩⟩
 case round =>
  clear H'
  try clear p2
  obtain ⟨x8_1, x17_1, rfl, HA, HK1, HO_8, HB⟩ := hrel
  cases gk with
  | zero => exact absurd HA.out (by simp [scale_widen_int64.l0])
  | succ k1 =>
   have H := HA.out
   clear HA
   simp only [scale_widen_int64.l0] at H
   by_cases c4 : x17_1 < (l0.length : Int)
   ·rw [if_pos c4] at H
    have c4b0 : decide (x17_1 < (l0.length : Int)) = true := decide_eq_true c4
    clear c4
    by_cases c5 : 0 ≤ x17_1
    ·rw [if_pos c5] at H
     have c5b0 : decide (0 ≤ x17_1) = true := decide_eq_true c5
     clear c5
     by_cases c6 : x17_1 < (l0.length : Int)
     ·rw [if_pos c6] at H
      have c6b0 : decide (x17_1 < (l0.length : Int)) = true := decide_eq_true c6
      clear c6
      replace H := Option.bind_eq_some_iff.mp H
      obtain ⟨t103, A70, H⟩ := H
      replace H : (if (x8_1.length : Int) > 0 then (if 0 ≤ (wrap64 ((x8_1.length : Int) - 1)) then (if (wrap64 ((x8_1.length : Int) - 1)) < (x8_1.length : Int) then (scale_widen_int64.j1 k1 a1 x8_1 t103 (x8_1.length : Int) l0 (l0.length : Int) x17_1 (((rd_T62 x8_1 (wrap64 ((x8_1.length : Int) - 1))).f0) == t103) ((rd_T62 l0 x17_1).f0) ((rd_T62 l0 x17_1).f1)) else (none)) else (none)) else (scale_widen_int64.j1 k1 a1 x8_1 t103 (x8_1.length : Int) l0 (l0.length : Int) x17_1 false ((rd_T62 l0 x17_1).f0) ((rd_T62 l0 x17_1).f1))) = some (r1, r2) := H
      have A7 := Aside0.mk A70
      clear A70
      have HC8 := Aside0.mk H
      clear H
      have p101 : 0 ≤ (x17_1 : Int) := of_decide_eq_true (by first | (with_reducible assumption) | assumption)
      have q101 : x17_1 < (l0.length : Int) := of_decide_eq_true (by first | (with_reducible assumption) | assumption)
      obtain ⟨ad101, e101, hx101_0, hx101_1⟩ := at_T62 HR0.out x17_1 p101 q101
      cases e101
      replace hx101_0 := (HB.out.cell (World.block_lt_of_cell? w _ hx101_0)).trans hx101_0
      replace hx101_1 := (HB.out.cell (World.block_lt_of_cell? w _ hx101_1)).trans hx101_1
      replace p101 := eq_true p101
      replace q101 := eq_true q101
      go_upto_region 7 with (first | ((with_reducible refine gate_dst (N := 10) rfl ?_); refine box_event ?hg (N := 10) ?hd (cs := #[.int .i64 0, .int .i64 0]) (t := 62) ?hr ?_; (case hd => rfl); (case hg => rfl); (case hr => first | (go_simp; done) | (go_simp; rfl)); intro gb102 hg w9 hbox hb; have n0_ := Aside0.mk (Kd.R_below (Kd.R_elderB (by (with_reducible repeat (first | apply Kd.R_alloc | apply Kd.R_drewN | apply Kd.R_drew)); exact HO_8.out) gb102 (Nat.le_of_eq hg.symm)) hb); have n1_ := Aside0.mk (below_step (by repeat (first | (with_reducible first | exact HB.out | apply below_alloc | apply pw_below_drewN | apply below_drew1) | exact HB.out)) hb); have n2_ := Aside0.mk (hbox); have n3_ := Aside0.mk ((by rw [hg]; exact (below_size (by repeat (first | (with_reducible first | exact HB.out | apply below_alloc | apply pw_below_drewN | apply below_drew1) | exact HB.out))) : w.heap.size ≤ gb102)); have n4_ := Aside0.mk ((by rw [hg]; exact (below_size (by repeat (first | (with_reducible first | exact HB.out | apply below_alloc | apply pw_below_drewN | apply below_drew1) | exact HB.out))) : w.heap.size ≤ gb102)); clear HO_8; clear HB; have HO_8 := n0_; have HB := n1_; have BK102 := n2_; have GW102 := n3_; have GE102 := n4_; clear n0_ n1_ n2_ n3_ n4_; clear hb hbox hg; have hcz10_0 : w9.cell? ⟨gb102, 0, none⟩ = some (.int .i64 0) := (blk_cell BK102.out 0).trans rfl; have hcz10_1 : w9.cell? ⟨gb102, 1, none⟩ = some (.int .i64 0) := (blk_cell BK102.out 1).trans rfl; have hfz10_0 := blk_frozen BK102.out 0; have hfz10_1 := blk_frozen BK102.out 1) | (go_at_call 11; (with_reducible refine (scale_Place.calls k1 ((rd_T62 l0 x17_1).f0) a1 t103 _ A7.out).mono ?_); rintro e w' ⟨rfl, ⟨nd, rfl⟩⟩; (try first | exact ⟨rfl, _, World.drewN_drewN _ _ _⟩ | exact ⟨rfl, _, Eq.trans (World.drewN_drewN _ _ _) (congrArg (World.drewN _) (Nat.add_assoc _ _ _))⟩); clear A7; obtain ⟨Ao11, co11, eo11⟩ := Kd.R_slice HO_8.out; subst eo11))
      repeat (go_quiet (first | ((with_reducible refine gate_dst (N := 10) rfl ?_); refine box_event ?hg (N := 10) ?hd (cs := #[.int .i64 0, .int .i64 0]) (t := 62) ?hr ?_; (case hd => rfl); (case hg => rfl); (case hr => first | (go_simp; done) | (go_simp; rfl)); intro gb102 hg w9 hbox hb; have n0_ := Aside0.mk (Kd.R_below (Kd.R_elderB (by (with_reducible repeat (first | apply Kd.R_alloc | apply Kd.R_drewN | apply Kd.R_drew)); exact HO_8.out) gb102 (Nat.le_of_eq hg.symm)) hb); have n1_ := Aside0.mk (below_step (by repeat (first | (with_reducible first | exact HB.out | apply below_alloc | apply pw_below_drewN | apply below_drew1) | exact HB.out)) hb); have n2_ := Aside0.mk (hbox); have n3_ := Aside0.mk ((by rw [hg]; exact (below_size (by repeat (first | (with_reducible first | exact HB.out | apply below_alloc | apply pw_below_drewN | apply below_drew1) | exact HB.out))) : w.heap.size ≤ gb102)); have n4_ := Aside0.mk ((by rw [hg]; exact (below_size (by repeat (first | (with_reducible first | exact HB.out | apply below_alloc | apply pw_below_drewN | apply below_drew1) | exact HB.out))) : w.heap.size ≤ gb102)); clear HO_8; clear HB; have HO_8 := n0_; have HB := n1_; have BK102 := n2_; have GW102 := n3_; have GE102 := n4_; clear n0_ n1_ n2_ n3_ n4_; clear hb hbox hg; have hcz10_0 : w9.cell? ⟨gb102, 0, none⟩ = some (.int .i64 0) := (blk_cell BK102.out 0).trans rfl; have hcz10_1 : w9.cell? ⟨gb102, 1, none⟩ = some (.int .i64 0) := (blk_cell BK102.out 1).trans rfl; have hfz10_0 := blk_frozen BK102.out 0; have hfz10_1 := blk_frozen BK102.out 1) | (go_at_call 11; (with_reducible refine (scale_Place.calls k1 ((rd_T62 l0 x17_1).f0) a1 t103 _ A7.out).mono ?_); rintro e w' ⟨rfl, ⟨nd, rfl⟩⟩; (try first | exact ⟨rfl, _, World.drewN_drewN _ _ _⟩ | exact ⟨rfl, _, Eq.trans (World.drewN_drewN _ _ _) (congrArg (World.drewN _) (Nat.add_assoc _ _ _))⟩); clear A7; obtain ⟨Ao11, co11, eo11⟩ := Kd.R_slice HO_8.out; subst eo11)); go_upto_region 7 with (first | ((with_reducible refine gate_dst (N := 10) rfl ?_); refine box_event ?hg (N := 10) ?hd (cs := #[.int .i64 0, .int .i64 0]) (t := 62) ?hr ?_; (case hd => rfl); (case hg => rfl); (case hr => first | (go_simp; done) | (go_simp; rfl)); intro gb102 hg w9 hbox hb; have n0_ := Aside0.mk (Kd.R_below (Kd.R_elderB (by (with_reducible repeat (first | apply Kd.R_alloc | apply Kd.R_drewN | apply Kd.R_drew)); exact HO_8.out) gb102 (Nat.le_of_eq hg.symm)) hb); have n1_ := Aside0.mk (below_step (by repeat (first | (with_reducible first | exact HB.out | apply below_alloc | apply pw_below_drewN | apply below_drew1) | exact HB.out)) hb); have n2_ := Aside0.mk (hbox); have n3_ := Aside0.mk ((by rw [hg]; exact (below_size (by repeat (first | (with_reducible first | exact HB.out | apply below_alloc | apply pw_below_drewN | apply below_drew1) | exact HB.out))) : w.heap.size ≤ gb102)); have n4_ := Aside0.mk ((by rw [hg]; exact (below_size (by repeat (first | (with_reducible first | exact HB.out | apply below_alloc | apply pw_below_drewN | apply below_drew1) | exact HB.out))) : w.heap.size ≤ gb102)); clear HO_8; clear HB; have HO_8 := n0_; have HB := n1_; have BK102 := n2_; have GW102 := n3_; have GE102 := n4_; clear n0_ n1_ n2_ n3_ n4_; clear hb hbox hg; have hcz10_0 : w9.cell? ⟨gb102, 0, none⟩ = some (.int .i64 0) := (blk_cell BK102.out 0).trans rfl; have hcz10_1 : w9.cell? ⟨gb102, 1, none⟩ = some (.int .i64 0) := (blk_cell BK102.out 1).trans rfl; have hfz10_0 := blk_frozen BK102.out 0; have hfz10_1 := blk_frozen BK102.out 1) | (go_at_call 11; (with_reducible refine (scale_Place.calls k1 ((rd_T62 l0 x17_1).f0) a1 t103 _ A7.out).mono ?_); rintro e w' ⟨rfl, ⟨nd, rfl⟩⟩; (try first | exact ⟨rfl, _, World.drewN_drewN _ _ _⟩ | exact ⟨rfl, _, Eq.trans (World.drewN_drewN _ _ _) (congrArg (World.drewN _) (Nat.add_assoc _ _ _))⟩); clear A7; obtain ⟨Ao11, co11, eo11⟩ := Kd.R_slice HO_8.out; subst eo11)))
      (try simp only [Act.put, List.setIfInBounds_toArray, List.set_cons_zero, List.set_cons_succ])
      go_cut [38] (fun v38 wc => ∃ (kq : Nat) (x38_7 : Bool), v38 = .bool x38_7 ∧ Aside0 (scale_widen_int64.j1 kq a1 x8_1 t103 (x8_1.length : Int) l0 (l0.length : Int) x17_1 x38_7 ((rd_T62 l0 x17_1).f0) ((rd_T62 l0 x17_1).f1) = some (r1, r2)) ∧ Aside0 (kq ≤ k1) ∧ Aside0 (Kd.R k62 62 wc w.heap.size (fun k_ => k_ ≠ gb102) (.slice Ao11 x8_1.length co11) x8_1) ∧ Aside0 (wc.heap[gb102]? = some (.cells #[.int .i64 ((rd_T62 l0 x17_1).f0), .int .i64 ((rd_T62 l0 x17_1).f1)] 62 (0, 0))) ∧ Aside0 (Below w.heap.size w wc))
      case first =>
       have H := HC8.out
       clear HC8
       by_cases c12 : (x8_1.length : Int) > 0
       ·rw [if_pos c12] at H
        have c12b0 : decide (0 < (x8_1.length : Int)) = true := decide_eq_true c12
        have c12b1 : decide (0 < x8_1.length) = true := decide_eq_true (by omega)
        clear c12
        (first | rw [c12b0] | (simp only [i64_w, i32_w]; rw [c12b0]) | skip)
        obtain ⟨ji13, hji13⟩ : ∃ j_ : Int, (wrap64 ((x8_1.length : Int) - 1)) = j_ := ⟨_, rfl⟩
        replace H : (if 0 ≤ (ji13) then (if (ji13) < (x8_1.length : Int) then (scale_widen_int64.j1 k1 a1 x8_1 t103 (x8_1.length : Int) l0 (l0.length : Int) x17_1 (((rd_T62 x8_1 (ji13)).f0) == t103) ((rd_T62 l0 x17_1).f0) ((rd_T62 l0 x17_1).f1)) else (none)) else (none)) = some (r1, r2) := by first | (rw [hji13] at H; exact H) | (simp only [hji13] at H ⊢; exact H)
        have hji13w : (IntKind.i64.wrap ((x8_1.length : Int) - 1)) = ji13 := (i64_w _).trans hji13
        by_cases c14 : 0 ≤ (ji13)
        ·rw [if_pos c14] at H
         have c14b0 : decide (0 ≤ (ji13)) = true := decide_eq_true c14
         clear c14
         by_cases c15 : (ji13) < (x8_1.length : Int)
         ·rw [if_pos c15] at H
          have c15b0 : decide ((ji13) < (x8_1.length : Int)) = true := decide_eq_true c15
          clear c15
          have H' := Aside0.mk H
          clear H
          have p104 : 0 ≤ ((ji13) : Int) := of_decide_eq_true (by first | (with_reducible assumption) | assumption)
          have q104 : (ji13) < (x8_1.length : Int) := of_decide_eq_true (by first | (with_reducible assumption) | assumption)
          obtain ⟨ad104, e104, hx104_0, hx104_1⟩ := at_T62 (Kd.R_reads' HO_8.out).2.2 (ji13) p104 q104
          cases e104
          have hn104_0 : ad104.block ≠ gb102 := Kd.own_blk (by first | exact Kd.R_ne HO_8.out BK102.out (by decide) | exact Kd.R_away HO_8.out (fun _ hk => hk.2))
          have hn104_1 : ad104.block ≠ gb102 := Kd.own_blk (by first | exact Kd.R_ne HO_8.out BK102.out (by decide) | exact Kd.R_away HO_8.out (fun _ hk => hk.2))
          replace hx104_0 := (cell_far (p := ⟨gb102, 0, none⟩) (by first | (rw [add_block]; exact hn104_0) | (show (Addr.add _ _).block ≠ _; rw [add_block]; exact hn104_0) | exact hn104_0) (.int .i64 ((rd_T62 l0 x17_1).f0))).trans hx104_0
          replace hx104_1 := (cell_far (p := ⟨gb102, 0, none⟩) (by first | (rw [add_block]; exact hn104_0) | (show (Addr.add _ _).block ≠ _; rw [add_block]; exact hn104_0) | exact hn104_0) (.int .i64 ((rd_T62 l0 x17_1).f0))).trans hx104_1
          replace hx104_0 := (cell_far (p := ⟨gb102, 1, none⟩) (by first | (rw [add_block]; exact hn104_1) | (show (Addr.add _ _).block ≠ _; rw [add_block]; exact hn104_1) | exact hn104_1) (.int .i64 ((rd_T62 l0 x17_1).f1))).trans hx104_0
          replace hx104_1 := (cell_far (p := ⟨gb102, 1, none⟩) (by first | (rw [add_block]; exact hn104_1) | (show (Addr.add _ _).block ≠ _; rw [add_block]; exact hn104_1) | exact hn104_1) (.int .i64 ((rd_T62 l0 x17_1).f1))).trans hx104_1
          (try have hy104_0 := fun (n_ : Nat) => (show ((((w9.drewN n_).setCell ⟨gb102, 0, none⟩ (.int .i64 ((rd_T62 l0 x17_1).f0))).setCell ⟨gb102, 1, none⟩ (.int .i64 ((rd_T62 l0 x17_1).f1)))).cell? _ = some _ from hx104_0))
          (try have hy104_1 := fun (n_ : Nat) => (show ((((w9.drewN n_).setCell ⟨gb102, 0, none⟩ (.int .i64 ((rd_T62 l0 x17_1).f0))).setCell ⟨gb102, 1, none⟩ (.int .i64 ((rd_T62 l0 x17_1).f1)))).cell? _ = some _ from hx104_1))
          clear hn104_0
          clear hn104_1
          replace p104 := eq_true p104
          replace q104 := eq_true q104
          go_wp2
          repeat (go_quiet (fail); try go_wp2)
          go_meet
          case rel => exact ⟨_, ((((rd_T62 x8_1 (ji13)).f0) == t103)), (by first | rfl | (simp; done) | (simp only [← hji13] <;> (first | rfl | simp)) | (simp [*]; done)), H', ⟨by have := HK1.out; first | omega | exact Nat.le_refl _⟩, ⟨by (with_reducible repeat (first | apply Kd.R_alloc | apply Kd.R_drewN | apply Kd.R_drew)); exact Kd.R_mono (Kd.R_far (p := ⟨gb102, 1, none⟩) (Kd.R_far (p := ⟨gb102, 0, none⟩) (Kd.R_mono HO_8.out (fun k_ hk => (⟨hk, hk.2⟩ : _ ∧ k_ ≠ gb102))) (fun _ hk => hk.2) (.int .i64 ((rd_T62 l0 x17_1).f0))) (fun _ hk => hk.2) (.int .i64 ((rd_T62 l0 x17_1).f1))) (fun _ hk => hk.1.2)⟩, ⟨by (with_reducible repeat (first | refine blk_drewN ?_ _ | refine blk_drew ?_ | refine blk_alloc ?_ _)); refine blk_put (cs := #[.int .i64 ((rd_T62 l0 x17_1).f0), .int .i64 0]) ?_ 1 _ rfl; (with_reducible repeat (first | refine blk_drewN ?_ _ | refine blk_drew ?_ | refine blk_alloc ?_ _)); refine blk_put (cs := #[.int .i64 0, .int .i64 0]) ?_ 0 _ rfl; (with_reducible repeat (first | refine blk_drewN ?_ _ | refine blk_drew ?_ | refine blk_alloc ?_ _)); exact BK102.out⟩, ⟨by repeat (first | (with_reducible first | exact HB.out | apply below_alloc | apply pw_below_drewN | apply below_drew1 | refine below_set ?_ GE102.out) | exact HB.out)⟩⟩
         ·rw [if_neg c15] at H
          exact absurd H (by simp)
        ·rw [if_neg c14] at H
         exact absurd H (by simp)
       ·rw [if_neg c12] at H
        have c12b0 : decide (0 < (x8_1.length : Int)) = false := decide_eq_false c12
        have c12b1 : decide (0 < x8_1.length) = false := decide_eq_false (by omega)
        clear c12
        (first | rw [c12b0] | (simp only [i64_w, i32_w]; rw [c12b0]) | skip)
        have H' := Aside0.mk H
        clear H
        go_wp2
        repeat (go_quiet (fail); try go_wp2)
        go_meet
        case rel => exact ⟨_, (false), (by first | rfl | (simp; done) | (simp [*]; done)), H', ⟨by have := HK1.out; first | omega | exact Nat.le_refl _⟩, ⟨by (with_reducible repeat (first | apply Kd.R_alloc | apply Kd.R_drewN | apply Kd.R_drew)); exact Kd.R_mono (Kd.R_far (p := ⟨gb102, 1, none⟩) (Kd.R_far (p := ⟨gb102, 0, none⟩) (Kd.R_mono HO_8.out (fun k_ hk => (⟨hk, hk.2⟩ : _ ∧ k_ ≠ gb102))) (fun _ hk => hk.2) (.int .i64 ((rd_T62 l0 x17_1).f0))) (fun _ hk => hk.2) (.int .i64 ((rd_T62 l0 x17_1).f1))) (fun _ hk => hk.1.2)⟩, ⟨by (with_reducible repeat (first | refine blk_drewN ?_ _ | refine blk_drew ?_ | refine blk_alloc ?_ _)); refine blk_put (cs := #[.int .i64 ((rd_T62 l0 x17_1).f0), .int .i64 0]) ?_ 1 _ rfl; (with_reducible repeat (first | refine blk_drewN ?_ _ | refine blk_drew ?_ | refine blk_alloc ?_ _)); refine blk_put (cs := #[.int .i64 0, .int .i64 0]) ?_ 0 _ rfl; (with_reducible repeat (first | refine blk_drewN ?_ _ | refine blk_drew ?_ | refine blk_alloc ?_ _)); exact BK102.out⟩, ⟨by repeat (first | (with_reducible first | exact HB.out | apply below_alloc | apply pw_below_drewN | apply below_drew1 | refine below_set ?_ GE102.out) | exact HB.out)⟩⟩
      case rest =>
       clear HC8
       try clear c1
       try clear p1
       try clear q1
       try clear hx1
       try clear p2
       try clear c4
       try clear c4b0
       try clear c5
       try clear c5b0
       try clear c6
       try clear c6b0
       try clear p6
       try clear p10
       try clear q10
       try clear hx10
       try clear c12
       try clear c12b0
       try clear c12b1
       try clear c14
       try clear c14b0
       try clear c15
       try clear c15b0
       try clear hcz10_0
       try clear hcz10_1
       try clear hfz10_0
       try clear hfz10_1
       try clear hx101_0
       try clear hx101_1
       try clear hx104_0
       try clear hx104_1
       try clear p101
       try clear p104
       try clear p2
       try clear q101
       try clear q104
       obtain ⟨kq, x38_7, rfl, HA, HJ7, HO_8, BK102, HB⟩ := hcut
       cases kq with
       | zero => exact absurd HA.out (by simp [scale_widen_int64.j1])
       | succ kj7 =>
        have H := HA.out
        clear HA
        simp only [scale_widen_int64.j1] at H
        by_cases c16 : x38_7 = true
        ·subst c16
         have H1 : (if 0 ≤ (wrap64 ((x8_1.length : Int) - 1)) then (if (wrap64 ((x8_1.length : Int) - 1)) < (x8_1.length : Int) then ((scale_whole.f ((rd_T62 x8_1 (wrap64 ((x8_1.length : Int) - 1))).f1) ((rd_T62 l0 x17_1).f1)).bind fun bt106 => (if bt106.2 = true then (scale_widen_int64.l0 kj7 a1 (x8_1.set ((wrap64 ((x8_1.length : Int) - 1)) : Int).toNat (⟨(rd_T62 x8_1 (wrap64 ((x8_1.length : Int) - 1))).f0, bt106.1⟩ : S62)) l0 (l0.length : Int) (wrap64 (x17_1 + 1))) else (some (([] : List (S62)), false)))) else (none)) else (none)) = some (r1, r2) := by rw [if_pos rfl] at H; exact H
         clear H
         have H := H1
         clear H1
         obtain ⟨ji17, hji17⟩ : ∃ j_ : Int, (wrap64 ((x8_1.length : Int) - 1)) = j_ := ⟨_, rfl⟩
         replace H : (if 0 ≤ (ji17) then (if (ji17) < (x8_1.length : Int) then ((scale_whole.f ((rd_T62 x8_1 (ji17)).f1) ((rd_T62 l0 x17_1).f1)).bind fun bt106 => (if bt106.2 = true then (scale_widen_int64.l0 kj7 a1 (x8_1.set ((ji17) : Int).toNat (⟨(rd_T62 x8_1 (ji17)).f0, bt106.1⟩ : S62)) l0 (l0.length : Int) (wrap64 (x17_1 + 1))) else (some (([] : List (S62)), false)))) else (none)) else (none)) = some (r1, r2) := by first | (rw [hji17] at H; exact H) | (simp only [hji17] at H ⊢; exact H)
         have hji17w : (IntKind.i64.wrap ((x8_1.length : Int) - 1)) = ji17 := (i64_w _).trans hji17
         by_cases c18 : 0 ≤ (ji17)
         ·rw [if_pos c18] at H
          have c18b0 : decide (0 ≤ (ji17)) = true := decide_eq_true c18
          clear c18
          by_cases c19 : (ji17) < (x8_1.length : Int)
          ·rw [if_pos c19] at H
           have c19b0 : decide ((ji17) < (x8_1.length : Int)) = true := decide_eq_true c19
           clear c19
           replace H := Option.bind_eq_some_iff.mp H
           obtain ⟨⟨t106, t107⟩, A200, H⟩ := H
           replace H : (if t107 = true then (scale_widen_int64.l0 kj7 a1 (x8_1.set ((ji17) : Int).toNat (⟨(rd_T62 x8_1 (ji17)).f0, t106⟩ : S62)) l0 (l0.length : Int) (wrap64 (x17_1 + 1))) else (some (([] : List (S62)), false))) = some (r1, r2) := H
           have A20 := Aside0.mk A200
           clear A200
           by_cases c21 : t107 = true
           ·subst c21
            have H1 : (scale_widen_int64.l0 kj7 a1 (x8_1.set ((ji17) : Int).toNat (⟨(rd_T62 x8_1 (ji17)).f0, t106⟩ : S62)) l0 (l0.length : Int) (wrap64 (x17_1 + 1))) = some (r1, r2) := by rw [if_pos rfl] at H; exact H
            clear H
            have H := H1
            clear H1
            obtain ⟨y108, hy108⟩ : ∃ y_ : List (S62), y_ = (x8_1.set ((ji17) : Int).toNat (⟨(rd_T62 x8_1 (ji17)).f0, t106⟩ : S62)) := ⟨_, rfl⟩
            replace H : (scale_widen_int64.l0 kj7 a1 y108 l0 (l0.length : Int) (wrap64 (x17_1 + 1))) = some (r1, r2) := by first | (rw [hy108]; with_reducible exact H) | (have H2_ := (Option.bind_some _ _).symm.trans H; rw [hy108]; with_reducible exact H2_) | (have H2_ := (Option.bind_some _ _).symm.trans H; with_reducible exact H2_) | with_reducible exact H | (rw [hy108]; exact H) | exact H
            have Ny108 := Aside0.mk hy108
            clear hy108
            have H' := Aside0.mk H
            clear H
            have p105 : 0 ≤ ((ji17) : Int) := of_decide_eq_true (by first | (with_reducible assumption) | assumption)
            have q105 : (ji17) < (x8_1.length : Int) := of_decide_eq_true (by first | (with_reducible assumption) | assumption)
            obtain ⟨ad105, e105, hx105_0, hx105_1⟩ := at_T62 (Kd.R_reads' HO_8.out).2.2 (ji17) p105 q105
            cases e105
            replace p105 := eq_true p105
            replace q105 := eq_true q105
            have hcz23_0 : wc.cell? ⟨gb102, 0, none⟩ = some (.int .i64 ((rd_T62 l0 x17_1).f0)) := (blk_cell BK102.out 0).trans rfl
            have hcz23_1 : wc.cell? ⟨gb102, 1, none⟩ = some (.int .i64 ((rd_T62 l0 x17_1).f1)) := (blk_cell BK102.out 1).trans rfl
            have hfz23_0 := blk_frozen BK102.out 0
            have hfz23_1 := blk_frozen BK102.out 1
            go_wp2_with (first | (go_at_call 42; (with_reducible refine (scale_whole.calls ((rd_T62 x8_1 (ji17)).f1) ((rd_T62 l0 x17_1).f1) t106 true _ A20.out).mono ?_); rintro e w' ⟨rfl, ⟨nd, rfl⟩⟩; (try first | exact ⟨rfl, _, World.drewN_drewN _ _ _⟩ | exact ⟨rfl, _, Eq.trans (World.drewN_drewN _ _ _) (congrArg (World.drewN _) (Nat.add_assoc _ _ _))⟩); clear A20; have p22 : 0 ≤ ((ji17) : Int) := of_decide_eq_true (by first | (with_reducible assumption) | assumption); have q22 : ((ji17) : Int) < ((x8_1.length : Int) : Int) := of_decide_eq_true (by first | (with_reducible assumption) | assumption); obtain ⟨go22, co22, eo22, gb22, gl22, cl22, HG22⟩ := Kd.R_form HO_8.out (by omega); (first | cases eo22 | (injection eo22 with ea_ en_ ec_; (first | subst ea_ | (injection ea_ with ea_; subst ea_)); subst ec_; clear en_)); have GB22 := Aside0.mk gb22; have GG22 := Aside0.mk HG22; clear gb22 gl22 HG22; (first | simp only [add_plain] at hx105_0 | skip); (first | simp only [add_plain] at hx105_1 | skip); obtain ⟨ce22, hcl22, hM22, hcc22, hfr22⟩ := Kd.R_elem HO_8.out z62 ((ji17) : Int) p22 q22; obtain rfl := k62_openM hM22; have hx22_0 : wc.cell? ⟨go22, ((ji17) : Int).toNat * 2, none⟩ = some (.int .i64 ((rd_T62 x8_1 (ji17)).f0)) := hcc22 0 _ rfl; have hx22_1 : wc.cell? ⟨go22, ((ji17) : Int).toNat * 2 + 1, none⟩ = some (.int .i64 ((rd_T62 x8_1 (ji17)).f1)) := hcc22 1 _ rfl; have hf22_0 : wc.frozen? ⟨go22, ((ji17) : Int).toNat * 2, none⟩ = false := hfr22 0; have hf22_1 : wc.frozen? ⟨go22, ((ji17) : Int).toNat * 2 + 1, none⟩ = false := hfr22 1; clear hcl22 hcc22 hfr22 hM22; replace p22 := eq_true p22; replace q22 := eq_true q22; have HX24 := Aside0.mk (show Kd.R k62 62 wc w.heap.size (fun k_ => k_ ≠ gb102) (.slice (some ⟨go22, 0, none⟩) x8_1.length co11) x8_1 from (by (with_reducible repeat (first | apply Kd.R_alloc | apply Kd.R_drewN | apply Kd.R_drew)); exact HO_8.out)); obtain ⟨ce24, hcl24, hM24, hcc24, hfr24⟩ := Kd.R_elem HX24.out z62 ((ji17) : Int) (of_decide_eq_true (by first | (with_reducible assumption) | assumption)) (by have h_ : ((ji17) : Int) < ((x8_1.length : Int) : Int) := of_decide_eq_true (by first | (with_reducible assumption) | assumption); first | exact h_ | (have e_ := (Kd.R_reads' HO_8.out).1; omega) | simpa using h_); obtain rfl := k62_openM hM24; have HP24 := Kd.R_seg HX24.out ((ji17) : Int) (of_decide_eq_true (by first | (with_reducible assumption) | assumption)) (by have h_ : ((ji17) : Int) < ((x8_1.length : Int) : Int) := of_decide_eq_true (by first | (with_reducible assumption) | assumption); first | exact h_ | (have e_ := (Kd.R_reads' HO_8.out).1; omega) | simpa using h_) (seg := [.int .i64 t106]) (j := 1) hcl24 hcc24 (show 2 ≤ 2 from by decide) (x' := (⟨(rd_T62 x8_1 (ji17)).f0, t106⟩ : S62)) (k62_mkM _ _ _ (⟨(rd_T62 x8_1 (ji17)).f0, t106⟩ : S62) ) (fun _ hk => hk); have hx24_1 := hcc24 1 _ rfl; (try simp only [show (k62).sz = 2 from rfl, Nat.mul_one, Nat.add_zero] at hx24_1); have hf24_1 := hfr24 1; (try simp only [show (k62).sz = 2 from rfl, Nat.mul_one, Nat.add_zero] at hf24_1); clear hcl24 hcc24 hfr24 hM24) | ((with_reducible refine gate_store (t := 2) (p := 59) rfl ?_); (try (rw [drewN_self wc]; generalize hq_ : World.drewN wc _ = wc; have n0_ := Aside0.mk (Kd.R_at hq_ HO_8.out); have n1_ := Aside0.mk (blk_at hq_ BK102.out); have n2_ := Aside0.mk (below_at hq_ HB.out); clear hq_ HO_8 BK102 HB; have HO_8 := n0_; have BK102 := n1_; have HB := n2_; clear n0_ n1_ n2_; (try (have HX24 := Aside0.mk (show Kd.R k62 62 wc w.heap.size (fun k_ => k_ ≠ gb102) (.slice (some ⟨go22, 0, none⟩) x8_1.length co11) x8_1 from (by (with_reducible repeat (first | apply Kd.R_alloc | apply Kd.R_drewN | apply Kd.R_drew)); exact HO_8.out)))); (try (obtain ⟨ce24, hcl24, hM24, hcc24, hfr24⟩ := Kd.R_elem HX24.out z62 ((ji17) : Int) (of_decide_eq_true (by first | (with_reducible assumption) | assumption)) (by have h_ : ((ji17) : Int) < ((x8_1.length : Int) : Int) := of_decide_eq_true (by first | (with_reducible assumption) | assumption); first | exact h_ | (have e_ := (Kd.R_reads' HO_8.out).1; omega) | simpa using h_))); (try (obtain rfl := k62_openM hM24)); (try (have HP24 := Kd.R_seg HX24.out ((ji17) : Int) (of_decide_eq_true (by first | (with_reducible assumption) | assumption)) (by have h_ : ((ji17) : Int) < ((x8_1.length : Int) : Int) := of_decide_eq_true (by first | (with_reducible assumption) | assumption); first | exact h_ | (have e_ := (Kd.R_reads' HO_8.out).1; omega) | simpa using h_) (seg := [.int .i64 t106]) (j := 1) hcl24 hcc24 (show 2 ≤ 2 from by decide) (x' := (⟨(rd_T62 x8_1 (ji17)).f0, t106⟩ : S62)) (k62_mkM _ _ _ (⟨(rd_T62 x8_1 (ji17)).f0, t106⟩ : S62) ) (fun _ hk => hk))); (try (have hx24_1 := hcc24 1 _ rfl)); (try (try simp only [show (k62).sz = 2 from rfl, Nat.mul_one, Nat.add_zero] at hx24_1)); (try (have hf24_1 := hfr24 1)); (try (try simp only [show (k62).sz = 2 from rfl, Nat.mul_one, Nat.add_zero] at hf24_1)); (try (clear hcl24 hcc24 hfr24 hM24)))); refine store_event (t := 2) (p := 59) (v := ?vo_w25) (w1 := (wc.setCell ⟨go22, ((ji17) : Int).toNat * 2 + 1, none⟩ (.int .i64 t106))) ?hg ?ho ?hn ?hr ?_; (case ho => rfl); (case hg => rfl); (case hn => rfl); (case hr => first | (go_simp; done) | (go_simp; rfl)); intro w25 hw; have hg : wc.grownBy w25 (some go22) := (by rw [hw]; exact HP24.2); have hp_ : Kd.R k62 62 w25 w.heap.size (fun k_ => k_ ≠ gb102) (.slice (some ⟨go22, 0, none⟩) x8_1.length co11) y108 := (by rw [hw, Ny108.out]; exact HP24.1); clear HP24; have n0_ := Aside0.mk (hp_); have n1_ := Aside0.mk (blk_grown (g := gb102) (o := .cells #[.int .i64 ((rd_T62 l0 x17_1).f0), .int .i64 ((rd_T62 l0 x17_1).f1)] 62 (0, 0)) (by (with_reducible repeat (first | refine blk_drewN ?_ _ | refine blk_drew ?_ | refine blk_alloc ?_ _)); exact BK102.out) hg (Kd.R_away HO_8.out (fun _ hk => hk))); have n2_ := Aside0.mk ((by rw [hw]; exact below_set (HB.out) GB22.out : Below w.heap.size w w25)); clear HO_8; clear BK102; clear HB; have HO_8 := n0_; have BK102 := n1_; have HB := n2_; clear n0_ n1_ n2_; clear hg hw hp_))
            repeat (go_quiet (first | (go_at_call 42; (with_reducible refine (scale_whole.calls ((rd_T62 x8_1 (ji17)).f1) ((rd_T62 l0 x17_1).f1) t106 true _ A20.out).mono ?_); rintro e w' ⟨rfl, ⟨nd, rfl⟩⟩; (try first | exact ⟨rfl, _, World.drewN_drewN _ _ _⟩ | exact ⟨rfl, _, Eq.trans (World.drewN_drewN _ _ _) (congrArg (World.drewN _) (Nat.add_assoc _ _ _))⟩); clear A20; have p22 : 0 ≤ ((ji17) : Int) := of_decide_eq_true (by first | (with_reducible assumption) | assumption); have q22 : ((ji17) : Int) < ((x8_1.length : Int) : Int) := of_decide_eq_true (by first | (with_reducible assumption) | assumption); obtain ⟨go22, co22, eo22, gb22, gl22, cl22, HG22⟩ := Kd.R_form HO_8.out (by omega); (first | cases eo22 | (injection eo22 with ea_ en_ ec_; (first | subst ea_ | (injection ea_ with ea_; subst ea_)); subst ec_; clear en_)); have GB22 := Aside0.mk gb22; have GG22 := Aside0.mk HG22; clear gb22 gl22 HG22; (first | simp only [add_plain] at hx105_0 | skip); (first | simp only [add_plain] at hx105_1 | skip); obtain ⟨ce22, hcl22, hM22, hcc22, hfr22⟩ := Kd.R_elem HO_8.out z62 ((ji17) : Int) p22 q22; obtain rfl := k62_openM hM22; have hx22_0 : wc.cell? ⟨go22, ((ji17) : Int).toNat * 2, none⟩ = some (.int .i64 ((rd_T62 x8_1 (ji17)).f0)) := hcc22 0 _ rfl; have hx22_1 : wc.cell? ⟨go22, ((ji17) : Int).toNat * 2 + 1, none⟩ = some (.int .i64 ((rd_T62 x8_1 (ji17)).f1)) := hcc22 1 _ rfl; have hf22_0 : wc.frozen? ⟨go22, ((ji17) : Int).toNat * 2, none⟩ = false := hfr22 0; have hf22_1 : wc.frozen? ⟨go22, ((ji17) : Int).toNat * 2 + 1, none⟩ = false := hfr22 1; clear hcl22 hcc22 hfr22 hM22; replace p22 := eq_true p22; replace q22 := eq_true q22; have HX24 := Aside0.mk (show Kd.R k62 62 wc w.heap.size (fun k_ => k_ ≠ gb102) (.slice (some ⟨go22, 0, none⟩) x8_1.length co11) x8_1 from (by (with_reducible repeat (first | apply Kd.R_alloc | apply Kd.R_drewN | apply Kd.R_drew)); exact HO_8.out)); obtain ⟨ce24, hcl24, hM24, hcc24, hfr24⟩ := Kd.R_elem HX24.out z62 ((ji17) : Int) (of_decide_eq_true (by first | (with_reducible assumption) | assumption)) (by have h_ : ((ji17) : Int) < ((x8_1.length : Int) : Int) := of_decide_eq_true (by first | (with_reducible assumption) | assumption); first | exact h_ | (have e_ := (Kd.R_reads' HO_8.out).1; omega) | simpa using h_); obtain rfl := k62_openM hM24; have HP24 := Kd.R_seg HX24.out ((ji17) : Int) (of_decide_eq_true (by first | (with_reducible assumption) | assumption)) (by have h_ : ((ji17) : Int) < ((x8_1.length : Int) : Int) := of_decide_eq_true (by first | (with_reducible assumption) | assumption); first | exact h_ | (have e_ := (Kd.R_reads' HO_8.out).1; omega) | simpa using h_) (seg := [.int .i64 t106]) (j := 1) hcl24 hcc24 (show 2 ≤ 2 from by decide) (x' := (⟨(rd_T62 x8_1 (ji17)).f0, t106⟩ : S62)) (k62_mkM _ _ _ (⟨(rd_T62 x8_1 (ji17)).f0, t106⟩ : S62) ) (fun _ hk => hk); have hx24_1 := hcc24 1 _ rfl; (try simp only [show (k62).sz = 2 from rfl, Nat.mul_one, Nat.add_zero] at hx24_1); have hf24_1 := hfr24 1; (try simp only [show (k62).sz = 2 from rfl, Nat.mul_one, Nat.add_zero] at hf24_1); clear hcl24 hcc24 hfr24 hM24) | ((with_reducible refine gate_store (t := 2) (p := 59) rfl ?_); (try (rw [drewN_self wc]; generalize hq_ : World.drewN wc _ = wc; have n0_ := Aside0.mk (Kd.R_at hq_ HO_8.out); have n1_ := Aside0.mk (blk_at hq_ BK102.out); have n2_ := Aside0.mk (below_at hq_ HB.out); clear hq_ HO_8 BK102 HB; have HO_8 := n0_; have BK102 := n1_; have HB := n2_; clear n0_ n1_ n2_; (try (have HX24 := Aside0.mk (show Kd.R k62 62 wc w.heap.size (fun k_ => k_ ≠ gb102) (.slice (some ⟨go22, 0, none⟩) x8_1.length co11) x8_1 from (by (with_reducible repeat (first | apply Kd.R_alloc | apply Kd.R_drewN | apply Kd.R_drew)); exact HO_8.out)))); (try (obtain ⟨ce24, hcl24, hM24, hcc24, hfr24⟩ := Kd.R_elem HX24.out z62 ((ji17) : Int) (of_decide_eq_true (by first | (with_reducible assumption) | assumption)) (by have h_ : ((ji17) : Int) < ((x8_1.length : Int) : Int) := of_decide_eq_true (by first | (with_reducible assumption) | assumption); first | exact h_ | (have e_ := (Kd.R_reads' HO_8.out).1; omega) | simpa using h_))); (try (obtain rfl := k62_openM hM24)); (try (have HP24 := Kd.R_seg HX24.out ((ji17) : Int) (of_decide_eq_true (by first | (with_reducible assumption) | assumption)) (by have h_ : ((ji17) : Int) < ((x8_1.length : Int) : Int) := of_decide_eq_true (by first | (with_reducible assumption) | assumption); first | exact h_ | (have e_ := (Kd.R_reads' HO_8.out).1; omega) | simpa using h_) (seg := [.int .i64 t106]) (j := 1) hcl24 hcc24 (show 2 ≤ 2 from by decide) (x' := (⟨(rd_T62 x8_1 (ji17)).f0, t106⟩ : S62)) (k62_mkM _ _ _ (⟨(rd_T62 x8_1 (ji17)).f0, t106⟩ : S62) ) (fun _ hk => hk))); (try (have hx24_1 := hcc24 1 _ rfl)); (try (try simp only [show (k62).sz = 2 from rfl, Nat.mul_one, Nat.add_zero] at hx24_1)); (try (have hf24_1 := hfr24 1)); (try (try simp only [show (k62).sz = 2 from rfl, Nat.mul_one, Nat.add_zero] at hf24_1)); (try (clear hcl24 hcc24 hfr24 hM24)))); refine store_event (t := 2) (p := 59) (v := ?vo_w25) (w1 := (wc.setCell ⟨go22, ((ji17) : Int).toNat * 2 + 1, none⟩ (.int .i64 t106))) ?hg ?ho ?hn ?hr ?_; (case ho => rfl); (case hg => rfl); (case hn => rfl); (case hr => first | (go_simp; done) | (go_simp; rfl)); intro w25 hw; have hg : wc.grownBy w25 (some go22) := (by rw [hw]; exact HP24.2); have hp_ : Kd.R k62 62 w25 w.heap.size (fun k_ => k_ ≠ gb102) (.slice (some ⟨go22, 0, none⟩) x8_1.length co11) y108 := (by rw [hw, Ny108.out]; exact HP24.1); clear HP24; have n0_ := Aside0.mk (hp_); have n1_ := Aside0.mk (blk_grown (g := gb102) (o := .cells #[.int .i64 ((rd_T62 l0 x17_1).f0), .int .i64 ((rd_T62 l0 x17_1).f1)] 62 (0, 0)) (by (with_reducible repeat (first | refine blk_drewN ?_ _ | refine blk_drew ?_ | refine blk_alloc ?_ _)); exact BK102.out) hg (Kd.R_away HO_8.out (fun _ hk => hk))); have n2_ := Aside0.mk ((by rw [hw]; exact below_set (HB.out) GB22.out : Below w.heap.size w w25)); clear HO_8; clear BK102; clear HB; have HO_8 := n0_; have BK102 := n1_; have HB := n2_; clear n0_ n1_ n2_; clear hg hw hp_)); try go_wp2_with (first | (go_at_call 42; (with_reducible refine (scale_whole.calls ((rd_T62 x8_1 (ji17)).f1) ((rd_T62 l0 x17_1).f1) t106 true _ A20.out).mono ?_); rintro e w' ⟨rfl, ⟨nd, rfl⟩⟩; (try first | exact ⟨rfl, _, World.drewN_drewN _ _ _⟩ | exact ⟨rfl, _, Eq.trans (World.drewN_drewN _ _ _) (congrArg (World.drewN _) (Nat.add_assoc _ _ _))⟩); clear A20; have p22 : 0 ≤ ((ji17) : Int) := of_decide_eq_true (by first | (with_reducible assumption) | assumption); have q22 : ((ji17) : Int) < ((x8_1.length : Int) : Int) := of_decide_eq_true (by first | (with_reducible assumption) | assumption); obtain ⟨go22, co22, eo22, gb22, gl22, cl22, HG22⟩ := Kd.R_form HO_8.out (by omega); (first | cases eo22 | (injection eo22 with ea_ en_ ec_; (first | subst ea_ | (injection ea_ with ea_; subst ea_)); subst ec_; clear en_)); have GB22 := Aside0.mk gb22; have GG22 := Aside0.mk HG22; clear gb22 gl22 HG22; (first | simp only [add_plain] at hx105_0 | skip); (first | simp only [add_plain] at hx105_1 | skip); obtain ⟨ce22, hcl22, hM22, hcc22, hfr22⟩ := Kd.R_elem HO_8.out z62 ((ji17) : Int) p22 q22; obtain rfl := k62_openM hM22; have hx22_0 : wc.cell? ⟨go22, ((ji17) : Int).toNat * 2, none⟩ = some (.int .i64 ((rd_T62 x8_1 (ji17)).f0)) := hcc22 0 _ rfl; have hx22_1 : wc.cell? ⟨go22, ((ji17) : Int).toNat * 2 + 1, none⟩ = some (.int .i64 ((rd_T62 x8_1 (ji17)).f1)) := hcc22 1 _ rfl; have hf22_0 : wc.frozen? ⟨go22, ((ji17) : Int).toNat * 2, none⟩ = false := hfr22 0; have hf22_1 : wc.frozen? ⟨go22, ((ji17) : Int).toNat * 2 + 1, none⟩ = false := hfr22 1; clear hcl22 hcc22 hfr22 hM22; replace p22 := eq_true p22; replace q22 := eq_true q22; have HX24 := Aside0.mk (show Kd.R k62 62 wc w.heap.size (fun k_ => k_ ≠ gb102) (.slice (some ⟨go22, 0, none⟩) x8_1.length co11) x8_1 from (by (with_reducible repeat (first | apply Kd.R_alloc | apply Kd.R_drewN | apply Kd.R_drew)); exact HO_8.out)); obtain ⟨ce24, hcl24, hM24, hcc24, hfr24⟩ := Kd.R_elem HX24.out z62 ((ji17) : Int) (of_decide_eq_true (by first | (with_reducible assumption) | assumption)) (by have h_ : ((ji17) : Int) < ((x8_1.length : Int) : Int) := of_decide_eq_true (by first | (with_reducible assumption) | assumption); first | exact h_ | (have e_ := (Kd.R_reads' HO_8.out).1; omega) | simpa using h_); obtain rfl := k62_openM hM24; have HP24 := Kd.R_seg HX24.out ((ji17) : Int) (of_decide_eq_true (by first | (with_reducible assumption) | assumption)) (by have h_ : ((ji17) : Int) < ((x8_1.length : Int) : Int) := of_decide_eq_true (by first | (with_reducible assumption) | assumption); first | exact h_ | (have e_ := (Kd.R_reads' HO_8.out).1; omega) | simpa using h_) (seg := [.int .i64 t106]) (j := 1) hcl24 hcc24 (show 2 ≤ 2 from by decide) (x' := (⟨(rd_T62 x8_1 (ji17)).f0, t106⟩ : S62)) (k62_mkM _ _ _ (⟨(rd_T62 x8_1 (ji17)).f0, t106⟩ : S62) ) (fun _ hk => hk); have hx24_1 := hcc24 1 _ rfl; (try simp only [show (k62).sz = 2 from rfl, Nat.mul_one, Nat.add_zero] at hx24_1); have hf24_1 := hfr24 1; (try simp only [show (k62).sz = 2 from rfl, Nat.mul_one, Nat.add_zero] at hf24_1); clear hcl24 hcc24 hfr24 hM24) | ((with_reducible refine gate_store (t := 2) (p := 59) rfl ?_); (try (rw [drewN_self wc]; generalize hq_ : World.drewN wc _ = wc; have n0_ := Aside0.mk (Kd.R_at hq_ HO_8.out); have n1_ := Aside0.mk (blk_at hq_ BK102.out); have n2_ := Aside0.mk (below_at hq_ HB.out); clear hq_ HO_8 BK102 HB; have HO_8 := n0_; have BK102 := n1_; have HB := n2_; clear n0_ n1_ n2_; (try (have HX24 := Aside0.mk (show Kd.R k62 62 wc w.heap.size (fun k_ => k_ ≠ gb102) (.slice (some ⟨go22, 0, none⟩) x8_1.length co11) x8_1 from (by (with_reducible repeat (first | apply Kd.R_alloc | apply Kd.R_drewN | apply Kd.R_drew)); exact HO_8.out)))); (try (obtain ⟨ce24, hcl24, hM24, hcc24, hfr24⟩ := Kd.R_elem HX24.out z62 ((ji17) : Int) (of_decide_eq_true (by first | (with_reducible assumption) | assumption)) (by have h_ : ((ji17) : Int) < ((x8_1.length : Int) : Int) := of_decide_eq_true (by first | (with_reducible assumption) | assumption); first | exact h_ | (have e_ := (Kd.R_reads' HO_8.out).1; omega) | simpa using h_))); (try (obtain rfl := k62_openM hM24)); (try (have HP24 := Kd.R_seg HX24.out ((ji17) : Int) (of_decide_eq_true (by first | (with_reducible assumption) | assumption)) (by have h_ : ((ji17) : Int) < ((x8_1.length : Int) : Int) := of_decide_eq_true (by first | (with_reducible assumption) | assumption); first | exact h_ | (have e_ := (Kd.R_reads' HO_8.out).1; omega) | simpa using h_) (seg := [.int .i64 t106]) (j := 1) hcl24 hcc24 (show 2 ≤ 2 from by decide) (x' := (⟨(rd_T62 x8_1 (ji17)).f0, t106⟩ : S62)) (k62_mkM _ _ _ (⟨(rd_T62 x8_1 (ji17)).f0, t106⟩ : S62) ) (fun _ hk => hk))); (try (have hx24_1 := hcc24 1 _ rfl)); (try (try simp only [show (k62).sz = 2 from rfl, Nat.mul_one, Nat.add_zero] at hx24_1)); (try (have hf24_1 := hfr24 1)); (try (try simp only [show (k62).sz = 2 from rfl, Nat.mul_one, Nat.add_zero] at hf24_1)); (try (clear hcl24 hcc24 hfr24 hM24)))); refine store_event (t := 2) (p := 59) (v := ?vo_w25) (w1 := (wc.setCell ⟨go22, ((ji17) : Int).toNat * 2 + 1, none⟩ (.int .i64 t106))) ?hg ?ho ?hn ?hr ?_; (case ho => rfl); (case hg => rfl); (case hn => rfl); (case hr => first | (go_simp; done) | (go_simp; rfl)); intro w25 hw; have hg : wc.grownBy w25 (some go22) := (by rw [hw]; exact HP24.2); have hp_ : Kd.R k62 62 w25 w.heap.size (fun k_ => k_ ≠ gb102) (.slice (some ⟨go22, 0, none⟩) x8_1.length co11) y108 := (by rw [hw, Ny108.out]; exact HP24.1); clear HP24; have n0_ := Aside0.mk (hp_); have n1_ := Aside0.mk (blk_grown (g := gb102) (o := .cells #[.int .i64 ((rd_T62 l0 x17_1).f0), .int .i64 ((rd_T62 l0 x17_1).f1)] 62 (0, 0)) (by (with_reducible repeat (first | refine blk_drewN ?_ _ | refine blk_drew ?_ | refine blk_alloc ?_ _)); exact BK102.out) hg (Kd.R_away HO_8.out (fun _ hk => hk))); have n2_ := Aside0.mk ((by rw [hw]; exact below_set (HB.out) GB22.out : Below w.heap.size w w25)); clear HO_8; clear BK102; clear HB; have HO_8 := n0_; have BK102 := n1_; have HB := n2_; clear n0_ n1_ n2_; clear hg hw hp_)))
            go_roundg kj7
            case measure => have := HK1.out; have := HJ7.out; omega
            case rel => exact ⟨(y108), (wrap64 (x17_1 + 1)), (by first | rfl | (simp; done) | (simp [*]; done)), H', ⟨by have := HK1.out; have := HJ7.out; omega⟩, ⟨by (with_reducible repeat (first | apply Kd.R_alloc | apply Kd.R_drewN | apply Kd.R_drew)); exact Kd.R_mono HO_8.out (fun _ hk => trivial)⟩, ⟨by repeat (first | (with_reducible first | exact HB.out | apply below_alloc | apply pw_below_drewN | apply below_drew1 | refine below_set ?_ GE102.out) | exact HB.out)⟩⟩
           ·replace c21 := Bool.eq_false_iff.mpr c21
            subst c21
            have H1 : (some (([] : List (S62)), false)) = some (r1, r2) := by rw [if_neg (show ¬ (false = true) by decide)] at H; exact H
            clear H
            have H := H1
            clear H1
            simp only [Option.some.injEq, Prod.mk.injEq] at H
            obtain ⟨rfl, rfl⟩ := H
            have p105 : 0 ≤ ((ji17) : Int) := of_decide_eq_true (by first | (with_reducible assumption) | assumption)
            have q105 : (ji17) < (x8_1.length : Int) := of_decide_eq_true (by first | (with_reducible assumption) | assumption)
            obtain ⟨ad105, e105, hx105_0, hx105_1⟩ := at_T62 (Kd.R_reads' HO_8.out).2.2 (ji17) p105 q105
            cases e105
            replace p105 := eq_true p105
            replace q105 := eq_true q105
            have hcz26_0 : wc.cell? ⟨gb102, 0, none⟩ = some (.int .i64 ((rd_T62 l0 x17_1).f0)) := (blk_cell BK102.out 0).trans rfl
            have hcz26_1 : wc.cell? ⟨gb102, 1, none⟩ = some (.int .i64 ((rd_T62 l0 x17_1).f1)) := (blk_cell BK102.out 1).trans rfl
            have hfz26_0 := blk_frozen BK102.out 0
            have hfz26_1 := blk_frozen BK102.out 1
            go_wp2_with (first | (go_at_call 42; (with_reducible refine (scale_whole.calls ((rd_T62 x8_1 (ji17)).f1) ((rd_T62 l0 x17_1).f1) t106 false _ A20.out).mono ?_); rintro e w' ⟨rfl, ⟨nd, rfl⟩⟩; (try first | exact ⟨rfl, _, World.drewN_drewN _ _ _⟩ | exact ⟨rfl, _, Eq.trans (World.drewN_drewN _ _ _) (congrArg (World.drewN _) (Nat.add_assoc _ _ _))⟩); clear A20))
            repeat (go_quiet (first | (go_at_call 42; (with_reducible refine (scale_whole.calls ((rd_T62 x8_1 (ji17)).f1) ((rd_T62 l0 x17_1).f1) t106 false _ A20.out).mono ?_); rintro e w' ⟨rfl, ⟨nd, rfl⟩⟩; (try first | exact ⟨rfl, _, World.drewN_drewN _ _ _⟩ | exact ⟨rfl, _, Eq.trans (World.drewN_drewN _ _ _) (congrArg (World.drewN _) (Nat.add_assoc _ _ _))⟩); clear A20)); try go_wp2_with (first | (go_at_call 42; (with_reducible refine (scale_whole.calls ((rd_T62 x8_1 (ji17)).f1) ((rd_T62 l0 x17_1).f1) t106 false _ A20.out).mono ?_); rintro e w' ⟨rfl, ⟨nd, rfl⟩⟩; (try first | exact ⟨rfl, _, World.drewN_drewN _ _ _⟩ | exact ⟨rfl, _, Eq.trans (World.drewN_drewN _ _ _) (congrArg (World.drewN _) (Nat.add_assoc _ _ _))⟩); clear A20)))
            go_ret2
            exact ⟨_, by first | rfl | (simp [errW_none, errW_some] <;> rfl) | (simp only [← hji17]; first | rfl | (simp [errW_none, errW_some] <;> rfl)) | (simp [*, errW_none, errW_some] <;> rfl), by first | exact Kd.R_nil _ _ _ _ _ | exact Kd.N_nil _ _ _ _ _ | exact Kd.V_nil _ _ _ _ _ | exact Kd.Q_nil _ _ _ _ _ | exact Kd.S_nil _ _ _ _ _, by repeat (first | (with_reducible first | exact HB.out | apply below_alloc | apply pw_below_drewN | apply below_drew1 | refine below_set ?_ GE102.out) | exact HB.out)⟩
          ·rw [if_neg c19] at H
           exact absurd H (by simp)
         ·rw [if_neg c18] at H
          exact absurd H (by simp)
        ·replace c16 := Bool.eq_false_iff.mpr c16
         subst c16
         have H1 : (if x8_1.length < 8796093022208 then (scale_widen_int64.l0 kj7 a1 (x8_1 ++ [(⟨t103, ((rd_T62 l0 x17_1).f1)⟩ : S62)]) l0 (l0.length : Int) (wrap64 (x17_1 + 1))) else (none)) = some (r1, r2) := by rw [if_neg (show ¬ (false = true) by decide)] at H; exact H
         clear H
         have H := H1
         clear H1
         by_cases c27 : x8_1.length < 8796093022208
         ·rw [if_pos c27] at H
          have LMc27 := Aside0.mk c27
          clear c27
          obtain ⟨y109, hy109⟩ : ∃ y_ : List (S62), y_ = (x8_1 ++ [(⟨t103, ((rd_T62 l0 x17_1).f1)⟩ : S62)]) := ⟨_, rfl⟩
          replace H : (scale_widen_int64.l0 kj7 a1 y109 l0 (l0.length : Int) (wrap64 (x17_1 + 1))) = some (r1, r2) := by first | (rw [hy109]; with_reducible exact H) | (have H2_ := (Option.bind_some _ _).symm.trans H; rw [hy109]; with_reducible exact H2_) | (have H2_ := (Option.bind_some _ _).symm.trans H; with_reducible exact H2_) | with_reducible exact H | (rw [hy109]; exact H) | exact H
          have Ny109 := Aside0.mk hy109
          clear hy109
          have H' := Aside0.mk H
          clear H
          have hcz28_0 : wc.cell? ⟨gb102, 0, none⟩ = some (.int .i64 ((rd_T62 l0 x17_1).f0)) := (blk_cell BK102.out 0).trans rfl
          have hcz28_1 : wc.cell? ⟨gb102, 1, none⟩ = some (.int .i64 ((rd_T62 l0 x17_1).f1)) := (blk_cell BK102.out 1).trans rfl
          have hfz28_0 := blk_frozen BK102.out 0
          have hfz28_1 := blk_frozen BK102.out 1
          go_wp2_with (first | ((with_reducible refine gate_builtin (b := .append) (xs := #[.tmp 60, .tmp 65]) rfl ?_); at_builtin; refine Kd.R_append k62 (w0 := w) w.heap.size rfl (.tmp 60) (.tmp 65) 58 62 (.agg #[(.int .i64 0), (.int .i64 0)]) 16 rfl Try.underlying58 info62 rfl (by decide) (by omega) (.slice Ao11 x8_1.length co11) x8_1 (⟨t103, ((rd_T62 l0 x17_1).f1)⟩ : S62) [.int .i64 t103, .int .i64 ((rd_T62 l0 x17_1).f1)] (fun k_ => k_ ≠ gb102) (fun _ => False) rfl rfl ?aP (fun _ hk => hk.elim) ?aF ?aO ?aB ?aS ?aL ?_; (case aP => exact k62_mkM _ _ _ (⟨t103, ((rd_T62 l0 x17_1).f1)⟩ : S62)); (case aB => exact (by repeat (first | (with_reducible first | exact HB.out | apply below_alloc | apply pw_below_drewN | apply below_drew1 | refine below_set ?_ GE102.out) | exact HB.out))); (case aF => exact (fun k_ hk => Kd.freshB (g := gb102) (o := .cells #[.int .i64 ((rd_T62 l0 x17_1).f0), .int .i64 ((rd_T62 l0 x17_1).f1)] 62 (0, 0)) (by (with_reducible repeat (first | refine blk_drewN ?_ _ | refine blk_drew ?_ | refine blk_alloc ?_ _)); exact BK102.out) k_ hk)); (case aO => exact (by (with_reducible repeat (first | apply Kd.R_alloc | apply Kd.R_drewN | apply Kd.R_drew)); exact HO_8.out)); (case aS => exact (below_size (by repeat (first | (with_reducible first | exact HB.out | apply below_alloc | apply pw_below_drewN | apply below_drew1 | refine below_set ?_ GE102.out) | exact HB.out)))); (case aL => have := LMc27.out; omega); intro v110 w29 ho hb hg hat; rw [← Ny109.out] at ho; have n0_ := Aside0.mk (blk_grown (g := gb102) (o := .cells #[.int .i64 ((rd_T62 l0 x17_1).f0), .int .i64 ((rd_T62 l0 x17_1).f1)] 62 (0, 0)) (by (with_reducible repeat (first | refine blk_drewN ?_ _ | refine blk_drew ?_ | refine blk_alloc ?_ _)); exact BK102.out) hg (Kd.R_away HO_8.out (fun _ hk => hk))); have n1_ := Aside0.mk (hb); have n2_ := Aside0.mk (ho); clear BK102; clear HB; clear HO_8; have BK102 := n0_; have HB := n1_; have HO111 := n2_; clear n0_ n1_ n2_; clear ho hb hg hat))
          repeat (go_quiet (first | ((with_reducible refine gate_builtin (b := .append) (xs := #[.tmp 60, .tmp 65]) rfl ?_); at_builtin; refine Kd.R_append k62 (w0 := w) w.heap.size rfl (.tmp 60) (.tmp 65) 58 62 (.agg #[(.int .i64 0), (.int .i64 0)]) 16 rfl Try.underlying58 info62 rfl (by decide) (by omega) (.slice Ao11 x8_1.length co11) x8_1 (⟨t103, ((rd_T62 l0 x17_1).f1)⟩ : S62) [.int .i64 t103, .int .i64 ((rd_T62 l0 x17_1).f1)] (fun k_ => k_ ≠ gb102) (fun _ => False) rfl rfl ?aP (fun _ hk => hk.elim) ?aF ?aO ?aB ?aS ?aL ?_; (case aP => exact k62_mkM _ _ _ (⟨t103, ((rd_T62 l0 x17_1).f1)⟩ : S62)); (case aB => exact (by repeat (first | (with_reducible first | exact HB.out | apply below_alloc | apply pw_below_drewN | apply below_drew1 | refine below_set ?_ GE102.out) | exact HB.out))); (case aF => exact (fun k_ hk => Kd.freshB (g := gb102) (o := .cells #[.int .i64 ((rd_T62 l0 x17_1).f0), .int .i64 ((rd_T62 l0 x17_1).f1)] 62 (0, 0)) (by (with_reducible repeat (first | refine blk_drewN ?_ _ | refine blk_drew ?_ | refine blk_alloc ?_ _)); exact BK102.out) k_ hk)); (case aO => exact (by (with_reducible repeat (first | apply Kd.R_alloc | apply Kd.R_drewN | apply Kd.R_drew)); exact HO_8.out)); (case aS => exact (below_size (by repeat (first | (with_reducible first | exact HB.out | apply below_alloc | apply pw_below_drewN | apply below_drew1 | refine below_set ?_ GE102.out) | exact HB.out)))); (case aL => have := LMc27.out; omega); intro v110 w29 ho hb hg hat; rw [← Ny109.out] at ho; have n0_ := Aside0.mk (blk_grown (g := gb102) (o := .cells #[.int .i64 ((rd_T62 l0 x17_1).f0), .int .i64 ((rd_T62 l0 x17_1).f1)] 62 (0, 0)) (by (with_reducible repeat (first | refine blk_drewN ?_ _ | refine blk_drew ?_ | refine blk_alloc ?_ _)); exact BK102.out) hg (Kd.R_away HO_8.out (fun _ hk => hk))); have n1_ := Aside0.mk (hb); have n2_ := Aside0.mk (ho); clear BK102; clear HB; clear HO_8; have BK102 := n0_; have HB := n1_; have HO111 := n2_; clear n0_ n1_ n2_; clear ho hb hg hat)); try go_wp2_with (first | ((with_reducible refine gate_builtin (b := .append) (xs := #[.tmp 60, .tmp 65]) rfl ?_); at_builtin; refine Kd.R_append k62 (w0 := w) w.heap.size rfl (.tmp 60) (.tmp 65) 58 62 (.agg #[(.int .i64 0), (.int .i64 0)]) 16 rfl Try.underlying58 info62 rfl (by decide) (by omega) (.slice Ao11 x8_1.length co11) x8_1 (⟨t103, ((rd_T62 l0 x17_1).f1)⟩ : S62) [.int .i64 t103, .int .i64 ((rd_T62 l0 x17_1).f1)] (fun k_ => k_ ≠ gb102) (fun _ => False) rfl rfl ?aP (fun _ hk => hk.elim) ?aF ?aO ?aB ?aS ?aL ?_; (case aP => exact k62_mkM _ _ _ (⟨t103, ((rd_T62 l0 x17_1).f1)⟩ : S62)); (case aB => exact (by repeat (first | (with_reducible first | exact HB.out | apply below_alloc | apply pw_below_drewN | apply below_drew1 | refine below_set ?_ GE102.out) | exact HB.out))); (case aF => exact (fun k_ hk => Kd.freshB (g := gb102) (o := .cells #[.int .i64 ((rd_T62 l0 x17_1).f0), .int .i64 ((rd_T62 l0 x17_1).f1)] 62 (0, 0)) (by (with_reducible repeat (first | refine blk_drewN ?_ _ | refine blk_drew ?_ | refine blk_alloc ?_ _)); exact BK102.out) k_ hk)); (case aO => exact (by (with_reducible repeat (first | apply Kd.R_alloc | apply Kd.R_drewN | apply Kd.R_drew)); exact HO_8.out)); (case aS => exact (below_size (by repeat (first | (with_reducible first | exact HB.out | apply below_alloc | apply pw_below_drewN | apply below_drew1 | refine below_set ?_ GE102.out) | exact HB.out)))); (case aL => have := LMc27.out; omega); intro v110 w29 ho hb hg hat; rw [← Ny109.out] at ho; have n0_ := Aside0.mk (blk_grown (g := gb102) (o := .cells #[.int .i64 ((rd_T62 l0 x17_1).f0), .int .i64 ((rd_T62 l0 x17_1).f1)] 62 (0, 0)) (by (with_reducible repeat (first | refine blk_drewN ?_ _ | refine blk_drew ?_ | refine blk_alloc ?_ _)); exact BK102.out) hg (Kd.R_away HO_8.out (fun _ hk => hk))); have n1_ := Aside0.mk (hb); have n2_ := Aside0.mk (ho); clear BK102; clear HB; clear HO_8; have BK102 := n0_; have HB := n1_; have HO111 := n2_; clear n0_ n1_ n2_; clear ho hb hg hat)))
          go_roundg kj7
          case measure => have := HK1.out; have := HJ7.out; omega
          case rel => exact ⟨(y109), (wrap64 (x17_1 + 1)), (by first | rfl | (simp; done) | (simp [*]; done)), H', ⟨by have := HK1.out; have := HJ7.out; omega⟩, ⟨by (with_reducible repeat (first | apply Kd.R_alloc | apply Kd.R_drewN | apply Kd.R_drew)); exact Kd.R_mono HO111.out (fun _ hk => trivial)⟩, ⟨by repeat (first | (with_reducible first | exact HB.out | apply below_alloc | apply pw_below_drewN | apply below_drew1 | refine below_set ?_ GE102.out) | exact HB.out)⟩⟩
         ·rw [if_neg c27] at H
          exact absurd H (by simp)
     ·rw [if_neg c6] at H
      exact absurd H (by simp)
    ·rw [if_neg c5] at H
     exact absurd H (by simp)
   ·rw [if_neg c4] at H
    have c4b0 : decide (x17_1 < (l0.length : Int)) = false := decide_eq_false c4
    clear c4
    simp only [Option.some.injEq, Prod.mk.injEq] at H
    obtain ⟨rfl, rfl⟩ := H
    go_wp2
    repeat (go_quiet (fail); try go_wp2)
    go_ret2
    exact ⟨_, by first | rfl | (simp [errW_none, errW_some] <;> rfl) | (simp [*, errW_none, errW_some] <;> rfl), by (with_reducible repeat (first | apply Kd.R_alloc | apply Kd.R_drewN | apply Kd.R_drew)); exact HO_8.out, by repeat (first | (with_reducible first | exact HB.out | apply below_alloc | apply pw_below_drewN | apply below_drew1) | exact HB.out)⟩
end Go.Proofs.Ytgkplhdcafbfbaa.P
namespace Go.Proofs.Ytgkplhdcafbfbaa.P
open Go.RowKit Go.Shelf Go.Proofs.YtgkplhdcafbfbaaW.PrintWords Go.Proofs.YtgkplhdcafbfbaaW.PrintLast Go.Proofs.YtgkplhdcafbfbaaW.PrintMore
def widenGo (s : Int) : Pr → List Pr → Option (List Pr)
  | cur, [] => some [cur]
  | cur, p :: t => if placeR p.f0 s = cur.f0 then (if cur.f1 + p.f1 ≤ 9223372036854775807 then widenGo s ⟨cur.f0, cur.f1 + p.f1⟩ t else none) else (widenGo s ⟨placeR p.f0 s, p.f1⟩ t).map (cur :: ·)
def widenW (s : Int) : List Pr → Option (List Pr)
  | [] => some []
  | p :: t => widenGo s ⟨placeR p.f0 s, p.f1⟩ t
def widenR (s : Int) (l : List Pr) : List Pr × Bool := match widenW s l with | some r => (r, true) | none => ([], false)
def nnRow (l : List Pr) : Prop := ∀ p ∈ l, i64 p.f0 ∧ 0 ≤ p.f1 ∧ p.f1 ≤ 9223372036854775807
theorem widen_loop (s : Int) (l : List Pr) (hl : l.length < 4398046511104) (hn : nnRow l) : ∀ (d k i : Nat) (done : List Pr) (cur : Pr), l.length - i = d → 2 * d + 2 < k → i ≤ l.length → done.length < i → 0 ≤ cur.f1 → cur.f1 ≤ 9223372036854775807 →
    scale_widen_int64.l0 k s (done ++ [cur]) l (l.length : Int) (i : Int) = some (match widenGo s cur (l.drop i) with | some r => (done ++ r, true) | none => ([], false)) := by
  intro d
  induction d with
  | zero =>
    intro k i done cur hd hk hi hdl h0 h1
    obtain ⟨k, rfl⟩ : ∃ m, k = m + 1 := ⟨k - 1, by omega⟩
    simp only [scale_widen_int64.l0]
    rw [if_neg (by omega), List.drop_eq_nil_of_le (by omega)]
    rfl
  | succ d ih =>
    intro k i done cur hd hk hi hdl h0 h1
    obtain ⟨k, rfl⟩ : ∃ m, k = m + 1 + 1 + 1 := ⟨k - 3, by omega⟩
    have hlt : i < l.length := by omega
    obtain ⟨p0, p1, p2⟩ := hn l[i] (List.getElem_mem hlt)
    have hlast : rd_T62 (done ++ [cur]) (wrap64 (((done ++ [cur]).length : Nat) - 1 : Int)) = cur := by
      rw [wrap_id (by simp <;> omega) (by simp <;> omega), show (((done ++ [cur]).length : Nat) - 1 : Int) = ((done.length : Nat) : Int) by simp, rdPr_at (by simp)]
      simp
    have hw : wrap64 (((done ++ [cur]).length : Nat) - 1 : Int) = (done.length : Int) := by rw [wrap_id (by simp <;> omega) (by simp <;> omega)]; simp
    have hlen : (((done ++ [cur]).length : Nat) : Int) = (done.length : Int) + 1 := by simp
    rw [scale_widen_int64.l0]
    rw [if_pos (by omega), if_pos (by omega), if_pos (by omega), rdPr_at hlt, scale_Place_f _ _ _ p0]
    simp only [Option.bind_some]
    rw [if_pos (by rw [hlen]; omega), hlast, hw, if_pos (by omega), if_pos (by rw [hlen]; omega)]
    rw [List.drop_eq_getElem_cons hlt]
    generalize l[i] = p at *
    simp only [scale_widen_int64.j1, widenGo]
    by_cases he : placeR p.f0 s = cur.f0
    · rw [if_pos (by simp [he]), if_pos he, hw, if_pos (by omega), if_pos (by rw [hlen]; omega)]
      rw [show rd_T62 (done ++ [cur]) (done.length : Int) = cur from by rw [rdPr_at (by simp)]; simp]
      simp only [scale_whole.f, Option.bind_some]
      by_cases ho : cur.f1 + p.f1 ≤ 9223372036854775807
      · rw [wrap_id (x := 9223372036854775807 - p.f1) (by omega) (by omega), if_pos (by simp <;> omega), wrap_id (x := cur.f1 + p.f1) (by omega) (by omega), if_pos ho, wrap_succ (by omega)]
        rw [show (done ++ [cur]).set ((done.length : Int)).toNat ⟨cur.f0, cur.f1 + p.f1⟩ = done ++ [⟨cur.f0, cur.f1 + p.f1⟩] from by rw [Int.toNat_natCast]; simp]
        exact ih (k + 1) (i + 1) done _ (by omega) (by omega) (by omega) (by omega) (by show 0 ≤ cur.f1 + p.f1; omega) ho
      · rw [wrap_id (x := 9223372036854775807 - p.f1) (by omega) (by omega), if_neg (by simp <;> omega), if_neg ho]
    · rw [if_neg (by simp; intro h; exact he h.symm), if_neg he, if_pos (by simp <;> omega), wrap_succ (by omega)]
      rw [ih (k + 1) (i + 1) (done ++ [cur]) ⟨placeR p.f0 s, p.f1⟩ (by omega) (by omega) (by omega) (by simp <;> omega) p1 p2]
      cases widenGo s ⟨placeR p.f0 s, p.f1⟩ (l.drop (i + 1)) with
      | none => rfl
      | some r => simp
theorem widen_f (s : Int) (l : List Pr) (hl : l.length < 4398046511104) (hn : nnRow l) (k : Nat) (hk : 2 * l.length + 4 < k) : scale_widen_int64.f k l s = some (widenR s l) := by
  unfold scale_widen_int64.f widenR
  obtain ⟨k, rfl⟩ : ∃ m, k = m + 1 + 1 + 1 := ⟨k - 3, by omega⟩
  cases l with
  | nil => simp only [scale_widen_int64.l0]; rfl
  | cons p t =>
    rw [scale_widen_int64.l0, if_pos (by simp <;> omega), if_pos (by omega), if_pos (by simp <;> omega)]
    obtain ⟨p0, p1, p2⟩ := hn p (by simp)
    have hr : rd_T62 (p :: t) 0 = p := rfl
    rw [hr, scale_Place_f _ _ _ p0]
    simp only [Option.bind_some]
    rw [if_neg (by simp)]
    simp only [scale_widen_int64.j1]
    rw [if_neg (by simp), if_pos (by simp), show wrap64 (0 + 1) = ((1 : Nat) : Int) from by unfold wrap64; omega]
    have := widen_loop s (p :: t) hl hn t.length (k + 1) 1 [] ⟨placeR p.f0 s, p.f1⟩ (by simp) (by simp at hk; omega) (by simp) (by simp) p1 p2
    rw [List.nil_append] at this ⊢
    rw [this]
    rfl
end Go.Proofs.Ytgkplhdcafbfbaa.P
namespace Go.Proofs.Ytgkplhdcafbfbaa.P
open Go.RowKit Go.Proofs.YtgkplhdcafbfbaaW.PrintWords Go.Proofs.YtgkplhdcafbfbaaW.PrintLast Go.Proofs.YtgkplhdcafbfbaaW.PrintMore
abbrev lookPr (l : List Pr) (p : Int) : Int := look (fun x : Pr => x.f0) (fun x : Pr => x.f1) l p
theorem lookPr_cons (x : Pr) (l : List Pr) (p : Int) : lookPr (x :: l) p = if x.f0 = p then x.f1 else lookPr l p := look_cons _ _ _
theorem zipL : ∀ (ps v : List Int), ps.length = v.length → (List.zipWith (fun p x => (⟨p, x⟩ : Pr)) ps v).map (·.f0) = ps ∧ (List.zipWith (fun p x => (⟨p, x⟩ : Pr)) ps v).map (·.f1) = v
  | [], [], _ => ⟨rfl, rfl⟩
  | p :: ps, x :: v, h => by have := zipL ps v (by simpa using h); exact ⟨by simp only [List.zipWith_cons_cons, List.map_cons, this.1], by simp only [List.zipWith_cons_cons, List.map_cons, this.2]⟩
  | [], _ :: _, h => by simp at h
  | _ :: _, [], h => by simp at h
end Go.Proofs.Ytgkplhdcafbfbaa.P
namespace Go.Proofs.Ytgkplhdcafbfbaa.P
open Go.RowKit Go.Shelf Go.Proofs.YtgkplhdcafbfbaaW.PrintWords Go.Proofs.YtgkplhdcafbfbaaW.PrintLast Go.Proofs.YtgkplhdcafbfbaaW.PrintMore
def sameNums (a b : Hi) : Prop := a.f0 = b.f0 ∧ a.f1 = b.f1 ∧ a.f2 = b.f2 ∧ a.f3 = b.f3 ∧ a.f4 = b.f4
instance (a b : Hi) : Decidable (sameNums a b) := by unfold sameNums; exact inferInstance
end Go.Proofs.Ytgkplhdcafbfbaa.P
namespace Go.Proofs.Ytgkplhdcafbfbaa.P
open Go.RowKit Go.Shelf Go.Proofs.YtgkplhdcafbfbaaW.PrintWords Go.Proofs.YtgkplhdcafbfbaaW.PrintLast Go.Proofs.YtgkplhdcafbfbaaW.PrintMore
def Blk (w : World) (g : Nat) (cs : Array Value) (t : TypeId) : Prop := w.heap[g]? = some (.cells cs t (0, 0))
theorem Blk.below {w w' : World} {g : Nat} {cs : Array Value} {t : TypeId} (h : Blk w g cs t) (hb : Below w.heap.size w w') : Blk w' g cs t := blk_below h hb
theorem Blk.cell {w : World} {g : Nat} {cs : Array Value} {t : TypeId} (h : Blk w g cs t) (i : Nat) : w.cell? ⟨g, i, none⟩ = cs[i]? := blk_cell h i
theorem Blk.new (w : World) (cs : Array Value) (t : TypeId) : Blk (w.alloc (.cells cs t)) w.heap.size cs t := blk_new w _
theorem Blk.alloc {w : World} {g : Nat} {cs : Array Value} {t : TypeId} (h : Blk w g cs t) (o : Obj) : Blk (w.alloc o) g cs t := blk_alloc h o
theorem Blk.at1 {w : World} (o : Obj) (cs : Array Value) (t : TypeId) : Blk ((w.alloc o).alloc (.cells cs t)) (w.heap.size + 1) cs t := by have := Blk.new (w.alloc o) cs t; simpa using this
abbrev kRsp := k104
def HR (w : World) (v : Value) (h : Hi) : Prop :=
  ∃ v5 v6 v7 v8, v = .agg #[.int .i64 h.f0, .int .u64 h.f1, .int .u64 h.f2, .int .u64 h.f3, .int .u64 h.f4, v5, v6, v7, v8] ∧ SI kRsp w v5 (h.f5.map toR) ∧ SI kRsp w v6 (h.f6.map toR) ∧ SI (Kd.int .i64) w v7 h.f7 ∧ SI (Kd.int .i64) w v8 h.f8
theorem HR.below {w w' : World} {v : Value} {h : Hi} (x : HR w v h) (hb : Below w.heap.size w w') : HR w' v h := by
  obtain ⟨v5, v6, v7, v8, e, h5, h6, h7, h8⟩ := x
  exact ⟨v5, v6, v7, v8, e, h5.below hb, h6.below hb, h7.below hb, h8.below hb⟩
theorem HR.open_ {w : World} {v : Value} {h : Hi} (x : HR w v h) : ∃ A5 c5 A6 c6 A7 c7 A8 c8, v = .agg #[.int .i64 h.f0, .int .u64 h.f1, .int .u64 h.f2, .int .u64 h.f3, .int .u64 h.f4, .slice A5 h.f5.length c5, .slice A6 h.f6.length c6, .slice A7 h.f7.length c7, .slice A8 h.f8.length c8] ∧
    SI kRsp w (.slice A5 h.f5.length c5) (h.f5.map toR) ∧ SI kRsp w (.slice A6 h.f6.length c6) (h.f6.map toR) ∧ SI (Kd.int .i64) w (.slice A7 h.f7.length c7) h.f7 ∧ SI (Kd.int .i64) w (.slice A8 h.f8.length c8) h.f8 := by
  obtain ⟨v5, v6, v7, v8, rfl, h5, h6, h7, h8⟩ := x
  obtain ⟨A5, c5, rfl, h51, h52⟩ := h5
  obtain ⟨A6, c6, rfl, h61, h62⟩ := h6
  obtain ⟨A7, c7, rfl, h71, h72⟩ := h7
  obtain ⟨A8, c8, rfl, h81, h82⟩ := h8
  rw [List.length_map]
  rw [List.length_map]
  refine ⟨A5, c5, A6, c6, A7, c7, A8, c8, rfl, ⟨A5, c5, by rw [List.length_map], h51, h52⟩, ⟨A6, c6, by rw [List.length_map], h61, h62⟩, .of h72 h71, .of h82 h81⟩
end Go.Proofs.Ytgkplhdcafbfbaa.P
namespace Go.Proofs.Ytgkplhdcafbfbaa.P
open Go.RowKit Go.Shelf Go.Proofs.YtgkplhdcafbfbaaW.PrintWords Go.Proofs.YtgkplhdcafbfbaaW.PrintLast Go.Proofs.YtgkplhdcafbfbaaW.PrintMore
def headE (h : Hi) : Int := if h.f0 < -4 ∨ h.f0 > 8 then 21 else if ¬ h.f1 < 9218868437227405312 then 11 else 0
theorem checkR_eq (h : Hi) : checkR h = if headE h ≠ 0 then headE h else if (sideRes h.f5 h.f7).2 ≠ 0 then (sideRes h.f5 h.f7).2 else if (sideRes h.f6 h.f8).2 ≠ 0 then (sideRes h.f6 h.f8).2 else if fits h.f2 h.f3 h.f4 (sideRes h.f5 h.f7).1 (sideRes h.f6 h.f8).1 = true then 0 else 22 := by
  unfold checkR openR openRes headE
  by_cases c1 : h.f0 < -4 ∨ h.f0 > 8
  · rw [if_pos c1, if_pos c1, if_pos (by omega)]
  rw [if_neg c1, if_neg c1]
  by_cases c2 : ¬ h.f1 < 9218868437227405312
  · rw [if_pos c2, if_pos c2, if_pos (by omega)]
  rw [if_neg c2, if_neg c2, if_neg (c := (0 : Int) ≠ 0) (by omega)]
  by_cases c3 : (sideRes h.f5 h.f7).2 ≠ 0
  · rw [if_pos c3, if_pos c3]
  rw [if_neg c3, if_neg c3]
  by_cases c4 : (sideRes h.f6 h.f8).2 ≠ 0
  · rw [if_pos c4, if_pos c4]
  rw [if_neg c4, if_neg c4]
  by_cases c5 : fits h.f2 h.f3 h.f4 (sideRes h.f5 h.f7).1 (sideRes h.f6 h.f8).1 = true
  · rw [if_pos c5, if_pos c5]
  · rw [if_neg c5, if_neg c5]
theorem openR_right {h : Hi} (hc : checkR h = 0) : openR h = ((sideRes h.f5 h.f7).1, (sideRes h.f6 h.f8).1, 0) := by
  unfold checkR openR openRes at *
  split at hc
  · cases hc
  split at hc
  · cases hc
  split at hc
  · rename_i h3; exact absurd hc h3
  split at hc
  · rename_i h3; exact absurd hc h3
  split at hc
  · rename_i h1 h2 h3 h4 h5; rw [if_neg h1, if_neg h2, if_neg h3, if_neg h4, if_pos h5]
  · cases hc
end Go.Proofs.Ytgkplhdcafbfbaa.P
namespace Go.Proofs.Ytgkplhdcafbfbaa.P
open Go.RowKit Go.Proofs.YtgkplhdcafbfbaaW.PrintWords Go.Proofs.YtgkplhdcafbfbaaW.PrintLast Go.Proofs.YtgkplhdcafbfbaaW.PrintMore
theorem sums_diffs : ∀ (o : List Int) (a : Int) (l : List Int), (∀ x ∈ o, i64 x) → diffsFrom a o = some l → sumsFrom a l = some o
  | [], a, l, _, h => by cases h; rfl
  | x :: o, a, l, hw, h => by
    simp only [diffsFrom] at h
    split at h
    · rename_i hx
      cases hq : diffsFrom x o with
      | none => rw [hq] at h; simp at h
      | some l' =>
        rw [hq] at h; simp at h; subst h
        have ih := sums_diffs o x l' (fun y hy => hw y (List.mem_cons_of_mem _ hy)) hq
        have hx1 := hw x (List.mem_cons_self ..)
        have e : a + (x - a) = x := by omega
        simp only [sumsFrom]
        rw [e, if_pos hx1, ih]; rfl
    · cases h
theorem diffs_nonneg : ∀ (o : List Int) (a : Int), 0 ≤ a ∧ a ≤ 9223372036854775807 → (∀ x ∈ o, 0 ≤ x ∧ x ≤ 9223372036854775807) → ∃ d, diffsFrom a o = some d
  | [], a, _, _ => ⟨[], rfl⟩
  | x :: o, a, ha, h => by
    have hx := h x (List.mem_cons_self ..)
    obtain ⟨d, hd⟩ := diffs_nonneg o x hx (fun y hy => h y (List.mem_cons_of_mem _ hy))
    refine ⟨(x - a) :: d, ?_⟩
    simp only [diffsFrom]
    rw [if_pos (show i64 (x - a) from ⟨by omega, by omega⟩), hd]; rfl
theorem zip_self : ∀ (l : List Pr), List.zipWith (fun p x => (⟨p, x⟩ : Pr)) (l.map (·.f0)) (l.map (·.f1)) = l
  | [] => rfl
  | x :: l => by simp only [List.map_cons, List.zipWith_cons_cons, zip_self l]
theorem ups_rises : ∀ (l : List Pr) (e : Int), Ups (fun p : Pr => p.f0) l → (∀ p ∈ l, e ≤ p.f0 ∧ p.f0 ≤ 1048576) → rises e (l.map (·.f0)) = true
  | [], _, _, _ => rfl
  | x :: l, e, hu, h => by
    have hx := h x (List.mem_cons_self ..)
    simp only [List.map_cons, rises, Bool.and_eq_true, decide_eq_true_eq]
    exact ⟨hx, ups_rises l (x.f0 + 1) hu.tail (fun p hp => ⟨by have := hu.head p hp; omega, (h p (List.mem_cons_of_mem _ hp)).2⟩)⟩
theorem unzip_ok {l : List Pr} (hr : rises (-1048576) (l.map (·.f0)) = true) (hl : l.length ≤ 1024) : unzipRes l = (spansOf (l.map (·.f0)), l.map (·.f1), 0) := by
  have hs := spInv_take _ hr
  have h1 := hs.len
  rw [List.length_map] at h1
  have hf : fromRes (l.map (·.f0)) = (spansOf (l.map (·.f0)), 0) := by
    unfold fromRes
    rw [if_pos hr, if_neg (by rw [List.length_map]; omega), if_neg (by omega)]
  unfold unzipRes; rw [hf]; simp
theorem side_laid {l : List Pr} (hw : wfRow l) (hr : rises (-1048576) (l.map (·.f0)) = true) (hl : l.length ≤ 1024) {d : List Int} (hd : diffsFrom 0 (l.map (·.f1)) = some d) :
    sideRes (spansOf (l.map (·.f0))) d = if (l.map (·.f1)).any (fun x => decide (x < 0)) = true then ([], 22) else (l, 0) := by
  have hs := spInv_take _ hr
  have h1 := hs.len
  rw [List.length_map] at h1
  have hc := spansOf_check hr (by rw [List.length_map]; omega) (by omega)
  have hsum := sums_diffs _ _ _ (by intro x hx; obtain ⟨p, hp, rfl⟩ := List.mem_map.1 hx; exact (hw.1 p hp).2) hd
  have hdl := sumsFrom_length d 0 _ hsum
  have hcn := hs.cnt
  rw [List.length_map] at hdl hcn
  unfold sideRes
  rw [if_pos hc, if_pos (by omega), hsum]
  simp only
  rw [hs.pl, zip_self]
theorem any_neg {l : List Pr} (h : cnts l) : (l.map (·.f1)).any (fun x => decide (x < 0)) = false := by
  rw [List.any_eq_false]
  intro x hx
  obtain ⟨p, hp, rfl⟩ := List.mem_map.1 hx
  have := h p hp
  simp; omega
theorem lay_ok {l : List Pr} (h : RowOK l) (hb : ∀ p ∈ l, -1048576 ≤ p.f0 ∧ p.f0 ≤ 1048576) (hl : l.length ≤ 1024) : ∃ d, layR l = (spansOf (l.map (·.f0)), d, 0) ∧ sideRes (spansOf (l.map (·.f0))) d = (l, 0) ∧ canonB true (spansOf (l.map (·.f0))) = true ∧ spCheck (spansOf (l.map (·.f0))) = 0 ∧ d.length = l.length ∧ (spansOf (l.map (·.f0))).length ≤ l.length := by
  have hr := ups_rises l _ h.ups hb
  obtain ⟨d, hd⟩ := diffs_nonneg (l.map (·.f1)) 0 (by omega) (by intro x hx; obtain ⟨p, hp, rfl⟩ := List.mem_map.1 hx; exact (h.cnt p hp).2)
  have hs := spInv_take _ hr
  have h1 := hs.len
  rw [List.length_map] at h1
  have hdl : d.length = l.length := by
    have hsum := sums_diffs _ _ _ (by intro x hx; obtain ⟨p, hp, rfl⟩ := List.mem_map.1 hx; exact (h.wf.1 p hp).2) hd
    have := sumsFrom_length d 0 _ hsum
    rw [List.length_map] at this; omega
  refine ⟨d, ?_, ?_, hs.can, spansOf_check hr (by rw [List.length_map]; omega) (by omega), hdl, h1⟩
  · unfold layR
    rw [unzip_ok hr hl, hd]; simp
  · rw [side_laid h.wf hr hl hd, any_neg h.cnt]; simp
theorem some0_ok {l : List Pr} (h : RowOK l) : RowOK (some0 l) :=
  ⟨some0_wf h.wf, Nat.le_trans (List.length_filter_le _ _) h.len, fun p hp => h.cnt p (List.mem_filter.1 hp).1, h.ups.filter _⟩
theorem sumV_some0 : ∀ (l : List Pr), sumV (some0 l) = sumV l
  | [] => rfl
  | x :: l => by
    have ih := sumV_some0 l
    unfold some0 sumV at *
    rw [List.filter_cons]
    by_cases c : x.f1 = 0
    · simp only [c, beq_self_eq_true, Bool.not_true, Bool.false_eq_true, if_false, List.map_cons, List.sum_cons, Int.zero_add]; exact ih
    · have : (!(x.f1 == 0)) = true := by simp [c]
      rw [if_pos this]; simp only [List.map_cons, List.sum_cons, ih]
theorem fits_congr (zc ct sm : Int) {p p' n n' : List Pr} (h1 : sumV p' = sumV p) (h2 : sumV n' = sumV n) : fits zc ct sm p' n' = fits zc ct sm p n := by
  unfold fits totalRes sumR
  simp only [List.map_cons, List.map_nil, h1, h2]
theorem side_bounds {l : List Sp} {d : List Int} (h0 : (sideRes l d).2 = 0) : (∀ p ∈ (sideRes l d).1, -1048576 ≤ p.f0 ∧ p.f0 ≤ 1048576) ∧ (sideRes l d).1.length = d.length ∧ (sideRes l d).1.map (·.f0) = plN 0 l ∧ spCheck l = 0 := by
  unfold sideRes at h0 ⊢
  by_cases c1 : spCheck l = 0
  rotate_left
  · rw [if_neg c1] at h0; exact absurd h0 c1
  rw [if_pos c1] at h0 ⊢
  by_cases c2 : cntN l = d.length
  rotate_left
  · rw [if_neg c2] at h0; cases h0
  rw [if_pos c2] at h0 ⊢
  cases hs : sumsFrom 0 d with
  | none => rw [hs] at h0; cases h0
  | some c =>
    rw [hs] at h0
    simp only at h0 ⊢
    by_cases c3 : c.any (fun x => decide (x < 0)) = true
    · rw [if_pos c3] at h0; cases h0
    rw [if_neg c3]
    have hr := rises_of_right c1
    have hpl := plN_length l 0 (fun s hs => (spRight_pos l _ _ _ (spCheck_zero c1).2 s hs).1)
    have hc := sumsFrom_length d 0 c hs
    have hz := zipL (plN 0 l) c (by omega)
    refine ⟨fun y hy => ?_, by simp; omega, hz.1, c1⟩
    have : y.f0 ∈ plN 0 l := by
      obtain ⟨i, hi, rfl⟩ := List.mem_iff_getElem.1 hy
      simp only [List.getElem_zipWith]; exact List.getElem_mem _
    exact rises_i64 hr _ this
theorem checkR_zero {h : Hi} (hc : checkR h = 0) : headE h = 0 ∧ (sideRes h.f5 h.f7).2 = 0 ∧ (sideRes h.f6 h.f8).2 = 0 ∧ fits h.f2 h.f3 h.f4 (sideRes h.f5 h.f7).1 (sideRes h.f6 h.f8).1 = true := by
  rw [checkR_eq] at hc
  by_cases c1 : headE h = 0
  rotate_left
  · rw [if_pos c1] at hc; exact absurd hc c1
  rw [if_neg (by simp [c1])] at hc
  by_cases c2 : (sideRes h.f5 h.f7).2 = 0
  rotate_left
  · rw [if_pos c2] at hc; exact absurd hc c2
  rw [if_neg (by simp [c2])] at hc
  by_cases c3 : (sideRes h.f6 h.f8).2 = 0
  rotate_left
  · rw [if_pos c3] at hc; exact absurd hc c3
  rw [if_neg (by simp [c3])] at hc
  by_cases c4 : fits h.f2 h.f3 h.f4 (sideRes h.f5 h.f7).1 (sideRes h.f6 h.f8).1 = true
  · exact ⟨c1, c2, c3, c4⟩
  · rw [if_neg c4] at hc; cases hc
theorem checkR_right {h : Hi} (c1 : headE h = 0) (c2 : (sideRes h.f5 h.f7).2 = 0) (c3 : (sideRes h.f6 h.f8).2 = 0) (c4 : fits h.f2 h.f3 h.f4 (sideRes h.f5 h.f7).1 (sideRes h.f6 h.f8).1 = true) : checkR h = 0 := by
  rw [checkR_eq, if_neg (by simp [c1]), if_neg (by simp [c2]), if_neg (by simp [c3]), if_pos c4]
end Go.Proofs.Ytgkplhdcafbfbaa.P
namespace Go.Proofs.Ytgkplhdcafbfbaa.P
open Go.RowKit Go.Shelf Go.Proofs.YtgkplhdcafbfbaaW.PrintWords Go.Proofs.YtgkplhdcafbfbaaW.PrintLast Go.Proofs.YtgkplhdcafbfbaaW.PrintMore
theorem placeR_bound {i s B : Int} (hB : 0 ≤ B) (h0 : -B ≤ i) (h1 : i ≤ B) : -B ≤ placeR i s ∧ placeR i s ≤ B := by
  unfold placeR
  by_cases h : s < 0 ∨ s > 62
  · rw [if_pos h]; exact ⟨h0, h1⟩
  rw [if_neg h]
  have hD : (0 : Int) < 2 ^ s.toNat := Int.pow_pos (by decide)
  generalize (2 : Int) ^ s.toNat = D at *
  have e := Int.mul_ediv_add_emod (-i) D
  have m0 := Int.emod_nonneg (-i) (by omega : D ≠ 0)
  have m1 := Int.emod_lt_of_pos (-i) hD
  generalize (-i) / D = q at *
  have a1 : q ≤ B := by
    rcases Int.le_total q 0 with hq | hq
    · omega
    · have := Int.mul_le_mul_of_nonneg_right (a := 1) (b := D) (c := q) (by omega) hq
      omega
  have a2 : -B ≤ q := by
    rcases Int.le_total 0 (q + 1) with hq | hq
    · rcases Int.lt_or_le (q + 1) 1 with h2 | h2
      · obtain rfl : q = -1 := by omega
        rw [Int.mul_neg, Int.mul_one] at e
        omega
      · omega
    · have := Int.mul_le_mul_of_nonneg_right (a := 1) (b := D) (c := -(q + 1)) (by omega) (by omega)
      rw [Int.one_mul, Int.mul_neg, Int.mul_add, Int.mul_one] at this
      omega
  omega
theorem sumV_cons (p : Pr) (l : List Pr) : sumV (p :: l) = p.f1 + sumV l := by simp [sumV]
theorem widenGo_spec (s : Int) : ∀ (l : List Pr) (cur : Pr) (r : List Pr), widenGo s cur l = some r → (∀ p ∈ l, 0 ≤ p.f1 ∧ p.f1 ≤ 9223372036854775807) → 0 ≤ cur.f1 → cur.f1 ≤ 9223372036854775807 →
    r.length ≤ l.length + 1 ∧ sumV r = cur.f1 + sumV l ∧ (∀ p ∈ r, 0 ≤ p.f1 ∧ p.f1 ≤ 9223372036854775807) ∧ (∀ p ∈ r, p.f0 = cur.f0 ∨ ∃ q ∈ l, p.f0 = placeR q.f0 s) := by
  intro l
  induction l with
  | nil =>
    intro cur r h hn h0 h1
    cases h
    refine ⟨by simp, by simp [sumV], fun p hp => ?_, fun p hp => ?_⟩
    · obtain rfl : p = cur := by simpa using hp
      exact ⟨h0, h1⟩
    · obtain rfl : p = cur := by simpa using hp
      exact .inl rfl
  | cons p t ih =>
    intro cur r h hn h0 h1
    have hp := hn p (by simp)
    have hn' : ∀ q ∈ t, 0 ≤ q.f1 ∧ q.f1 ≤ 9223372036854775807 := fun q hq => hn q (List.mem_cons_of_mem _ hq)
    simp only [widenGo] at h
    split at h
    · rename_i he
      split at h
      · rename_i ho
        obtain ⟨a, b, c, d⟩ := ih _ _ h hn' (by show 0 ≤ cur.f1 + p.f1; omega) ho
        refine ⟨by simp; omega, by rw [b, sumV_cons]; simp only; omega, c, fun q hq => ?_⟩
        rcases d q hq with d | ⟨q', hq', d⟩
        · exact .inl d
        · exact .inr ⟨q', List.mem_cons_of_mem _ hq', d⟩
      · cases h
    · cases hr : widenGo s ⟨placeR p.f0 s, p.f1⟩ t with
      | none => rw [hr] at h; cases h
      | some r' =>
        rw [hr] at h
        cases h
        obtain ⟨a, b, c, d⟩ := ih _ _ hr hn' hp.1 hp.2
        refine ⟨by simp; omega, by rw [sumV_cons, b, sumV_cons], fun q hq => ?_, fun q hq => ?_⟩
        · rcases List.mem_cons.1 hq with rfl | hq
          · exact ⟨h0, h1⟩
          · exact c q hq
        · rcases List.mem_cons.1 hq with rfl | hq
          · exact .inl rfl
          · rcases d q hq with d | ⟨q', hq', d⟩
            · exact .inr ⟨p, by simp, d⟩
            · exact .inr ⟨q', List.mem_cons_of_mem _ hq', d⟩
theorem widenGo_ups (s : Int) : ∀ (l : List Pr) (cur : Pr) (r : List Pr), widenGo s cur l = some r → Ups (fun p : Pr => p.f0) l → (∀ q ∈ l, cur.f0 ≤ placeR q.f0 s) → (∀ p ∈ l, 0 ≤ p.f1 ∧ p.f1 ≤ 9223372036854775807) → 0 ≤ cur.f1 → cur.f1 ≤ 9223372036854775807 → Ups (fun p : Pr => p.f0) r := by
  intro l
  induction l with
  | nil => intro cur r h _ _ _ _ _; cases h; exact List.pairwise_cons.2 ⟨fun y hy => by simp at hy, List.Pairwise.nil⟩
  | cons p t ih =>
    intro cur r h hu hle hn h0 h1
    have hp := hn p (by simp)
    have hn' : ∀ q ∈ t, 0 ≤ q.f1 ∧ q.f1 ≤ 9223372036854775807 := fun q hq => hn q (List.mem_cons_of_mem _ hq)
    simp only [widenGo] at h
    split at h
    · rename_i he
      split at h
      · rename_i ho
        exact ih _ _ h hu.tail (fun q hq => hle q (List.mem_cons_of_mem _ hq)) hn' (by show 0 ≤ cur.f1 + p.f1; omega) ho
      · cases h
    · rename_i he
      cases hr : widenGo s ⟨placeR p.f0 s, p.f1⟩ t with
      | none => rw [hr] at h; cases h
      | some r' =>
        rw [hr] at h
        cases h
        have hm : ∀ q ∈ t, placeR p.f0 s ≤ placeR q.f0 s := fun q hq => place_mono (Int.le_of_lt (hu.head q hq))
        have := ih _ _ hr hu.tail hm hn' hp.1 hp.2
        refine List.pairwise_cons.2 ⟨fun y hy => ?_, this⟩
        have hlt : cur.f0 < placeR p.f0 s := by have := hle p (by simp); omega
        obtain ⟨_, _, _, d⟩ := widenGo_spec s _ _ _ hr hn' hp.1 hp.2
        rcases d y hy with d | ⟨q', hq', d⟩
        · show cur.f0 < y.f0; rw [d]; exact hlt
        · have := hm q' hq'
          show cur.f0 < y.f0; omega
theorem widenW_ok {s : Int} {l r : List Pr} (h : RowOK l) (hr : widenW s l = some r) : RowOK r ∧ r.length ≤ l.length ∧ sumV r = sumV l ∧ ∀ p ∈ r, ∃ q ∈ l, p.f0 = placeR q.f0 s := by
  have hc : ∀ q ∈ l, 0 ≤ q.f1 ∧ q.f1 ≤ 9223372036854775807 := fun q hq => (h.cnt q hq).2
  cases l with
  | nil => cases hr; exact ⟨RowOK.nil, by simp, rfl, fun p hp => by simp at hp⟩
  | cons p t =>
    have hp := hc p (by simp)
    have hn : ∀ q ∈ t, 0 ≤ q.f1 ∧ q.f1 ≤ 9223372036854775807 := fun q hq => hc q (List.mem_cons_of_mem _ hq)
    obtain ⟨a, b, c, d⟩ := widenGo_spec s t _ r hr hn hp.1 hp.2
    have hu := widenGo_ups s t _ r hr h.ups.tail (fun q hq => place_mono (Int.le_of_lt (h.ups.head q hq))) hn hp.1 hp.2
    have d' : ∀ q ∈ r, ∃ q' ∈ p :: t, q.f0 = placeR q'.f0 s := fun q hq => by
      rcases d q hq with d | ⟨q', hq', d⟩
      · exact ⟨p, by simp, d⟩
      · exact ⟨q', List.mem_cons_of_mem _ hq', d⟩
    have hl : r.length ≤ (p :: t).length := by simp; omega
    refine ⟨⟨⟨fun q hq => ⟨?_, ?_⟩, Nat.lt_of_le_of_lt hl h.wf.2⟩, Nat.le_trans hl h.len, fun q hq => ⟨?_, c q hq⟩, hu⟩, hl, by rw [b, sumV_cons], d'⟩
    · obtain ⟨q', hq', e⟩ := d' q hq
      rw [e]; exact placeR_i64 (h.wf.1 q' hq').1
    · have := c q hq
      unfold i64; omega
    · obtain ⟨q', hq', e⟩ := d' q hq
      rw [e]; exact placeR_i64 (h.wf.1 q' hq').1
def lowH (h : Hi) (tt : Int) : Hi := ⟨tt, h.f1, h.f2, h.f3, h.f4, h.f5, h.f6, h.f7, h.f8⟩
def scaleR (h : Hi) (tt : Int) : Hi × Int :=
  if checkR h ≠ 0 then (emptyH, checkR h) else if tt < -4 ∨ tt > h.f0 then (emptyH, 21)
  else match widenW (h.f0 - tt) (openR h).1, widenW (h.f0 - tt) (openR h).2.1 with
    | some p, some n => makeR (lowH h tt) (some0 p) (some0 n)
    | _, _ => (emptyH, 28)
theorem nn_row {l : List Pr} (h : RowOK l) : nnRow l := h.cnt
theorem widenR_len (s : Int) {l : List Pr} (h : RowOK l) : RowOK (widenR s l).1 ∧ (widenR s l).1.length ≤ l.length := by
  unfold widenR
  cases hr : widenW s l with
  | none => exact ⟨RowOK.nil, by simp⟩
  | some r => exact ⟨(widenW_ok h hr).1, (widenW_ok h hr).2.1⟩
theorem checkR_schema {h : Hi} (hc : checkR h = 0) : -4 ≤ h.f0 ∧ h.f0 ≤ 8 := by
  unfold checkR openR openRes at hc
  split at hc
  · cases hc
  · omega
end Go.Proofs.Ytgkplhdcafbfbaa.P
namespace Go.Proofs.Ytgkplhdcafbfbaa.P
open Go.RowKit Go.Shelf Go.Proofs.YtgkplhdcafbfbaaW.PrintWords Go.Proofs.YtgkplhdcafbfbaaW.PrintLast Go.Proofs.YtgkplhdcafbfbaaW.PrintMore
theorem blk_put_ne' {W : World} {g g' : Nat} {o : Obj} (h : W.heap[g]? = some o) (hne : g ≠ g') (j : Nat) (u : Value) : (W.setCell ⟨g', j, none⟩ u).heap[g]? = some o := (Below.heap_setCell W ⟨g', j, none⟩ u g hne).trans h
theorem Blk.lt1 {w : World} {g : Nat} {cs : Array Value} {t : TypeId} (h : Blk w g cs t) : g + 1 ≤ w.heap.size := blk_lt h
def FJ {α : Type} (d : Kd α) (base : Nat) (w : World) (v : Value) (l : List α) : Prop := FI d base w v l
theorem FJ.below {α : Type} {d : Kd α} {base : Nat} {w w' : World} {v : Value} {l : List α} (h : FJ d base w v l) (hb : Below w.heap.size w w') : FJ d base w' v l := FI.step h (KA.below hb)
theorem FJ.step {α : Type} {d : Kd α} {base : Nat} {w w' : World} {v : Value} {l : List α} (h : FJ d base w v l) (k : KA base w w') : FJ d base w' v l := FI.step h k
theorem FJ.now {α : Type} {d : Kd α} {base : Nat} {w : World} {v : Value} {l : List α} (h : FJ d base w v l) : SI d w v l := FI.now h
theorem widen_c (base : Nat) (s : Int) (l : List Pr) (hr : RowOK l) (w : World) (v : Value) (hv : SI kPr w v l) (hbase : base ≤ w.heap.size) : Calls Try.prog 41 #[v, .int .i64 s, .func (.func 42) #[] #[]] w fun e w' =>
    ∃ v0, e = .returned (.tuple #[v0, .bool (widenR s l).2]) ∧ FJ kPr base w' v0 (widenR s l).1 ∧ Below w.heap.size w w' := by
  obtain ⟨A, c, rfl, hc, hr'⟩ := hv
  have hl := hr.wf.2
  refine (scale_widen_int64.calls (2 * l.length + 5) A c l s (widenR s l).1 (widenR s l).2 w hr' hc (widen_f s l hl (nn_row hr) _ (by omega))).mono ?_
  rintro e w1 ⟨v0, rfl, h0, hb⟩
  exact ⟨v0, rfl, FI.of_R h0 hbase, hb⟩
set_option maxHeartbeats 16000000 in
set_option maxRecDepth 100000 in
theorem scaleI_c (h : Hi) (hw : wfH h) (tt : Int) (ht : i64 tt) (w : World) (v : Value) (hv : HI w v h) : Calls Try.prog 15 #[v, .int .i64 tt] w fun e w' =>
    ∃ v', e = .returned (.tuple #[v', .int .i64 (scaleR h tt).2]) ∧ HF w.heap.size w' v' (scaleR h tt).1 ∧ Below w.heap.size w w' := by
  have hu := Try.underlying30
  obtain ⟨A5, c5, A6, c6, A7, c7, A8, c8, e, s5, s6, s7, s8⟩ := hv.open_
  subst e
  have HV := Aside0.mk hv
  have p0 := pairs_c h hw 0
  have p1 := pairs_c h hw 1
  have rw0 := (openR_row hw).1
  have rw1 := (openR_row hw).2
  rw [show pairsR h 0 = ((openR h).1, checkR h) from by unfold pairsR; rw [if_pos rfl]; rfl] at p0
  rw [show pairsR h 1 = ((openR h).2.1, checkR h) from by unfold pairsR; rw [if_neg (by decide), if_pos rfl]; rfl] at p1
  unfold scaleR
  generalize hce : checkR h = ce at *
  by_cases c0 : ce = 0
  rotate_left
  · rw [if_pos c0]
    have c0a : (ce != 0) = true := bne_iff_ne.2 c0
    simp only at p0
    have P0 := Aside0.mk p0
    clear c0 hce p0 p1 rw0 rw1 hv hw
    have X := Aside0.mk ((Blk.new w #[.int .i64 h.f0, .int .u64 h.f1, .int .u64 h.f2, .int .u64 h.f3, .int .u64 h.f4, .slice A5 h.f5.length c5, .slice A6 h.f6.length c6, .slice A7 h.f7.length c7, .slice A8 h.f8.length c8] 30).alloc (.cells #[.int .i64 0, .int .u64 0, .int .u64 0, .int .u64 0, .int .u64 0, .slice none 0 0, .slice none 0 0, .slice none 0 0, .slice none 0 0] 30)); have hx := fun i => X.out.cell i; have zx := fun i => blk_frozen X.out i
    have Y := Aside0.mk (Blk.at1 (w := w) (.cells #[.int .i64 h.f0, .int .u64 h.f1, .int .u64 h.f2, .int .u64 h.f3, .int .u64 h.f4, .slice A5 h.f5.length c5, .slice A6 h.f6.length c6, .slice A7 h.f7.length c7, .slice A8 h.f8.length c8] 30) #[.int .i64 0, .int .u64 0, .int .u64 0, .int .u64 0, .int .u64 0, .slice none 0 0, .slice none 0 0, .slice none 0 0, .slice none 0 0] 30); have hy := fun i => Y.out.cell i; have zy := fun i => blk_frozen Y.out i
    have B := Aside0.mk (below_alloc (below_alloc (Below.refl w.heap.size w) (.cells #[.int .i64 h.f0, .int .u64 h.f1, .int .u64 h.f2, .int .u64 h.f3, .int .u64 h.f4, .slice A5 h.f5.length c5, .slice A6 h.f6.length c6, .slice A7 h.f7.length c7, .slice A8 h.f8.length c8] 30)) (.cells #[.int .i64 0, .int .u64 0, .int .u64 0, .int .u64 0, .int .u64 0, .slice none 0 0, .slice none 0 0, .slice none 0 0, .slice none 0 0] 30))
    replace HV := Aside0.mk ((HV.out.below (below_alloc (Below.refl _ _) (.cells #[.int .i64 h.f0, .int .u64 h.f1, .int .u64 h.f2, .int .u64 h.f3, .int .u64 h.f4, .slice A5 h.f5.length c5, .slice A6 h.f6.length c6, .slice A7 h.f7.length c7, .slice A8 h.f8.length c8] 30))).below (below_alloc (Below.refl _ _) (.cells #[.int .i64 0, .int .u64 0, .int .u64 0, .int .u64 0, .int .u64 0, .slice none 0 0, .slice none 0 0, .slice none 0 0, .slice none 0 0] 30)))
    go_enter Try.func15, Try.ntmps15
    go_wp2_with (first | (go_at_call 26; (with_reducible refine (P0.out _ _ HV.out).mono ?_); rintro e W1 ⟨v0, rfl, hs, hb⟩; replace B := Aside0.mk (below_then B.out B.out.size hb); replace HV := Aside0.mk (HV.out.below hb); replace X := Aside0.mk (X.out.below hb); replace hx := fun i => X.out.cell i; replace zx := fun i => blk_frozen X.out i; replace Y := Aside0.mk (Y.out.below hb); replace hy := fun i => Y.out.cell i; replace zy := fun i => blk_frozen Y.out i; have S0 := Aside0.mk hs; clear P0; clear hs hb))
    refine bodyPost_ret (results_ct rfl _ _ (w.heap.size + 1) 30 #[.int .i64 0, .int .u64 0, .int .u64 0, .int .u64 0, .int .u64 0, .slice none 0 0, .slice none 0 0, .slice none 0 0, .slice none 0 0] (0, 0) _ rfl (nine Y.out _ _ _ _ _ _ _ _ _) Try.underlying30 rfl (by kernel_rfl)) rfl ?_
    exact ⟨_, rfl, HF.empty _ _, nine_below B.out (by omega) _ _ _ _ _ _ _ _ _⟩
  rw [if_neg (by simp [c0])]
  have hs := checkR_schema (show checkR h = 0 by rw [hce]; exact c0)
  subst c0
  have sw : scale_wrong.f h.f0 tt = some (decide (tt < -4 ∨ tt > h.f0)) := by
    unfold scale_wrong.f
    by_cases c1 : tt < -4
    · rw [if_pos c1]; simp [c1]
    · rw [if_neg c1]; simp [c1]
  have wr : ∀ w : World, Calls Try.prog 40 #[.int .i64 h.f0, .int .i64 tt] w fun e w' => e = .returned (.bool (decide (tt < -4 ∨ tt > h.f0))) ∧ Below w.heap.size w w' := fun w => (scale_wrong.calls h.f0 tt _ w sw).mono fun e w1 h => ⟨h.1, h.2.below⟩
  have P0 := Aside0.mk p0
  have P1 := Aside0.mk p1
  clear hce p0 p1 hv
  by_cases c1 : tt < -4 ∨ tt > h.f0
  · rw [if_pos c1]
    rw [decide_eq_true c1] at wr
    have WR := Aside0.mk wr
    clear c1 wr sw hs hw rw0 rw1 ht
    have X := Aside0.mk ((Blk.new w #[.int .i64 h.f0, .int .u64 h.f1, .int .u64 h.f2, .int .u64 h.f3, .int .u64 h.f4, .slice A5 h.f5.length c5, .slice A6 h.f6.length c6, .slice A7 h.f7.length c7, .slice A8 h.f8.length c8] 30).alloc (.cells #[.int .i64 0, .int .u64 0, .int .u64 0, .int .u64 0, .int .u64 0, .slice none 0 0, .slice none 0 0, .slice none 0 0, .slice none 0 0] 30)); have hx := fun i => X.out.cell i; have zx := fun i => blk_frozen X.out i
    have Y := Aside0.mk (Blk.at1 (w := w) (.cells #[.int .i64 h.f0, .int .u64 h.f1, .int .u64 h.f2, .int .u64 h.f3, .int .u64 h.f4, .slice A5 h.f5.length c5, .slice A6 h.f6.length c6, .slice A7 h.f7.length c7, .slice A8 h.f8.length c8] 30) #[.int .i64 0, .int .u64 0, .int .u64 0, .int .u64 0, .int .u64 0, .slice none 0 0, .slice none 0 0, .slice none 0 0, .slice none 0 0] 30); have hy := fun i => Y.out.cell i; have zy := fun i => blk_frozen Y.out i
    have B := Aside0.mk (below_alloc (below_alloc (Below.refl w.heap.size w) (.cells #[.int .i64 h.f0, .int .u64 h.f1, .int .u64 h.f2, .int .u64 h.f3, .int .u64 h.f4, .slice A5 h.f5.length c5, .slice A6 h.f6.length c6, .slice A7 h.f7.length c7, .slice A8 h.f8.length c8] 30)) (.cells #[.int .i64 0, .int .u64 0, .int .u64 0, .int .u64 0, .int .u64 0, .slice none 0 0, .slice none 0 0, .slice none 0 0, .slice none 0 0] 30))
    replace HV := Aside0.mk ((HV.out.below (below_alloc (Below.refl _ _) (.cells #[.int .i64 h.f0, .int .u64 h.f1, .int .u64 h.f2, .int .u64 h.f3, .int .u64 h.f4, .slice A5 h.f5.length c5, .slice A6 h.f6.length c6, .slice A7 h.f7.length c7, .slice A8 h.f8.length c8] 30))).below (below_alloc (Below.refl _ _) (.cells #[.int .i64 0, .int .u64 0, .int .u64 0, .int .u64 0, .int .u64 0, .slice none 0 0, .slice none 0 0, .slice none 0 0, .slice none 0 0] 30)))
    go_enter Try.func15, Try.ntmps15
    go_wp2_with (first | (go_at_call 26; (with_reducible refine (P0.out _ _ HV.out).mono ?_); rintro e W1 ⟨v0, rfl, hs, hb⟩; replace B := Aside0.mk (below_then B.out B.out.size hb); replace HV := Aside0.mk (HV.out.below hb); replace X := Aside0.mk (X.out.below hb); replace hx := fun i => X.out.cell i; replace zx := fun i => blk_frozen X.out i; replace Y := Aside0.mk (Y.out.below hb); replace hy := fun i => Y.out.cell i; replace zy := fun i => blk_frozen Y.out i; have S0 := Aside0.mk hs; clear P0; clear hs hb) | (go_at_call 26; (with_reducible refine (P1.out _ _ HV.out).mono ?_); rintro e W2 ⟨v1, rfl, hs, hb⟩; replace B := Aside0.mk (below_then B.out B.out.size hb); replace HV := Aside0.mk (HV.out.below hb); replace S0 := Aside0.mk (S0.out.below hb); replace X := Aside0.mk (X.out.below hb); replace hx := fun i => X.out.cell i; replace zx := fun i => blk_frozen X.out i; replace Y := Aside0.mk (Y.out.below hb); replace hy := fun i => Y.out.cell i; replace zy := fun i => blk_frozen Y.out i; have S1 := Aside0.mk hs; clear P1; clear hs hb) | (go_at_call 40; (with_reducible refine (WR.out _).mono ?_); rintro e W3 ⟨rfl, hb⟩; replace B := Aside0.mk (below_then B.out B.out.size hb); replace HV := Aside0.mk (HV.out.below hb); replace S0 := Aside0.mk (S0.out.below hb); replace S1 := Aside0.mk (S1.out.below hb); replace X := Aside0.mk (X.out.below hb); replace hx := fun i => X.out.cell i; replace zx := fun i => blk_frozen X.out i; replace Y := Aside0.mk (Y.out.below hb); replace hy := fun i => Y.out.cell i; replace zy := fun i => blk_frozen Y.out i; clear  hb))
    refine bodyPost_ret (results_ct rfl _ _ (w.heap.size + 1) 30 #[.int .i64 0, .int .u64 0, .int .u64 0, .int .u64 0, .int .u64 0, .slice none 0 0, .slice none 0 0, .slice none 0 0, .slice none 0 0] (0, 0) _ rfl (nine Y.out _ _ _ _ _ _ _ _ _) Try.underlying30 rfl (by kernel_rfl)) rfl ?_
    exact ⟨_, rfl, HF.empty _ _, nine_below B.out (by omega) _ _ _ _ _ _ _ _ _⟩
  rw [if_neg c1]
  rw [decide_eq_false c1] at wr
  have WR := Aside0.mk wr
  obtain ⟨dd, hdd⟩ : ∃ dd, dd = h.f0 - tt := ⟨_, rfl⟩
  have hd : IntKind.i64.wrap (h.f0 - tt) = dd := by rw [i64_w, hdd]; exact wrap_id (by omega) (by omega)
  rw [← hdd]
  have hwl : wfH (lowH h tt) := by
    obtain ⟨_, w⟩ := hw
    exact ⟨ht, w⟩
  have q0 := widen_c (w.heap.size + 1 + 1) dd (openR h).1 rw0
  have q1 := widen_c (w.heap.size + 1 + 1) dd (openR h).2.1 rw1
  have ok0 := widenR_len dd rw0
  have ok1 := widenR_len dd rw1
  clear wr sw hs hw
  cases hA : widenW dd (openR h).1 with
  | none =>
    rw [show widenR dd (openR h).1 = ([], false) from by unfold widenR; rw [hA]] at q0
    generalize widenR dd (openR h).2.1 = b1 at q1
    simp only at q0 ⊢
    have Q0 := Aside0.mk q0
    have Q1 := Aside0.mk q1
    clear q0 q1 ok0 ok1 rw0 rw1 hwl ht c1 hdd hA
    have X := Aside0.mk ((Blk.new w #[.int .i64 h.f0, .int .u64 h.f1, .int .u64 h.f2, .int .u64 h.f3, .int .u64 h.f4, .slice A5 h.f5.length c5, .slice A6 h.f6.length c6, .slice A7 h.f7.length c7, .slice A8 h.f8.length c8] 30).alloc (.cells #[.int .i64 0, .int .u64 0, .int .u64 0, .int .u64 0, .int .u64 0, .slice none 0 0, .slice none 0 0, .slice none 0 0, .slice none 0 0] 30)); have hx := fun i => X.out.cell i; have zx := fun i => blk_frozen X.out i
    have Y := Aside0.mk (Blk.at1 (w := w) (.cells #[.int .i64 h.f0, .int .u64 h.f1, .int .u64 h.f2, .int .u64 h.f3, .int .u64 h.f4, .slice A5 h.f5.length c5, .slice A6 h.f6.length c6, .slice A7 h.f7.length c7, .slice A8 h.f8.length c8] 30) #[.int .i64 0, .int .u64 0, .int .u64 0, .int .u64 0, .int .u64 0, .slice none 0 0, .slice none 0 0, .slice none 0 0, .slice none 0 0] 30); have hy := fun i => Y.out.cell i; have zy := fun i => blk_frozen Y.out i
    have B := Aside0.mk (below_alloc (below_alloc (Below.refl w.heap.size w) (.cells #[.int .i64 h.f0, .int .u64 h.f1, .int .u64 h.f2, .int .u64 h.f3, .int .u64 h.f4, .slice A5 h.f5.length c5, .slice A6 h.f6.length c6, .slice A7 h.f7.length c7, .slice A8 h.f8.length c8] 30)) (.cells #[.int .i64 0, .int .u64 0, .int .u64 0, .int .u64 0, .int .u64 0, .slice none 0 0, .slice none 0 0, .slice none 0 0, .slice none 0 0] 30))
    replace HV := Aside0.mk ((HV.out.below (below_alloc (Below.refl _ _) (.cells #[.int .i64 h.f0, .int .u64 h.f1, .int .u64 h.f2, .int .u64 h.f3, .int .u64 h.f4, .slice A5 h.f5.length c5, .slice A6 h.f6.length c6, .slice A7 h.f7.length c7, .slice A8 h.f8.length c8] 30))).below (below_alloc (Below.refl _ _) (.cells #[.int .i64 0, .int .u64 0, .int .u64 0, .int .u64 0, .int .u64 0, .slice none 0 0, .slice none 0 0, .slice none 0 0, .slice none 0 0] 30)))
    go_enter Try.func15, Try.ntmps15
    go_wp2_with (first | (go_at_call 26; (with_reducible refine (P0.out _ _ HV.out).mono ?_); rintro e W1 ⟨v0, rfl, hs, hb⟩; replace B := Aside0.mk (below_then B.out B.out.size hb); replace HV := Aside0.mk (HV.out.below hb); replace X := Aside0.mk (X.out.below hb); replace hx := fun i => X.out.cell i; replace zx := fun i => blk_frozen X.out i; replace Y := Aside0.mk (Y.out.below hb); replace hy := fun i => Y.out.cell i; replace zy := fun i => blk_frozen Y.out i; have S0 := Aside0.mk hs; clear P0; clear hs hb) | (go_at_call 26; (with_reducible refine (P1.out _ _ HV.out).mono ?_); rintro e W2 ⟨v1, rfl, hs, hb⟩; replace B := Aside0.mk (below_then B.out B.out.size hb); replace HV := Aside0.mk (HV.out.below hb); replace S0 := Aside0.mk (S0.out.below hb); replace X := Aside0.mk (X.out.below hb); replace hx := fun i => X.out.cell i; replace zx := fun i => blk_frozen X.out i; replace Y := Aside0.mk (Y.out.below hb); replace hy := fun i => Y.out.cell i; replace zy := fun i => blk_frozen Y.out i; have S1 := Aside0.mk hs; clear P1; clear hs hb) | (go_at_call 40; (with_reducible refine (WR.out _).mono ?_); rintro e W3 ⟨rfl, hb⟩; replace B := Aside0.mk (below_then B.out B.out.size hb); replace HV := Aside0.mk (HV.out.below hb); replace S0 := Aside0.mk (S0.out.below hb); replace S1 := Aside0.mk (S1.out.below hb); replace X := Aside0.mk (X.out.below hb); replace hx := fun i => X.out.cell i; replace zx := fun i => blk_frozen X.out i; replace Y := Aside0.mk (Y.out.below hb); replace hy := fun i => Y.out.cell i; replace zy := fun i => blk_frozen Y.out i; clear  hb) | (go_at_call 41; (with_reducible refine (Q0.out _ _ S0.out Y.out.lt1).mono ?_); rintro e W4 ⟨u0, rfl, hs, hb⟩; replace B := Aside0.mk (below_then B.out B.out.size hb); replace HV := Aside0.mk (HV.out.below hb); replace S0 := Aside0.mk (S0.out.below hb); replace S1 := Aside0.mk (S1.out.below hb); replace X := Aside0.mk (X.out.below hb); replace hx := fun i => X.out.cell i; replace zx := fun i => blk_frozen X.out i; replace Y := Aside0.mk (Y.out.below hb); replace hy := fun i => Y.out.cell i; replace zy := fun i => blk_frozen Y.out i; have U0 := Aside0.mk hs; clear Q0; clear hs hb) | (go_at_call 41; (with_reducible refine (Q1.out _ _ S1.out Y.out.lt1).mono ?_); rintro e W5 ⟨u1, rfl, hs, hb⟩; replace B := Aside0.mk (below_then B.out B.out.size hb); replace HV := Aside0.mk (HV.out.below hb); replace S0 := Aside0.mk (S0.out.below hb); replace S1 := Aside0.mk (S1.out.below hb); replace U0 := Aside0.mk (U0.out.below hb); replace X := Aside0.mk (X.out.below hb); replace hx := fun i => X.out.cell i; replace zx := fun i => blk_frozen X.out i; replace Y := Aside0.mk (Y.out.below hb); replace hy := fun i => Y.out.cell i; replace zy := fun i => blk_frozen Y.out i; have U1 := Aside0.mk hs; clear Q1; clear hs hb))
    refine bodyPost_ret (results_ct rfl _ _ (w.heap.size + 1) 30 #[.int .i64 0, .int .u64 0, .int .u64 0, .int .u64 0, .int .u64 0, .slice none 0 0, .slice none 0 0, .slice none 0 0, .slice none 0 0] (0, 0) _ rfl (nine Y.out _ _ _ _ _ _ _ _ _) Try.underlying30 rfl (by kernel_rfl)) rfl ?_
    exact ⟨_, rfl, HF.empty _ _, nine_below B.out (by omega) _ _ _ _ _ _ _ _ _⟩
  | some p =>
  rw [show widenR dd (openR h).1 = (p, true) from by unfold widenR; rw [hA]] at q0 ok0
  cases hB : widenW dd (openR h).2.1 with
  | none =>
    rw [show widenR dd (openR h).2.1 = ([], false) from by unfold widenR; rw [hB]] at q1
    simp only at q0 q1 ⊢
    have Q0 := Aside0.mk q0
    have Q1 := Aside0.mk q1
    clear q0 q1 ok0 ok1 rw0 rw1 hwl ht c1 hdd hA hB
    have X := Aside0.mk ((Blk.new w #[.int .i64 h.f0, .int .u64 h.f1, .int .u64 h.f2, .int .u64 h.f3, .int .u64 h.f4, .slice A5 h.f5.length c5, .slice A6 h.f6.length c6, .slice A7 h.f7.length c7, .slice A8 h.f8.length c8] 30).alloc (.cells #[.int .i64 0, .int .u64 0, .int .u64 0, .int .u64 0, .int .u64 0, .slice none 0 0, .slice none 0 0, .slice none 0 0, .slice none 0 0] 30)); have hx := fun i => X.out.cell i; have zx := fun i => blk_frozen X.out i
    have Y := Aside0.mk (Blk.at1 (w := w) (.cells #[.int .i64 h.f0, .int .u64 h.f1, .int .u64 h.f2, .int .u64 h.f3, .int .u64 h.f4, .slice A5 h.f5.length c5, .slice A6 h.f6.length c6, .slice A7 h.f7.length c7, .slice A8 h.f8.length c8] 30) #[.int .i64 0, .int .u64 0, .int .u64 0, .int .u64 0, .int .u64 0, .slice none 0 0, .slice none 0 0, .slice none 0 0, .slice none 0 0] 30); have hy := fun i => Y.out.cell i; have zy := fun i => blk_frozen Y.out i
    have B := Aside0.mk (below_alloc (below_alloc (Below.refl w.heap.size w) (.cells #[.int .i64 h.f0, .int .u64 h.f1, .int .u64 h.f2, .int .u64 h.f3, .int .u64 h.f4, .slice A5 h.f5.length c5, .slice A6 h.f6.length c6, .slice A7 h.f7.length c7, .slice A8 h.f8.length c8] 30)) (.cells #[.int .i64 0, .int .u64 0, .int .u64 0, .int .u64 0, .int .u64 0, .slice none 0 0, .slice none 0 0, .slice none 0 0, .slice none 0 0] 30))
    replace HV := Aside0.mk ((HV.out.below (below_alloc (Below.refl _ _) (.cells #[.int .i64 h.f0, .int .u64 h.f1, .int .u64 h.f2, .int .u64 h.f3, .int .u64 h.f4, .slice A5 h.f5.length c5, .slice A6 h.f6.length c6, .slice A7 h.f7.length c7, .slice A8 h.f8.length c8] 30))).below (below_alloc (Below.refl _ _) (.cells #[.int .i64 0, .int .u64 0, .int .u64 0, .int .u64 0, .int .u64 0, .slice none 0 0, .slice none 0 0, .slice none 0 0, .slice none 0 0] 30)))
    go_enter Try.func15, Try.ntmps15
    go_wp2_with (first | (go_at_call 26; (with_reducible refine (P0.out _ _ HV.out).mono ?_); rintro e W1 ⟨v0, rfl, hs, hb⟩; replace B := Aside0.mk (below_then B.out B.out.size hb); replace HV := Aside0.mk (HV.out.below hb); replace X := Aside0.mk (X.out.below hb); replace hx := fun i => X.out.cell i; replace zx := fun i => blk_frozen X.out i; replace Y := Aside0.mk (Y.out.below hb); replace hy := fun i => Y.out.cell i; replace zy := fun i => blk_frozen Y.out i; have S0 := Aside0.mk hs; clear P0; clear hs hb) | (go_at_call 26; (with_reducible refine (P1.out _ _ HV.out).mono ?_); rintro e W2 ⟨v1, rfl, hs, hb⟩; replace B := Aside0.mk (below_then B.out B.out.size hb); replace HV := Aside0.mk (HV.out.below hb); replace S0 := Aside0.mk (S0.out.below hb); replace X := Aside0.mk (X.out.below hb); replace hx := fun i => X.out.cell i; replace zx := fun i => blk_frozen X.out i; replace Y := Aside0.mk (Y.out.below hb); replace hy := fun i => Y.out.cell i; replace zy := fun i => blk_frozen Y.out i; have S1 := Aside0.mk hs; clear P1; clear hs hb) | (go_at_call 40; (with_reducible refine (WR.out _).mono ?_); rintro e W3 ⟨rfl, hb⟩; replace B := Aside0.mk (below_then B.out B.out.size hb); replace HV := Aside0.mk (HV.out.below hb); replace S0 := Aside0.mk (S0.out.below hb); replace S1 := Aside0.mk (S1.out.below hb); replace X := Aside0.mk (X.out.below hb); replace hx := fun i => X.out.cell i; replace zx := fun i => blk_frozen X.out i; replace Y := Aside0.mk (Y.out.below hb); replace hy := fun i => Y.out.cell i; replace zy := fun i => blk_frozen Y.out i; clear  hb) | (go_at_call 41; (with_reducible refine (Q0.out _ _ S0.out Y.out.lt1).mono ?_); rintro e W4 ⟨u0, rfl, hs, hb⟩; replace B := Aside0.mk (below_then B.out B.out.size hb); replace HV := Aside0.mk (HV.out.below hb); replace S0 := Aside0.mk (S0.out.below hb); replace S1 := Aside0.mk (S1.out.below hb); replace X := Aside0.mk (X.out.below hb); replace hx := fun i => X.out.cell i; replace zx := fun i => blk_frozen X.out i; replace Y := Aside0.mk (Y.out.below hb); replace hy := fun i => Y.out.cell i; replace zy := fun i => blk_frozen Y.out i; have U0 := Aside0.mk hs; clear Q0; clear hs hb) | (go_at_call 41; (with_reducible refine (Q1.out _ _ S1.out Y.out.lt1).mono ?_); rintro e W5 ⟨u1, rfl, hs, hb⟩; replace B := Aside0.mk (below_then B.out B.out.size hb); replace HV := Aside0.mk (HV.out.below hb); replace S0 := Aside0.mk (S0.out.below hb); replace S1 := Aside0.mk (S1.out.below hb); replace U0 := Aside0.mk (U0.out.below hb); replace X := Aside0.mk (X.out.below hb); replace hx := fun i => X.out.cell i; replace zx := fun i => blk_frozen X.out i; replace Y := Aside0.mk (Y.out.below hb); replace hy := fun i => Y.out.cell i; replace zy := fun i => blk_frozen Y.out i; have U1 := Aside0.mk hs; clear Q1; clear hs hb))
    refine bodyPost_ret (results_ct rfl _ _ (w.heap.size + 1) 30 #[.int .i64 0, .int .u64 0, .int .u64 0, .int .u64 0, .int .u64 0, .slice none 0 0, .slice none 0 0, .slice none 0 0, .slice none 0 0] (0, 0) _ rfl (nine Y.out _ _ _ _ _ _ _ _ _) Try.underlying30 rfl (by kernel_rfl)) rfl ?_
    exact ⟨_, rfl, HF.empty _ _, nine_below B.out (by omega) _ _ _ _ _ _ _ _ _⟩
  | some n =>
  rw [show widenR dd (openR h).2.1 = (n, true) from by unfold widenR; rw [hB]] at q1 ok1
  simp only at q0 q1 ok0 ok1 ⊢
  have h1 := without_c p (by have := ok0.1.len; omega)
  have h2 := without_c n (by have := ok1.1.len; omega)
  have hm := fun w v vp vn => make_c (lowH h tt) hwl _ _ (some0_wf ok0.1.wf) (some0_wf ok1.1.wf) w v vp vn
  generalize makeR (lowH h tt) (some0 p) (some0 n) = mr at *
  obtain ⟨mh, me⟩ := mr
  simp only at hm ⊢
  have Q0 := Aside0.mk q0
  have Q1 := Aside0.mk q1
  have H1 := Aside0.mk h1
  have H2 := Aside0.mk h2
  have HM := Aside0.mk hm
  clear q0 q1 ok0 ok1 rw0 rw1 hwl ht c1 h1 h2 hm hdd hA hB
  have X := Aside0.mk ((Blk.new w #[.int .i64 h.f0, .int .u64 h.f1, .int .u64 h.f2, .int .u64 h.f3, .int .u64 h.f4, .slice A5 h.f5.length c5, .slice A6 h.f6.length c6, .slice A7 h.f7.length c7, .slice A8 h.f8.length c8] 30).alloc (.cells #[.int .i64 0, .int .u64 0, .int .u64 0, .int .u64 0, .int .u64 0, .slice none 0 0, .slice none 0 0, .slice none 0 0, .slice none 0 0] 30)); have hx := fun i => X.out.cell i; have zx := fun i => blk_frozen X.out i
  have Y := Aside0.mk (Blk.at1 (w := w) (.cells #[.int .i64 h.f0, .int .u64 h.f1, .int .u64 h.f2, .int .u64 h.f3, .int .u64 h.f4, .slice A5 h.f5.length c5, .slice A6 h.f6.length c6, .slice A7 h.f7.length c7, .slice A8 h.f8.length c8] 30) #[.int .i64 0, .int .u64 0, .int .u64 0, .int .u64 0, .int .u64 0, .slice none 0 0, .slice none 0 0, .slice none 0 0, .slice none 0 0] 30); have hy := fun i => Y.out.cell i; have zy := fun i => blk_frozen Y.out i
  have B := Aside0.mk (below_alloc (below_alloc (Below.refl w.heap.size w) (.cells #[.int .i64 h.f0, .int .u64 h.f1, .int .u64 h.f2, .int .u64 h.f3, .int .u64 h.f4, .slice A5 h.f5.length c5, .slice A6 h.f6.length c6, .slice A7 h.f7.length c7, .slice A8 h.f8.length c8] 30)) (.cells #[.int .i64 0, .int .u64 0, .int .u64 0, .int .u64 0, .int .u64 0, .slice none 0 0, .slice none 0 0, .slice none 0 0, .slice none 0 0] 30))
  replace HV := Aside0.mk ((HV.out.below (below_alloc (Below.refl _ _) (.cells #[.int .i64 h.f0, .int .u64 h.f1, .int .u64 h.f2, .int .u64 h.f3, .int .u64 h.f4, .slice A5 h.f5.length c5, .slice A6 h.f6.length c6, .slice A7 h.f7.length c7, .slice A8 h.f8.length c8] 30))).below (below_alloc (Below.refl _ _) (.cells #[.int .i64 0, .int .u64 0, .int .u64 0, .int .u64 0, .int .u64 0, .slice none 0 0, .slice none 0 0, .slice none 0 0, .slice none 0 0] 30)))
  go_enter Try.func15, Try.ntmps15
  go_upto_region 12 with (first | (go_at_call 26; (with_reducible refine (P0.out _ _ HV.out).mono ?_); rintro e W1 ⟨v0, rfl, hs, hb⟩; replace B := Aside0.mk (below_then B.out B.out.size hb); replace HV := Aside0.mk (HV.out.below hb); replace X := Aside0.mk (X.out.below hb); replace hx := fun i => X.out.cell i; replace zx := fun i => blk_frozen X.out i; replace Y := Aside0.mk (Y.out.below hb); replace hy := fun i => Y.out.cell i; replace zy := fun i => blk_frozen Y.out i; have S0 := Aside0.mk hs; clear P0; clear hs hb) | (go_at_call 26; (with_reducible refine (P1.out _ _ HV.out).mono ?_); rintro e W2 ⟨v1, rfl, hs, hb⟩; replace B := Aside0.mk (below_then B.out B.out.size hb); replace HV := Aside0.mk (HV.out.below hb); replace S0 := Aside0.mk (S0.out.below hb); replace X := Aside0.mk (X.out.below hb); replace hx := fun i => X.out.cell i; replace zx := fun i => blk_frozen X.out i; replace Y := Aside0.mk (Y.out.below hb); replace hy := fun i => Y.out.cell i; replace zy := fun i => blk_frozen Y.out i; have S1 := Aside0.mk hs; clear P1; clear hs hb) | (go_at_call 40; (with_reducible refine (WR.out _).mono ?_); rintro e W3 ⟨rfl, hb⟩; replace B := Aside0.mk (below_then B.out B.out.size hb); replace HV := Aside0.mk (HV.out.below hb); replace S0 := Aside0.mk (S0.out.below hb); replace S1 := Aside0.mk (S1.out.below hb); replace X := Aside0.mk (X.out.below hb); replace hx := fun i => X.out.cell i; replace zx := fun i => blk_frozen X.out i; replace Y := Aside0.mk (Y.out.below hb); replace hy := fun i => Y.out.cell i; replace zy := fun i => blk_frozen Y.out i; clear  hb) | (go_at_call 41; (with_reducible refine (Q0.out _ _ S0.out Y.out.lt1).mono ?_); rintro e W4 ⟨u0, rfl, hs, hb⟩; replace B := Aside0.mk (below_then B.out B.out.size hb); replace HV := Aside0.mk (HV.out.below hb); replace S0 := Aside0.mk (S0.out.below hb); replace S1 := Aside0.mk (S1.out.below hb); replace X := Aside0.mk (X.out.below hb); replace hx := fun i => X.out.cell i; replace zx := fun i => blk_frozen X.out i; replace Y := Aside0.mk (Y.out.below hb); replace hy := fun i => Y.out.cell i; replace zy := fun i => blk_frozen Y.out i; have U0 := Aside0.mk hs; clear Q0; clear hs hb) | (go_at_call 41; (with_reducible refine (Q1.out _ _ S1.out Y.out.lt1).mono ?_); rintro e W5 ⟨u1, rfl, hs, hb⟩; replace B := Aside0.mk (below_then B.out B.out.size hb); replace HV := Aside0.mk (HV.out.below hb); replace S0 := Aside0.mk (S0.out.below hb); replace S1 := Aside0.mk (S1.out.below hb); replace U0 := Aside0.mk (U0.out.below hb); replace X := Aside0.mk (X.out.below hb); replace hx := fun i => X.out.cell i; replace zx := fun i => blk_frozen X.out i; replace Y := Aside0.mk (Y.out.below hb); replace hy := fun i => Y.out.cell i; replace zy := fun i => blk_frozen Y.out i; have U1 := Aside0.mk hs; clear Q1; clear hs hb))
  have hW2 := blk_lt Y.out
  have HX0 := blk_put X.out 0 (.int .i64 tt) rfl
  have HY0 := blk_put_ne' Y.out (show w.heap.size + 1 ≠ w.heap.size by omega) 0 (.int .i64 tt)
  have HB0 := B.out.setCell (p := ⟨w.heap.size, 0, none⟩) (Nat.le_refl _) (.int .i64 tt)
  have HO0 := And.intro ((U0.out.step (KA.set _ (by omega : w.heap.size < w.heap.size + 1 + 1) (i := 0) (.int .i64 tt))).now) ((U1.out.step (KA.set _ (by omega : w.heap.size < w.heap.size + 1 + 1) (i := 0) (.int .i64 tt))).now)
  clear hx zx hy zy X Y B HV S0 S1 U0 U1
  generalize (World.setCell _ ⟨w.heap.size, 0, none⟩ (.int .i64 tt)) = w1 at *
  have HX1 := Aside0.mk HX0
  have HY1 := Aside0.mk HY0
  have HB := Aside0.mk HB0
  have HO := Aside0.mk HO0
  have HVL := Aside0.mk (show HI w1 (.agg #[.int .i64 tt, .int .u64 h.f1, .int .u64 h.f2, .int .u64 h.f3, .int .u64 h.f4, .slice A5 h.f5.length c5, .slice A6 h.f6.length c6, .slice A7 h.f7.length c7, .slice A8 h.f8.length c8]) (lowH h tt) from HI.mk (h := lowH h tt) (s5.below HB0) (s6.below HB0) (s7.below HB0) (s8.below HB0))
  clear HX0 HY0 HB0 HO0 s5 s6 s7 s8
  have hfx := fun i => blk_cell HX1.out i; have hzx := fun i => blk_frozen HX1.out i; have hfy := fun i => blk_cell HY1.out i; have hzy := fun i => blk_frozen HY1.out i
  go_region_with (first | (go_at_call 44; (with_reducible refine (H1.out _ u0 (HO.out.1.below (below_drew (Below.refl _ _)))).mono ?_); rintro e w2 ⟨vp, rfl, hs, hb⟩; have HS2 := Aside0.mk hs; have HB2 := Aside0.mk (below_then (below_drew (Below.refl w1.heap.size w1)) (Nat.le_refl _) hb); have hX2 := fun i => blk_cell (blk_below HX1.out HB2.out) i; have hY2 := fun i => blk_cell (blk_below HY1.out HB2.out) i; have hZ2 := fun i => blk_frozen (blk_below HY1.out HB2.out) i; clear hs hb) | (go_at_call 44; (with_reducible refine (H2.out _ u1 (HO.out.2.below (below_drew (Below.refl _ _)))).mono ?_); rintro e w3 ⟨vn, rfl, hs, hb⟩; have HS3 := Aside0.mk hs; have HB3 := Aside0.mk (below_then (below_drew (Below.refl w1.heap.size w1)) (Nat.le_refl _) hb); have hX3 := fun i => blk_cell (blk_below HX1.out HB3.out) i; have hY3 := fun i => blk_cell (blk_below HY1.out HB3.out) i; have hZ3 := fun i => blk_frozen (blk_below HY1.out HB3.out) i; clear hs hb) | (go_at_call 44; (with_reducible refine (H2.out w2 u1 (HO.out.2.below HB2.out)).mono ?_); rintro e w4 ⟨vn, rfl, hs, hb⟩; have HS4 := Aside0.mk (And.intro (HS2.out.below hb) hs); have HB4 := Aside0.mk (below_then HB2.out HB2.out.size hb); have hX4 := fun i => blk_cell (blk_below HX1.out HB4.out) i; have hY4 := fun i => blk_cell (blk_below HY1.out HB4.out) i; have hZ4 := fun i => blk_frozen (blk_below HY1.out HB4.out) i; clear hs hb) | (go_at_call 44; (with_reducible refine (H1.out w3 u0 (HO.out.1.below HB3.out)).mono ?_); rintro e w4 ⟨vp, rfl, hs, hb⟩; have HS4 := Aside0.mk (And.intro hs (HS3.out.below hb)); have HB4 := Aside0.mk (below_then HB3.out HB3.out.size hb); have hX4 := fun i => blk_cell (blk_below HX1.out HB4.out) i; have hY4 := fun i => blk_cell (blk_below HY1.out HB4.out) i; have hZ4 := fun i => blk_frozen (blk_below HY1.out HB4.out) i; clear hs hb) | (go_at_call 43; (with_reducible refine (HM.out w4 _ vp vn (HVL.out.below HB4.out) HS4.out.1 HS4.out.2).mono ?_); rintro e w5 ⟨v5, rfl, hs, hb⟩; have HB5 := Aside0.mk (below_then (below_then HB.out HB.out.size HB4.out) (below_then HB.out HB.out.size HB4.out).size hb); have HI5 := Aside0.mk hs; obtain ⟨D5, g5, D6, g6, D7, g7, D8, g8, e5⟩ := hs.open_; subst e5; have hX5 := fun i => blk_cell (blk_below (blk_below HX1.out HB4.out) hb) i; have HY5 := Aside0.mk (blk_below (blk_below HY1.out HB4.out) hb); have hY5 := fun i => blk_cell HY5.out i; have hZ5 := fun i => blk_frozen HY5.out i; clear hs hb))
  all_goals (go_wp2; have hsz := blk_lt HY1.out; have hsz4 := HB4.out.size; refine bodyPost_ret (results_ct rfl _ _ (w.heap.size + 1) 30 #[.int .i64 mh.f0, .int .u64 mh.f1, .int .u64 mh.f2, .int .u64 mh.f3, .int .u64 mh.f4, .slice D5 mh.f5.length g5, .slice D6 mh.f6.length g6, .slice D7 mh.f7.length g7, .slice D8 mh.f8.length g8] (0, 0) _ rfl (nine HY5.out _ _ _ _ _ _ _ _ _) Try.underlying30 rfl (by kernel_rfl)) rfl ?_; exact ⟨_, rfl, (HI5.out.step (nine_ka (KA.refl _ _) (by omega) _ _ _ _ _ _ _ _ _)).lower (by omega), nine_below HB5.out (by omega) _ _ _ _ _ _ _ _ _⟩)
end Go.Proofs.Ytgkplhdcafbfbaa.P
namespace Go.Proofs.Ytgkplhdcafbfbaa.P
open Go.RowKit Go.Shelf Go.Proofs.YtgkplhdcafbfbaaW.PrintWords Go.Proofs.YtgkplhdcafbfbaaW.PrintLast Go.Proofs.YtgkplhdcafbfbaaW.PrintMore
theorem refPlace_u (i s : Int) (hi : i64 i) (w : World) : Calls Try.prog 12 #[.int .i64 i, .int .i64 s] w fun e w' => e = .returned (.int .i64 (placeR i s)) ∧ Below w.heap.size w w' :=
  (tidepoleref25_Place.calls 66 i s _ w (refPlace_f 66 (Nat.le_refl _) i s hi)).mono fun e w1 h => ⟨h.1, h.2.below⟩
end Go.Proofs.Ytgkplhdcafbfbaa.P
namespace Go.Proofs.Ytgkplhdcafbfbaa.P
open Go.RowKit Go.Proofs.YtgkplhdcafbfbaaW.PrintWords Go.Proofs.YtgkplhdcafbfbaaW.PrintLast Go.Proofs.YtgkplhdcafbfbaaW.PrintMore
attribute [local go_sem] max2_int min2_int max_two min_two max_three min_three max_four min_four
def pairs_Pair_int64_110.l0 : Nat → List (S62) → Int → Int → Option ((List (S62)))
 | 0, _, _, _ => none
 | k + 1, x0, x2, x3 => if x2 < x3 then (if 0 ≤ x3 then (if x3 < (x0.length : Int) then (if 0 ≤ x2 then (if x2 < (x0.length : Int) then (pairs_Pair_int64_110.l0 k ((x0.set (x2 : Int).toNat (⟨(rd_T62 x0 x3).f0, (rd_T62 x0 x3).f1⟩ : S62)).set (x3 : Int).toNat (⟨(rd_T62 x0 x2).f0, (rd_T62 x0 x2).f1⟩ : S62)) (wrap64 (x2 + 1)) (wrap64 (x3 - 1))) else (none)) else (none)) else (none)) else (none)) else (some x0)
def pairs_Pair_int64_110.f (k : Nat) (l0 : List (S62)) : Option ((List (S62))) := pairs_Pair_int64_110.l0 k l0 0 (wrap64 ((l0.length : Int) - 1))
def pairs_Pair_int64_110.T3 : Bool × List (List Nat × List Nat) := (true, [([], []), ([], []), ([], []), ([], []), ([], []), ([], []), ([4, 5], [4, 5]), ([6], [6]), ([], []), ([], []), ([8, 9], [8, 9]), ([10], [10]), ([0, 1, 0, 1, 4, 5, 6, 7, 11], [0, 1]), ([12, 7, 0, 1, 4, 5, 6, 7, 11], [7, 12]), ([2, 3, 0, 1, 2, 3, 4, 5, 6, 7, 8, 9, 10, 11, 12, 13], [2, 3]), ([14, 11, 13, 0, 1, 2, 3, 4, 5, 6, 7, 8, 9, 10, 11, 12, 13], [11, 14])])
def pairs_Pair_int64_110.B3 : List Nat := [0, 0, 0, 0, 0, 0, 48, 112, 0, 0, 768, 1792, 4083, 8179, 16383, 32767]
theorem pairs_Pair_int64_110.tab3 : rtab .any (opsOf Try.f110 3) = pairs_Pair_int64_110.T3 := by kernel_rfl
theorem pairs_Pair_int64_110.bits3 : waitsOk pairs_Pair_int64_110.T3.2 pairs_Pair_int64_110.B3 = true := by kernel_rfl
set_option maxHeartbeats 8000000 in
set_option maxRecDepth 100000 in
theorem pairs_Pair_int64_110.calls (k : Nat) (P0_ : Nat → Prop) (u9000_ : Value) (l0 : List (S62)) (r : List (S62)) (w0 w : World) (hB : Below w0.heap.size w0 w) (ho0 : Kd.R k62 62 w w0.heap.size P0_ u9000_ l0) (h : pairs_Pair_int64_110.f k l0 = some r) :
  Calls Try.prog 110 #[u9000_] w fun e w' => e = .returned (.tuple #[]) ∧ Kd.R k62 62 w' w0.heap.size (fun k_ => (P0_ k_ ∨ w.heap.size ≤ k_)) u9000_ r ∧ Below w0.heap.size w0 w' ∧ Kept w w' (fun k_ => P0_ k_) := by
 have hu62 := Try.underlying62
 have HO0 := Aside0.mk (show Kd.R k62 62 w w0.heap.size (fun k_ => (P0_ k_ ∨ w.heap.size ≤ k_)) u9000_ l0 from Kd.R_mono ho0 (fun k_ hk => (.inl hk)))
 have HK := Aside0.mk (Kept.refl w (fun k_ => P0_ k_))
 have HW0 := Aside0.mk hB.size
 have HB := Aside0.mk hB
 clear hB
 have H : (pairs_Pair_int64_110.l0 k l0 0 (wrap64 ((l0.length : Int) - 1))) = some r := h
 clear h
 have H' := Aside0.mk H
 clear H
 obtain ⟨Ao2, co2, eo2⟩ := Kd.R_slice HO0.out
 subst eo2
 go_enter Try.func110, Try.ntmps110
 go_wp2
 go_loopg [2, 3] k (fun kq v2 v3 w' => ∃ (x0_1 : List (S62)) (x2_1 : Int) (x3_1 : Int), v2 = .int .i64 x2_1 ∧ v3 = .int .i64 x3_1 ∧ Aside0 (pairs_Pair_int64_110.l0 kq x0_1 x2_1 x3_1 = some r) ∧ Aside0 (kq ≤ k) ∧ Aside0 (Kd.R k62 62 w' w0.heap.size (fun k_ => (P0_ k_ ∨ w.heap.size ≤ k_)) (.slice Ao2 l0.length co2) x0_1) ∧ Aside0 (Kept w w' (fun k_ => P0_ k_)) ∧ Aside0 (Below w0.heap.size w0 w'))
 case atStart => exact ⟨(l0), (0), (wrap64 ((l0.length : Int) - 1)), (by first | rfl | (simp; done) | (simp [*]; done)), (by first | rfl | (simp; done) | (simp [*]; done)), H', ⟨Nat.le_refl _⟩, ⟨by (with_reducible repeat (first | apply Kd.R_alloc | apply Kd.R_drewN | apply Kd.R_drew)); exact HO0.out⟩, ⟨by repeat (first | (with_reducible first | exact HK.out | apply Kept.alloc | apply Kept.drewN | apply Kept.drew) | exact HK.out)⟩, ⟨by repeat (first | (with_reducible first | exact HB.out | apply below_alloc | apply pw_below_drewN | apply below_drew1) | exact HB.out)⟩⟩
 case round =>
  clear H'
  try clear c1
  try clear p2
  obtain ⟨x0_1, x2_1, x3_1, rfl, rfl, HA, HK1, HO_0, HK, HB⟩ := hrel
  have hl0_1 := (Kd.R_reads' HO_0.out).1
  rw [hl0_1] at HO_0
  (try simp only [hl0_1])
  cases gk with
  | zero => exact absurd HA.out (by simp [pairs_Pair_int64_110.l0])
  | succ k1 =>
   have H := HA.out
   clear HA
   simp only [pairs_Pair_int64_110.l0] at H
   by_cases c3 : x2_1 < x3_1
   ·rw [if_pos c3] at H
    have c3b0 : decide (x2_1 < x3_1) = true := decide_eq_true c3
    clear c3
    by_cases c4 : 0 ≤ x3_1
    ·rw [if_pos c4] at H
     have c4b0 : decide (0 ≤ x3_1) = true := decide_eq_true c4
     clear c4
     by_cases c5 : x3_1 < (x0_1.length : Int)
     ·rw [if_pos c5] at H
      have c5b0 : decide (x3_1 < (x0_1.length : Int)) = true := decide_eq_true c5
      clear c5
      by_cases c6 : 0 ≤ x2_1
      ·rw [if_pos c6] at H
       have c6b0 : decide (0 ≤ x2_1) = true := decide_eq_true c6
       clear c6
       by_cases c7 : x2_1 < (x0_1.length : Int)
       ·rw [if_pos c7] at H
        have c7b0 : decide (x2_1 < (x0_1.length : Int)) = true := decide_eq_true c7
        clear c7
        obtain ⟨y103, hy103⟩ : ∃ y_ : List (S62), y_ = (x0_1.set (x2_1 : Int).toNat (⟨(rd_T62 x0_1 x3_1).f0, (rd_T62 x0_1 x3_1).f1⟩ : S62)) := ⟨_, rfl⟩
        replace H : (pairs_Pair_int64_110.l0 k1 (y103.set (x3_1 : Int).toNat (⟨(rd_T62 x0_1 x2_1).f0, (rd_T62 x0_1 x2_1).f1⟩ : S62)) (wrap64 (x2_1 + 1)) (wrap64 (x3_1 - 1))) = some r := by first | (rw [hy103]; with_reducible exact H) | (have H2_ := (Option.bind_some _ _).symm.trans H; rw [hy103]; with_reducible exact H2_) | (have H2_ := (Option.bind_some _ _).symm.trans H; with_reducible exact H2_) | with_reducible exact H | (rw [hy103]; exact H) | exact H
        have Ny103 := Aside0.mk hy103
        clear hy103
        obtain ⟨y104, hy104⟩ : ∃ y_ : List (S62), y_ = (y103.set (x3_1 : Int).toNat (⟨(rd_T62 x0_1 x2_1).f0, (rd_T62 x0_1 x2_1).f1⟩ : S62)) := ⟨_, rfl⟩
        replace H : (pairs_Pair_int64_110.l0 k1 y104 (wrap64 (x2_1 + 1)) (wrap64 (x3_1 - 1))) = some r := by first | (rw [hy104]; with_reducible exact H) | (have H2_ := (Option.bind_some _ _).symm.trans H; rw [hy104]; with_reducible exact H2_) | (have H2_ := (Option.bind_some _ _).symm.trans H; with_reducible exact H2_) | with_reducible exact H | (rw [hy104]; exact H) | exact H
        have Ny104 := Aside0.mk hy104
        clear hy104
        have H' := Aside0.mk H
        clear H
        have hne1_ : ¬ (x2_1.toNat * 2 = x3_1.toNat * 2) := by have h1_ := of_decide_eq_true c3b0; have h2_ := of_decide_eq_true c6b0; omega
        have hne2_ : ¬ (x3_1.toNat * 2 = x2_1.toNat * 2) := by have h1_ := of_decide_eq_true c3b0; have h2_ := of_decide_eq_true c6b0; omega
        have hne3_ : ¬ (x3_1.toNat = x2_1.toNat) := by have h1_ := of_decide_eq_true c3b0; have h2_ := of_decide_eq_true c6b0; omega
        have hne4_ : ¬ (x2_1.toNat = x3_1.toNat) := by have h1_ := of_decide_eq_true c3b0; have h2_ := of_decide_eq_true c6b0; omega
        try go_wp2
        have n0_ := Aside0.mk (Kd.R_drew HO_0.out)
        have n1_ := Aside0.mk (Kept.drew HK.out)
        have n2_ := Aside0.mk (below_drew1 HB.out)
        clear HO_0
        clear HK
        clear HB
        have HO_0 := n0_
        have HK := n1_
        have HB := n2_
        clear n0_ n1_ n2_
        have p101 : 0 ≤ (x3_1 : Int) := of_decide_eq_true (by first | (with_reducible assumption) | assumption)
        have q101 : x3_1 < (x0_1.length : Int) := of_decide_eq_true (by first | (with_reducible assumption) | assumption)
        obtain ⟨ad101, e101, hx101_0, hx101_1⟩ := at_T62 (Kd.R_reads' HO_0.out).2.2 x3_1 p101 q101
        cases e101
        replace p101 := eq_true p101
        replace q101 := eq_true q101
        have p102 : 0 ≤ (x2_1 : Int) := of_decide_eq_true (by first | (with_reducible assumption) | assumption)
        have q102 : x2_1 < (x0_1.length : Int) := of_decide_eq_true (by first | (with_reducible assumption) | assumption)
        obtain ⟨ad102, e102, hx102_0, hx102_1⟩ := at_T62 (Kd.R_reads' HO_0.out).2.2 x2_1 p102 q102
        obtain rfl : ad101 = ad102 := (by injection e102)
        replace p102 := eq_true p102
        replace q102 := eq_true q102
        have p8 : 0 ≤ (x2_1 : Int) := of_decide_eq_true (by first | (with_reducible assumption) | assumption)
        have q8 : (x2_1 : Int) < ((x0_1.length : Int) : Int) := of_decide_eq_true (by first | (with_reducible assumption) | assumption)
        obtain ⟨go8, co8, eo8, gb8, gl8, cl8, HG8⟩ := Kd.R_form HO_0.out (by omega)
        (first | cases eo8 | (injection eo8 with ea_ en_ ec_; (first | subst ea_ | (injection ea_ with ea_; subst ea_)); subst ec_; clear en_))
        have GB8 := Aside0.mk gb8
        have GG8 := Aside0.mk HG8
        clear gb8 gl8 HG8
        have HMgo8 := Aside0.mk (show (P0_ go8 ∨ w.heap.size ≤ go8) from (HO_0.out.1 _ rfl))
        (first | simp only [add_plain] at hx101_0 | skip)
        (first | simp only [add_plain] at hx101_1 | skip)
        (first | simp only [add_plain] at hx102_0 | skip)
        (first | simp only [add_plain] at hx102_1 | skip)
        obtain ⟨ce8, hcl8, hM8, hcc8, hfr8⟩ := Kd.R_elem HO_0.out z62 (x2_1 : Int) p8 q8
        obtain rfl := k62_openM hM8
        have hx8_0 : World.cell? _ ⟨go8, (x2_1 : Int).toNat * 2, none⟩ = some (.int .i64 ((rd_T62 x0_1 x2_1).f0)) := hcc8 0 _ rfl
        have hx8_1 : World.cell? _ ⟨go8, (x2_1 : Int).toNat * 2 + 1, none⟩ = some (.int .i64 ((rd_T62 x0_1 x2_1).f1)) := hcc8 1 _ rfl
        have hf8_0 : World.frozen? _ ⟨go8, (x2_1 : Int).toNat * 2, none⟩ = false := hfr8 0
        have hf8_1 : World.frozen? _ ⟨go8, (x2_1 : Int).toNat * 2 + 1, none⟩ = false := hfr8 1
        clear hcl8 hcc8 hfr8 hM8
        replace p8 := eq_true p8
        replace q8 := eq_true q8
        obtain ⟨ce7_, -, -, -, hfr7_⟩ := Kd.R_elem HO_0.out z62 (x3_1 : Int) (of_decide_eq_true c4b0) (of_decide_eq_true c5b0)
        have hf7_0 : World.frozen? _ ⟨go8, (x3_1 : Int).toNat * 2, none⟩ = false := hfr7_ 0
        have hf7_1 : World.frozen? _ ⟨go8, (x3_1 : Int).toNat * 2 + 1, none⟩ = false := hfr7_ 1
        clear hfr7_
        obtain ⟨ce11, hcl11, hM11, hcc11, hfr11⟩ := Kd.R_elem HO_0.out z62 (x2_1 : Int) (of_decide_eq_true (by first | (with_reducible assumption) | assumption)) (by have h_ : (x2_1 : Int) < ((x0_1.length : Int) : Int) := of_decide_eq_true (by first | (with_reducible assumption) | assumption); first | exact h_ | (have e_ := (Kd.R_reads' HO_0.out).1; omega) | simpa using h_)
        obtain rfl := k62_openM hM11
        have HP11 := (Kd.R_seg HO_0.out (x2_1 : Int) (of_decide_eq_true (by first | (with_reducible assumption) | assumption)) (by have h_ : (x2_1 : Int) < ((x0_1.length : Int) : Int) := of_decide_eq_true (by first | (with_reducible assumption) | assumption); first | exact h_ | (have e_ := (Kd.R_reads' HO_0.out).1; omega) | simpa using h_) (seg := [.int .i64 ((rd_T62 x0_1 x3_1).f0), .int .i64 ((rd_T62 x0_1 x3_1).f1)]) (j := 0) hcl11 hcc11 (show 2 ≤ 2 from by decide) (x' := (⟨(rd_T62 x0_1 x3_1).f0, (rd_T62 x0_1 x3_1).f1⟩ : S62)) (k62_mkM _ _ _ (⟨(rd_T62 x0_1 x3_1).f0, (rd_T62 x0_1 x3_1).f1⟩ : S62) ) (fun _ hk => hk)).1
        rw [← Ny103.out] at HP11
        have HQ11 := Aside0.mk HP11
        clear hcl11 hcc11 hfr11 hM11 HP11
        have p9 : 0 ≤ (x3_1 : Int) := of_decide_eq_true (by first | (with_reducible assumption) | assumption)
        have q9 : (x3_1 : Int) < ((x0_1.length : Int) : Int) := of_decide_eq_true (by first | (with_reducible assumption) | assumption)
        obtain ⟨ce9, hcl9, hM9, hcc9, hfr9⟩ := Kd.R_elem HQ11.out z62 (x3_1 : Int) p9 q9
        obtain rfl := k62_openM hM9
        have hx9_0 : World.cell? _ ⟨go8, (x3_1 : Int).toNat * 2, none⟩ = some (.int .i64 ((rd_T62 y103 x3_1).f0)) := hcc9 0 _ rfl
        have hx9_1 : World.cell? _ ⟨go8, (x3_1 : Int).toNat * 2 + 1, none⟩ = some (.int .i64 ((rd_T62 y103 x3_1).f1)) := hcc9 1 _ rfl
        have hf9_0 : World.frozen? _ ⟨go8, (x3_1 : Int).toNat * 2, none⟩ = false := hfr9 0
        have hf9_1 : World.frozen? _ ⟨go8, (x3_1 : Int).toNat * 2 + 1, none⟩ = false := hfr9 1
        clear hcl9 hcc9 hfr9 hM9
        replace p9 := eq_true p9
        replace q9 := eq_true q9
        obtain ⟨ce12, hcl12, hM12, hcc12, hfr12⟩ := Kd.R_elem HQ11.out z62 (x3_1 : Int) (of_decide_eq_true (by first | (with_reducible assumption) | assumption)) (by have h_ : (x3_1 : Int) < ((x0_1.length : Int) : Int) := of_decide_eq_true (by first | (with_reducible assumption) | assumption); first | exact h_ | (have e_ := (Kd.R_reads' HO_0.out).1; omega) | simpa using h_)
        obtain rfl := k62_openM hM12
        have HP12 := (Kd.R_seg HQ11.out (x3_1 : Int) (of_decide_eq_true (by first | (with_reducible assumption) | assumption)) (by have h_ : (x3_1 : Int) < ((x0_1.length : Int) : Int) := of_decide_eq_true (by first | (with_reducible assumption) | assumption); first | exact h_ | (have e_ := (Kd.R_reads' HO_0.out).1; omega) | simpa using h_) (seg := [.int .i64 ((rd_T62 x0_1 x2_1).f0), .int .i64 ((rd_T62 x0_1 x2_1).f1)]) (j := 0) hcl12 hcc12 (show 2 ≤ 2 from by decide) (x' := (⟨(rd_T62 x0_1 x2_1).f0, (rd_T62 x0_1 x2_1).f1⟩ : S62)) (k62_mkM _ _ _ (⟨(rd_T62 x0_1 x2_1).f0, (rd_T62 x0_1 x2_1).f1⟩ : S62) ) (fun _ hk => hk)).1
        rw [← Ny104.out] at HP12
        have HQ12 := Aside0.mk HP12
        clear hcl12 hcc12 hfr12 hM12 HP12
        refine start_ (n := 16) (S := fun w' => w'.cell? ⟨go8, ((x3_1).toNat * 2), none⟩ = some (.int .i64 ((rd_T62 x0_1 x3_1).f0)) ∧ w'.cell? ⟨go8, ((x3_1).toNat * 2) + 1, none⟩ = some (.int .i64 ((rd_T62 x0_1 x3_1).f1)) ∧ w'.cell? ⟨go8, ((x2_1).toNat * 2), none⟩ = some (.int .i64 ((rd_T62 x0_1 x2_1).f0)) ∧ w'.cell? ⟨go8, ((x2_1).toNat * 2) + 1, none⟩ = some (.int .i64 ((rd_T62 x0_1 x2_1).f1))) (ds := [13, 15]) #[false, false, false, false, false, false, false, false, false, false, false, false, false, false, false, false] (by kernel_rfl) rfl rfl ⟨hx101_0, hx101_1, hx102_0, hx102_1⟩ (fun hHeld => ?_); refine with_tabW pairs_Pair_int64_110.tab3 pairs_Pair_int64_110.bits3 (fun HT_ HW_ => ?_)
        generalize wr.drew = w10 at HO_0 HK HB GG8 HQ11 HQ12 hf8_0 hf8_1 hf9_0 hf9_1 hf7_0 hf7_1 hx101_0 hx101_1 hx102_0 hx102_1 hx8_0 hx8_1 hx9_0 hx9_1 hHeld ⊢
        refine pure_ (i := 0) (N := some 14) (v := ?_) (a' := ?_) #[true, false, false, false, false, false, false, false, false, false, false, false, false, false, false, false] rfl rfl (any_of HT_.out (by kernel_rfl)) (fun _ _ _ h => h) (Or.inl ⟨by rfl, ?_⟩) ?_ ?_
        rotate_left
        ·intro w'
         go_simp
         with_reducible rfl
        rotate_left
        ·simp only [Act.put, List.setIfInBounds_toArray, List.set_cons_zero, List.set_cons_succ, i64_w, i32_w]
         rfl
        refine pure_ (i := 1) (N := some 15) (v := ?_) (a' := ?_) #[true, true, false, false, false, false, false, false, false, false, false, false, false, false, false, false] rfl rfl (any_of HT_.out (by kernel_rfl)) (fun _ _ _ h => h) (Or.inl ⟨by rfl, ?_⟩) ?_ ?_
        rotate_left
        ·intro w'
         go_simp
         with_reducible rfl
        rotate_left
        ·simp only [Act.put, List.setIfInBounds_toArray, List.set_cons_zero, List.set_cons_succ, i64_w, i32_w]
         rfl
        refine pure_ (i := 2) (N := some 16) (v := ?_) (a' := ?_) #[true, true, true, false, false, false, false, false, false, false, false, false, false, false, false, false] rfl rfl (any_of HT_.out (by kernel_rfl)) (fun _ _ _ h => h) (Or.inl ⟨by rfl, ?_⟩) ?_ ?_
        rotate_left
        ·intro w'
         go_simp
         with_reducible rfl
        rotate_left
        ·simp only [Act.put, List.setIfInBounds_toArray, List.set_cons_zero, List.set_cons_succ, i64_w, i32_w]
         rfl
        refine pure_ (i := 3) (N := some 17) (v := ?_) (a' := ?_) #[true, true, true, true, false, false, false, false, false, false, false, false, false, false, false, false] rfl rfl (any_of HT_.out (by kernel_rfl)) (fun _ _ _ h => h) (Or.inl ⟨by rfl, ?_⟩) ?_ ?_
        rotate_left
        ·intro w'
         go_simp
         with_reducible rfl
        rotate_left
        ·simp only [Act.put, List.setIfInBounds_toArray, List.set_cons_zero, List.set_cons_succ, i64_w, i32_w]
         rfl
        refine pure_ (i := 4) (N := some 18) (v := ?_) (a' := ?_) #[true, true, true, true, true, false, false, false, false, false, false, false, false, false, false, false] rfl rfl (any_of HT_.out (by kernel_rfl)) (fun _ _ _ h => h) (Or.inl ⟨by rfl, ?_⟩) ?_ ?_
        rotate_left
        ·intro w'
         go_simp
         with_reducible rfl
        rotate_left
        ·simp only [Act.put, List.setIfInBounds_toArray, List.set_cons_zero, List.set_cons_succ, i64_w, i32_w]
         rfl
        refine pure_ (i := 5) (N := some 19) (v := ?_) (a' := ?_) #[true, true, true, true, true, true, false, false, false, false, false, false, false, false, false, false] rfl rfl (any_of HT_.out (by kernel_rfl)) (fun _ _ _ h => h) (Or.inl ⟨by rfl, ?_⟩) ?_ ?_
        rotate_left
        ·intro w'
         go_simp
         with_reducible rfl
        rotate_left
        ·simp only [Act.put, List.setIfInBounds_toArray, List.set_cons_zero, List.set_cons_succ, i64_w, i32_w]
         rfl
        refine pure_ (i := 6) (N := some 20) (v := ?_) (a' := ?_) #[true, true, true, true, true, true, true, false, false, false, false, false, false, false, false, false] rfl rfl (any_of HT_.out (by kernel_rfl)) (fun _ _ _ h => h) (Or.inl ⟨by rfl, ?_⟩) ?_ ?_
        rotate_left
        ·intro w'
         go_simp
         with_reducible rfl
        rotate_left
        ·simp only [Act.put, List.setIfInBounds_toArray, List.set_cons_zero, List.set_cons_succ, i64_w, i32_w]
         rfl
        refine pure_ (i := 8) (N := some 22) (v := ?_) (a' := ?_) #[true, true, true, true, true, true, true, false, true, false, false, false, false, false, false, false] rfl rfl (any_of HT_.out (by kernel_rfl)) (fun _ _ _ h => h) (Or.inl ⟨by rfl, ?_⟩) ?_ ?_
        rotate_left
        ·intro w'
         go_simp
         with_reducible rfl
        rotate_left
        ·simp only [Act.put, List.setIfInBounds_toArray, List.set_cons_zero, List.set_cons_succ, i64_w, i32_w]
         rfl
        refine pure_ (i := 9) (N := some 23) (v := ?_) (a' := ?_) #[true, true, true, true, true, true, true, false, true, true, false, false, false, false, false, false] rfl rfl (any_of HT_.out (by kernel_rfl)) (fun _ _ _ h => h) (Or.inl ⟨by rfl, ?_⟩) ?_ ?_
        rotate_left
        ·intro w'
         go_simp
         with_reducible rfl
        rotate_left
        ·simp only [Act.put, List.setIfInBounds_toArray, List.set_cons_zero, List.set_cons_succ, i64_w, i32_w]
         rfl
        refine pure_ (i := 10) (N := some 24) (v := ?_) (a' := ?_) #[true, true, true, true, true, true, true, false, true, true, true, false, false, false, false, false] rfl rfl (any_of HT_.out (by kernel_rfl)) (fun _ _ _ h => h) (Or.inl ⟨by rfl, ?_⟩) ?_ ?_
        rotate_left
        ·intro w'
         go_simp
         with_reducible rfl
        rotate_left
        ·simp only [Act.put, List.setIfInBounds_toArray, List.set_cons_zero, List.set_cons_succ, i64_w, i32_w]
         rfl
        refine take_ (i := 7) (N := some 21) (v := ?_) (a' := ?_) #[true, true, true, true, true, true, true, true, true, true, true, false, false, false, false, false] rfl rfl (take_ofW HT_.out HW_.out (by kernel_rfl)) (fun _ _ _ h => h) (Or.inl ⟨by rfl, ?_⟩) hHeld ?_ ?_
        rotate_left
        ·rintro w' ⟨s0, s1, s2, s3⟩
         go_simp
         with_reducible rfl
        rotate_left
        ·simp only [Act.put, List.setIfInBounds_toArray, List.set_cons_zero, List.set_cons_succ, i64_w, i32_w]
         rfl
        refine take_ (i := 11) (N := some 25) (v := ?_) (a' := ?_) #[true, true, true, true, true, true, true, true, true, true, true, true, false, false, false, false] rfl rfl (take_ofW HT_.out HW_.out (by kernel_rfl)) (fun _ _ _ h => h) (Or.inl ⟨by rfl, ?_⟩) hHeld ?_ ?_
        rotate_left
        ·rintro w' ⟨s0, s1, s2, s3⟩
         go_simp
         with_reducible rfl
        rotate_left
        ·simp only [Act.put, List.setIfInBounds_toArray, List.set_cons_zero, List.set_cons_succ, i64_w, i32_w]
         rfl
        refine pure_ (i := 12) (N := some 26) (v := ?_) (a' := ?_) #[true, true, true, true, true, true, true, true, true, true, true, true, true, false, false, false] rfl rfl (any_of HT_.out (by kernel_rfl)) (fun _ _ _ h => h) (Or.inl ⟨by rfl, ?_⟩) ?_ ?_
        rotate_left
        ·intro w'
         go_simp
         with_reducible rfl
        rotate_left
        ·simp only [Act.put, List.setIfInBounds_toArray, List.set_cons_zero, List.set_cons_succ, i64_w, i32_w]
         rfl
        refine last_ (i := 13) (N := none) #[true, true, true, true, true, true, true, true, true, true, true, true, true, true, false, false] rfl rfl (one_of HT_.out (by kernel_rfl)) (by decide) (fun K hK => ?_)
        refine skip_ (w1 := ?_) (by rfl) rfl ?_ ?_
        rotate_left
        ·go_simp
         rfl
        refine hK.out _ _ ?_
        clear hK K
        refine pure_ (i := 14) (N := some 27) (v := ?_) (a' := ?_) #[true, true, true, true, true, true, true, true, true, true, true, true, true, true, true, false] rfl rfl (any_of HT_.out (by kernel_rfl)) (fun _ _ _ h => h) (Or.inl ⟨by rfl, ?_⟩) ?_ ?_
        rotate_left
        ·intro w'
         go_simp
         with_reducible rfl
        rotate_left
        ·simp only [Act.put, List.setIfInBounds_toArray, List.set_cons_zero, List.set_cons_succ, i64_w, i32_w]
         rfl
        refine last_ (i := 15) (N := none) #[true, true, true, true, true, true, true, true, true, true, true, true, true, true, true, true] rfl rfl (one_of HT_.out (by kernel_rfl)) (by decide) (fun K hK => ?_)
        refine skip_ (w1 := ?_) (by rfl) rfl ?_ ?_
        rotate_left
        ·go_simp
         rfl
        refine hK.out _ _ ?_
        clear hK K
        refine done_ (done_of HT_.out (by kernel_rfl)) ?_
        try go_wp2
        (try simp only [← hl0_1])
        go_roundg k1
        case measure => have := HK1.out; omega
        case rel => exact ⟨(y104), (wrap64 (x2_1 + 1)), (wrap64 (x3_1 - 1)), (by first | rfl | (simp; done) | (simp [*]; done)), (by first | rfl | (simp; done) | (simp [*]; done)), H', ⟨by have := HK1.out; omega⟩, ⟨by (try simp only [hl0_1]); (with_reducible repeat (first | apply Kd.R_alloc | apply Kd.R_drewN | apply Kd.R_drew)); exact HQ12.out⟩, ⟨by repeat (first | (with_reducible first | exact HK.out | apply Kept.alloc | apply Kept.drewN | apply Kept.drew | refine Kept.setCell ?_ HMgo8.out _ | refine Kept.setCell ?_ HMgo8.out _ | refine Kept.setCell ?_ HMgo8.out _ | refine Kept.setCell ?_ HMgo8.out _) | exact HK.out)⟩, ⟨by repeat (first | (with_reducible first | exact HB.out | apply below_alloc | apply pw_below_drewN | apply below_drew1 | refine below_set ?_ GB8.out | refine below_set ?_ GB8.out | refine below_set ?_ GB8.out | refine below_set ?_ GB8.out) | exact HB.out)⟩⟩
       ·rw [if_neg c7] at H
        exact absurd H (by simp)
      ·rw [if_neg c6] at H
       exact absurd H (by simp)
     ·rw [if_neg c5] at H
      exact absurd H (by simp)
    ·rw [if_neg c4] at H
     exact absurd H (by simp)
   ·rw [if_neg c3] at H
    have c3b0 : decide (x2_1 < x3_1) = false := decide_eq_false c3
    clear c3
    obtain rfl := Option.some.inj H
    go_wp2
    first | go_end0 | ((try simp only [Exit.inBlock, Exit.then]); refine bodyPost_ret (results_none rfl _ _ _) rfl ?_)
    exact ⟨by first | rfl | (simp [errW_none, errW_some] <;> rfl) | (simp [*, errW_none, errW_some] <;> rfl), (by first | exact (by (with_reducible repeat (first | apply Kd.R_alloc | apply Kd.R_drewN | apply Kd.R_drew)); exact HO_0.out) | (simp only [hl0_1]; exact (by (with_reducible repeat (first | apply Kd.R_alloc | apply Kd.R_drewN | apply Kd.R_drew)); exact HO_0.out))), by repeat (first | (with_reducible first | exact HB.out | apply below_alloc | apply pw_below_drewN | apply below_drew1) | exact HB.out), by repeat (first | (with_reducible first | exact HK.out | apply Kept.alloc | apply Kept.drewN | apply Kept.drew) | exact HK.out)⟩
end Go.Proofs.Ytgkplhdcafbfbaa.P
namespace Go.Proofs.Ytgkplhdcafbfbaa.P
open Go.RowKit Go.Shelf Go.Proofs.YtgkplhdcafbfbaaW.PrintWords Go.Proofs.YtgkplhdcafbfbaaW.PrintLast Go.Proofs.YtgkplhdcafbfbaaW.PrintMore
attribute [local go_sem] Oper.semAt_some
structure Bk where
  s : Int
  p : Int
  n : Int
  deriving DecidableEq
def encB (b : Bk) : Value := .agg #[.int .i64 b.s, .int .i64 b.p, .int .u64 b.n]
def segW (side : Int) (l : List Pr) : List Bk := (l.filter (fun q : Pr => decide (0 < q.f1))).map (fun q : Pr => ⟨side, q.f0, q.f1⟩)
theorem segW_snoc (side : Int) (l : List Pr) (q : Pr) : segW side (l ++ [q]) = segW side l ++ (if 0 < q.f1 then [⟨side, q.f0, q.f1⟩] else []) := by
  unfold segW
  rw [List.filter_append, List.map_append]
  by_cases h : 0 < q.f1
  · rw [if_pos h, List.filter_cons, if_pos (by simpa using h)]; rfl
  · rw [if_neg h, List.filter_cons, if_neg (by simpa using h)]; rfl
def toldW (h : Hi) : List Bk := if checkR h = 0 then segW 1 (openR h).2.1.reverse ++ ((if h.f2 = 0 then [] else [⟨2, 0, h.f2⟩]) ++ segW 0 (openR h).1) else []
def KeepC (n0 : Nat) (A B : World) : Prop := A.heap.size ≤ B.heap.size ∧ ∀ q cs t fr, n0 ≤ q → A.heap[q]? = some (.cells cs t fr) → B.heap[q]? = some (.cells cs t fr)
theorem KeepC.refl (n0 : Nat) (A : World) : KeepC n0 A A := ⟨Nat.le_refl _, fun _ _ _ _ _ h => h⟩
theorem KeepC.trans {n0 : Nat} {A B C : World} (h : KeepC n0 A B) (k : KeepC n0 B C) : KeepC n0 A C := ⟨Nat.le_trans h.1 k.1, fun q cs t fr h0 h1 => k.2 q cs t fr h0 (h.2 q cs t fr h0 h1)⟩
theorem KeepC.of_below {n0 : Nat} {A B : World} (h : Below A.heap.size A B) : KeepC n0 A B := ⟨h.size, fun q cs t fr _ h1 => (h.block q (Array.getElem?_eq_some_iff.1 h1).1).trans h1⟩
theorem KeepC.put {n0 : Nat} (W : World) (l : Nat) (o o' : Obj) (h : W.heap[l]? = some o) (hc : o.isCells = false) : KeepC n0 W (W.putObj l o') := by
  have hg := grownBy_putObj' W l o'
  refine ⟨hg.size, fun k cs t fr h0 h1 => (hg.block k ((Array.getElem?_eq_some_iff.1 h1).1) (fun e => ?_)).trans h1⟩
  injection e with e
  subst e
  rw [h] at h1
  injection h1 with h1
  subst h1
  cases hc
theorem KeepC.setCell {n0 g i : Nat} (W : World) (hg : g < n0) (u : Value) : KeepC n0 W (W.setCell ⟨g, i, none⟩ u) :=
  ⟨by simp [World.setCell], fun q cs t fr h0 h1 => (Below.heap_setCell W ⟨g, i, none⟩ u q (by show q ≠ g; omega)).trans h1⟩
theorem KeepC.blk {n0 : Nat} {A B : World} (k : KeepC n0 A B) {g : Nat} {cs : Array Value} {t : TypeId} (hg : n0 ≤ g) (h : Blk A g cs t) : Blk B g cs t := k.2 g cs t (0, 0) hg h
def RowW (n0 : Nat) (W : World) (v : Value) (l : List Pr) : Prop := Kd.R kPr 62 W n0 (fun _ => True) v l
theorem RowW.keep {n0 : Nat} {A B : World} {v : Value} {l : List Pr} (h : RowW n0 A v l) (k : KeepC n0 A B) : RowW n0 B v l := by
  have hs : Kd.R kPr 62 A n0 (fun q => v.ownBlock = some q) v l := ⟨fun q hq => hq, h.2.imp_ (fun x cs hx => by rw [k62_openM hx]; exact k62_mkM _ _ _ x)⟩
  refine Kd.R_mono (Kd.R_step hs (fun q hq hlt => ?_)) (fun _ _ => trivial)
  obtain ⟨cells, hc⟩ := Kd.R_typed h q hq
  exact (k.2 q cells 62 (0, 0) (Kd.R_base h q hq) hc).trans hc.symm
theorem yield_wide {m m' : Nat} {P : Program} {l : Nat} {args : Array Value} {W : World} {R : Ending → World → Prop} (h : YieldAt Fence.wide m P l args W R) : YieldAt Fence.wide m' P l args W R := by
  obtain ⟨fn, t, a, b, h1, h2, h3⟩ := h
  exact ⟨fn, t, a, b, h1, h2, fun c cs _ => h3 c cs (room_wide _)⟩
set_option maxRecDepth 100000 in
set_option maxHeartbeats 4000000 in
theorem tell_in (n : Nat) (hn : 1 ≤ n) (L n0 b5 : Nat) (T : List Bk) (side : Int) (v : Value) (l : List Pr) (i0 : Nat) (J Jx : Nat → World → Prop)
    (hT : ∀ j, j < (segW side l).length → T[i0 + j]? = (segW side l)[j]?) (hw : ∀ q ∈ l, i64 q.f1)
    (hJ : ∀ i W W', J i W → W.grownBy W' none → J i W')
    (hY : ∀ i W, J i W → ∀ x, T[i]? = some x → YieldAt Fence.wide (n - 1) Try.prog L #[encB x] W fun e W' =>
      (e = .returned (.bool true) ∧ J (i + 1) W' ∧ KeepC n0 W W') ∨ (e = .returned (.bool false) ∧ Jx (i + 1) W'))
    (W : World) (hb : Blk W b5 #[.func (.yield L) #[] #[]] 180) (h5 : n0 ≤ b5) (hR : RowW n0 W v l) (h0 : J i0 W) :
    CallsIn Fence.wide n Try.prog 112 #[.int .i64 side, v, .pointer (some ⟨b5, 0, none⟩)] W fun e W' =>
      (e = .returned (.bool true) ∧ J (i0 + (segW side l).length) W' ∧ KeepC n0 W W') ∨ (e = .returned (.bool false) ∧ ∃ i, Jx i W') := by
  have hu := Try.underlying62
  obtain ⟨A, c, rfl, hlc, hC⟩ := Kd.R_reads hR
  have hm : l.length ≤ 9223372036854775807 := hC.2.1
  have HT := Aside0.mk hT
  have HW := Aside0.mk hw
  have HJ := Aside0.mk hJ
  have HY := Aside0.mk hY
  have HR := Aside0.mk hR
  have HB := Aside0.mk hb
  have H0 := Aside0.mk h0
  clear hT hw hJ hY hR hb h0 hC
  refine callsIn_of_wp Try.func112 rfl trivial ?_ rfl
  simp only [Try.ntmps112, List.size_toArray, List.length_cons, List.length_nil, Nat.reduceAdd, Nat.reduceSub, Array.replicate_succ, Array.replicate_zero, List.push_toArray, List.append_toArray, List.nil_append, List.cons_append]
  gi_wp2
  gi_loopw [10] (fun s10 wr => ∃ kk : Nat, kk ≤ l.length ∧ s10 = .int .i64 kk ∧ Aside0 (KeepC n0 W wr) ∧ Aside0 (J (i0 + (segW side (l.take kk)).length) wr)) (fun s10 _ => l.length - (intOf s10).toNat)
  case atStart => exact ⟨0, Nat.zero_le _, rfl, ⟨KeepC.refl _ _⟩, ⟨by simpa [segW] using H0.out⟩⟩
  case round =>
    obtain ⟨kk, hkk, rfl, HK, HJ0⟩ := hrel
    clear H0
    by_cases hlt : kk < l.length
    · have hlti : (kk : Int) < (l.length : Int) := by omega
      have HRW := Aside0.mk (HR.out.keep HK.out)
      have hC := (Kd.R_reads' HRW.out).2.2
      obtain ⟨ad, e1, hx0, hx1⟩ := at_T62 hC kk (by omega) (by omega)
      cases e1
      clear hC
      have hrd : rd_T62 l (kk : Int) = l[kk] := rdPr_at hlt
      rw [hrd, Int.toNat_natCast] at hx0 hx1
      have htk := segW_snoc side (l.take kk) l[kk]
      rw [← List.take_succ_eq_append_getElem hlt] at htk
      have hy64 := HW.out l[kk] (List.getElem_mem hlt)
      -- the place of what is told next
      have hnx : 0 < l[kk].f1 → T[i0 + (segW side (l.take kk)).length]? = some ⟨side, l[kk].f0, l[kk].f1⟩ := fun hp => by
        have hd : segW side l = segW side (l.take (kk + 1)) ++ segW side (l.drop (kk + 1)) := by
          conv => lhs; rw [← List.take_append_drop (kk + 1) l]
          unfold segW; rw [List.filter_append, List.map_append]
        rw [htk, if_pos hp] at hd
        rw [HT.out _ (by rw [hd]; simp), hd]
        simp
      have HNX := Aside0.mk hnx
      have HTK := Aside0.mk htk
      generalize l[kk] = y at hx0 hx1 HTK HNX hrd hy64
      clear hrd hnx htk
      have HBW := Aside0.mk (HK.out.blk h5 HB.out)
      by_cases hp : 0 < y.f1
      · have hp' : decide (0 < y.f1) = true := decide_eq_true hp
        have hcv : IntKind.u64.wrap y.f1 = y.f1 := by
          have h_ : IntKind.u64.wrap y.f1 = y.f1 % 18446744073709551616 := rfl
          have h2_ := hy64.2
          rw [h_]; omega
        have HX := Aside0.mk (HNX.out hp)
        rw [if_pos hp] at HTK
        have HJ1 := Aside0.mk (HJ.out _ _ _ HJ0.out (grown_of_below (below_alloc (Below.refl _ wr) (.cells #[.int .i64 y.f0, .int .i64 y.f1] 62)) none))
        have HKA := Aside0.mk (HK.out.trans (KeepC.of_below (below_alloc (Below.refl _ wr) (.cells #[.int .i64 y.f0, .int .i64 y.f1] 62))))
        have hbx := (HBW.out.alloc (.cells #[.int .i64 y.f0, .int .i64 y.f1] 62)).cell 0
        obtain ⟨fn, tmps, assign, body, hy, hRd⟩ := HY.out _ _ HJ1.out _ HX.out
        unfold encB at hy
        have HRR := Aside0.mk hRd
        clear hRd HJ0 HX HNX hp
        gi_wp2
        refine HRR.out.mono ?_
        rintro e W3 (⟨rfl, hJ3, hk3⟩ | ⟨rfl, hJx3⟩)
        · have HJ3 := Aside0.mk hJ3
          have HK3 := Aside0.mk (HKA.out.trans hk3)
          clear hJ3 hk3
          gi_wp2
          go_roundw
          case rel => exact ⟨kk + 1, by omega, by go_num, HK3, ⟨by rw [HTK.out, List.length_append]; exact HJ3.out⟩⟩
          case measure => simp [intOf]; omega
        · have HX := Aside0.mk hJx3
          clear hJx3
          gi_wp2
          go_ret
          exact .inr ⟨rfl, _, HX.out⟩
      · have hp' : decide (0 < y.f1) = false := decide_eq_false hp
        rw [if_neg hp, List.append_nil] at HTK
        have HJ1 := Aside0.mk (HJ.out _ _ _ HJ0.out (grown_of_below (below_alloc (Below.refl _ wr) (.cells #[.int .i64 y.f0, .int .i64 y.f1] 62)) none))
        have HKA := Aside0.mk (HK.out.trans (KeepC.of_below (below_alloc (Below.refl _ wr) (.cells #[.int .i64 y.f0, .int .i64 y.f1] 62))))
        clear HJ0 HNX
        gi_wp2
        refine ⟨fun f h => (by cases h), ?_⟩
        gi_wp2
        go_roundw
        case rel => exact ⟨kk + 1, by omega, by go_num, HKA, ⟨by rw [HTK.out]; exact HJ1.out⟩⟩
        case measure => simp [intOf]; omega
    · have hlti : ¬ (kk : Int) < (l.length : Int) := by omega
      have hk : l.take kk = l := List.take_of_length_le (by omega)
      have HKK := Aside0.mk hk
      clear hk
      gi_wp2
      go_ret
      have hj := HJ0.out
      rw [HKK.out] at hj
      exact .inl ⟨rfl, hj, HK.out⟩
end Go.Proofs.Ytgkplhdcafbfbaa.P
namespace Go.Proofs.Ytgkplhdcafbfbaa.P
open Go.RowKit Go.Shelf Go.Proofs.YtgkplhdcafbfbaaW.PrintWords Go.Proofs.YtgkplhdcafbfbaaW.PrintLast Go.Proofs.YtgkplhdcafbfbaaW.PrintMore
attribute [local go_sem] Oper.semAt_some
structure HoldsW (n0 bE bN bH bP : Nat) (h : Hi) (W : World) : Prop where
  ge : n0 ≤ bE ∧ n0 ≤ bN ∧ n0 ≤ bH ∧ n0 ≤ bP
  e : Blk W bE #[.int .i64 (checkR h)] 32
  n : ∃ v, Blk W bN #[v] 58 ∧ RowW n0 W v (openR h).2.1.reverse
  hh : ∃ v5 v6 v7 v8, Blk W bH #[.int .i64 h.f0, .int .u64 h.f1, .int .u64 h.f2, .int .u64 h.f3, .int .u64 h.f4, v5, v6, v7, v8] 30
  p : ∃ v, Blk W bP #[v] 58 ∧ RowW n0 W v (openR h).1
theorem HoldsW.keep {n0 bE bN bH bP : Nat} {h : Hi} {A B : World} (x : HoldsW n0 bE bN bH bP h A) (k : KeepC n0 A B) : HoldsW n0 bE bN bH bP h B := by
  obtain ⟨g, e, ⟨v, n1, n2⟩, ⟨v5, v6, v7, v8, hb⟩, ⟨u, p1, p2⟩⟩ := x
  exact ⟨g, k.blk g.1 e, ⟨v, k.blk g.2.1 n1, n2.keep k⟩, ⟨v5, v6, v7, v8, k.blk g.2.2.1 hb⟩, ⟨u, k.blk g.2.2.2 p1, p2.keep k⟩⟩
set_option maxRecDepth 100000 in
set_option maxHeartbeats 4000000 in
theorem walk1_in (n : Nat) (hn : 2 ≤ n) (L n0 bE bN bH bP : Nat) (h : Hi) (hwf : wfH h) (J Jx : Nat → World → Prop)
    (hJ : ∀ i W W', J i W → W.grownBy W' none → J i W')
    (hY : ∀ i W, J i W → ∀ x, (toldW h)[i]? = some x → YieldAt Fence.wide (n - 1) Try.prog L #[encB x] W fun e W' =>
      (e = .returned (.bool true) ∧ J (i + 1) W' ∧ KeepC n0 W W') ∨ (e = .returned (.bool false) ∧ Jx (i + 1) W'))
    (W : World) (hn0 : n0 ≤ W.heap.size) (hS : HoldsW n0 bE bN bH bP h W) (h0 : J 0 W) :
    CallsIn Fence.wide n Try.prog 111 #[.func (.yield L) #[] #[], .pointer (some ⟨bE, 0, none⟩), .pointer (some ⟨bN, 0, none⟩), .pointer (some ⟨bH, 0, none⟩), .pointer (some ⟨bP, 0, none⟩)] W fun e W' =>
      (∃ v, e = .returned v) ∧ (J (toldW h).length W' ∨ ∃ i, Jx i W') := by
  have hud := Try.underlying30
  have hbx := (Blk.new W #[.func (.yield L) #[] #[]] 180)
  have hal := below_alloc (Below.refl W.heap.size W) (.cells #[.func (.yield L) #[] #[]] 180)
  have HS := Aside0.mk (hS.keep (KeepC.of_below hal))
  have H0 := Aside0.mk (hJ _ _ _ h0 (grown_of_below hal none))
  obtain ⟨-, hce, ⟨vN, hcn, hrn⟩, ⟨v5, v6, v7, v8, hch⟩, ⟨vP, hcp, hrp⟩⟩ := HS.out
  have HB5 := Aside0.mk hbx
  have HJ := Aside0.mk hJ
  have HY := Aside0.mk hY
  have HRN := Aside0.mk hrn
  have HRP := Aside0.mk hrp
  have hrow := openR_row hwf
  have ce0 := hce.cell 0
  have cn0 := hcn.cell 0
  have ch0 := fun i => hch.cell i
  have cp0 := hcp.cell 0
  clear hS h0 hJ hY hbx hal hce hcn hch hcp hrn hrp
  refine callsIn_of_wp Try.func111 rfl trivial ?_ rfl
  simp only [Try.ntmps111, List.size_toArray, List.length_cons, List.length_nil, Nat.reduceAdd, Nat.reduceSub, Array.replicate_succ, Array.replicate_zero, List.push_toArray, List.append_toArray, List.nil_append, List.cons_append]
  by_cases hc : checkR h = 0
  · have ht : toldW h = segW 1 (openR h).2.1.reverse ++ ((if h.f2 = 0 then [] else [⟨2, 0, h.f2⟩]) ++ segW 0 (openR h).1) := by unfold toldW; rw [if_pos hc]
    rw [hc] at ce0
    have hw1 : ∀ q ∈ (openR h).2.1.reverse, i64 q.f1 := fun q hq => by have := hrow.2.cnt q (List.mem_reverse.1 hq); exact ⟨by omega, by omega⟩
    have hw0 : ∀ q ∈ (openR h).1, i64 q.f1 := fun q hq => by have := hrow.1.cnt q hq; exact ⟨by omega, by omega⟩
    generalize hrn_ : (openR h).2.1.reverse = rn at *
    generalize hrp_ : (openR h).1 = rp at *
    have HRPE := Aside0.mk hrp_
    clear hrn_ hrp_
    have t1 : ∀ j, j < (segW 1 rn).length → (toldW h)[0 + j]? = (segW 1 rn)[j]? := fun j hj => by rw [ht, Nat.zero_add, List.getElem?_append_left hj]
    have tell1 := tell_in (n - 1) (by omega) L n0 W.heap.size (toldW h) 1 vN rn 0 J Jx t1 hw1 HJ.out (fun i W hi x hx => yield_wide (HY.out i W hi x hx)) _ HB5.out hn0 HRN.out H0.out
    have HT1 := Aside0.mk tell1
    have HTT := Aside0.mk ht
    clear tell1 t1 ht hw1 H0 HRN
    gi_wp2
    (repeat (with_reducible refine And.intro (by with_unfolding_all (first | exact trivial | exact (fun f h => (by cases h)) | exact (fun _ => (by omega)))) ?_))
    refine HT1.out.mono ?_
    rintro e W1_ (⟨rfl, hj, hk⟩ | ⟨rfl, i, hx⟩)
    rotate_left
    · have HX := Aside0.mk hx
      clear hx
      gi_wp2
      iterate 4 ((try (all_goals (first | (rename_i hu1_ hu2_ hu3_ hu4_ hu5_ hu6_ hu7_ hu8_ hu9_; (first | (injection hu1_ with hu1_; cases hu1_; done) | (injection hu2_ with hu2_; cases hu2_; done) | (injection hu3_ with hu3_; cases hu3_; done))) | skip))); (try (all_goals (try ((repeat (with_reducible refine And.intro (by with_unfolding_all (first | exact trivial | exact (fun f h => (by cases h)) | exact (fun _ => (by omega)))) ?_)); gi_wp2)))))
      all_goals (first | (refine bodyPost_ret (results_none rfl _ _ _) rfl ?_) | go_end0)
      all_goals exact ⟨⟨_, rfl⟩, .inr ⟨_, HX.out⟩⟩
    have HS1 := Aside0.mk (HS.out.keep hk)
    have HB1 := Aside0.mk (hk.blk hn0 HB5.out)
    have HJ1 := Aside0.mk hj
    obtain ⟨-, -, -, ⟨w5, w6, w7, w8, hch1⟩, ⟨vQ, hcp1, hrq1⟩⟩ := HS1.out
    rw [HRPE.out] at hrq1
    have HR1 := Aside0.mk hrq1
    have ch1 := fun i => hch1.cell i
    have cp1 := hcp1.cell 0
    have cb1 := HB1.out.cell 0
    clear hk hj hch1 hcp1 hrq1 ch0 cp0 cn0 ce0
    by_cases hz : h.f2 = 0
    · have hz' : (h.f2 == 0) = true := beq_iff_eq.2 hz
      have t0 : ∀ j, j < (segW 0 rp).length → (toldW h)[0 + (segW 1 rn).length + j]? = (segW 0 rp)[j]? := fun j hj => by rw [HTT.out, if_pos hz, Nat.zero_add, List.nil_append, List.getElem?_append_right (by omega)]; congr 1; omega
      have tell0 := tell_in (n - 1) (by omega) L n0 W.heap.size (toldW h) 0 vQ rp _ J Jx t0 hw0 HJ.out (fun i W hi x hx => yield_wide (HY.out i W hi x hx)) _ HB1.out hn0 HR1.out HJ1.out
      have HT0 := Aside0.mk tell0
      have HL := Aside0.mk (show (toldW h).length = 0 + (segW 1 rn).length + (segW 0 rp).length by rw [HTT.out, if_pos hz]; simp)
      clear tell0 t0 hw0 hz
      gi_wp2
      (repeat (with_reducible refine And.intro (by with_unfolding_all (first | exact trivial | exact (fun f h => (by cases h)) | exact (fun _ => (by omega)))) ?_))
      (try gi_wp2)
      (repeat (with_reducible refine And.intro (by with_unfolding_all (first | exact trivial | exact (fun f h => (by cases h)) | exact (fun _ => (by omega)))) ?_))
      refine HT0.out.mono ?_
      rintro e W2_ (⟨rfl, hj, hk⟩ | ⟨rfl, i, hx⟩)
      · have HX := Aside0.mk hj
        clear hj hk
        gi_wp2
        iterate 4 ((try (all_goals (first | (rename_i hu1_ hu2_ hu3_ hu4_ hu5_ hu6_ hu7_ hu8_ hu9_; (first | (injection hu1_ with hu1_; cases hu1_; done) | (injection hu2_ with hu2_; cases hu2_; done) | (injection hu3_ with hu3_; cases hu3_; done))) | skip))); (try (all_goals (try ((repeat (with_reducible refine And.intro (by with_unfolding_all (first | exact trivial | exact (fun f h => (by cases h)) | exact (fun _ => (by omega)))) ?_)); gi_wp2)))))
        all_goals (first | (refine bodyPost_ret (results_none rfl _ _ _) rfl ?_) | go_end0)
        all_goals exact ⟨⟨_, rfl⟩, .inl (by rw [HL.out]; exact HX.out)⟩
      · have HX := Aside0.mk hx
        clear hx
        gi_wp2
        iterate 4 ((try (all_goals (first | (rename_i hu1_ hu2_ hu3_ hu4_ hu5_ hu6_ hu7_ hu8_ hu9_; (first | (injection hu1_ with hu1_; cases hu1_; done) | (injection hu2_ with hu2_; cases hu2_; done) | (injection hu3_ with hu3_; cases hu3_; done))) | skip))); (try (all_goals (try ((repeat (with_reducible refine And.intro (by with_unfolding_all (first | exact trivial | exact (fun f h => (by cases h)) | exact (fun _ => (by omega)))) ?_)); gi_wp2)))))
        all_goals (first | (refine bodyPost_ret (results_none rfl _ _ _) rfl ?_) | go_end0)
        all_goals exact ⟨⟨_, rfl⟩, .inr ⟨_, HX.out⟩⟩
    · have hz' : (h.f2 == 0) = false := beq_eq_false_iff_ne.2 hz
      have hx2 : (toldW h)[0 + (segW 1 rn).length]? = some ⟨2, 0, h.f2⟩ := by rw [HTT.out, if_neg hz, Nat.zero_add, List.getElem?_append_right (by omega)]; simp
      obtain ⟨fn, tmps, assign, body, hy, hRd⟩ := HY.out _ _ HJ1.out _ hx2
      unfold encB at hy
      have HRR := Aside0.mk hRd
      have t0 : ∀ j, j < (segW 0 rp).length → (toldW h)[0 + (segW 1 rn).length + 1 + j]? = (segW 0 rp)[j]? := fun j hj => by
        rw [HTT.out, if_neg hz, Nat.zero_add, List.getElem?_append_right (by omega), List.getElem?_append_right (by simp; omega)]
        congr 1; simp; omega
      have HT0_ := Aside0.mk t0
      have HL := Aside0.mk (show (toldW h).length = 0 + (segW 1 rn).length + 1 + (segW 0 rp).length by rw [HTT.out, if_neg hz]; simp; omega)
      clear hRd t0 hx2 hz
      gi_wp2
      (repeat (with_reducible refine And.intro (by with_unfolding_all (first | exact trivial | exact (fun f h => (by cases h)) | exact (fun _ => (by omega)))) ?_))
      refine HRR.out.mono ?_
      rintro e W2_ (⟨rfl, hj, hk⟩ | ⟨rfl, hx⟩)
      rotate_left
      · have HX := Aside0.mk hx
        clear hx
        gi_wp2
        iterate 4 ((try (all_goals (first | (rename_i hu1_ hu2_ hu3_ hu4_ hu5_ hu6_ hu7_ hu8_ hu9_; (first | (injection hu1_ with hu1_; cases hu1_; done) | (injection hu2_ with hu2_; cases hu2_; done) | (injection hu3_ with hu3_; cases hu3_; done))) | skip))); (try (all_goals (try ((repeat (with_reducible refine And.intro (by with_unfolding_all (first | exact trivial | exact (fun f h => (by cases h)) | exact (fun _ => (by omega)))) ?_)); gi_wp2)))))
        all_goals (first | (refine bodyPost_ret (results_none rfl _ _ _) rfl ?_) | go_end0)
        all_goals exact ⟨⟨_, rfl⟩, .inr ⟨_, HX.out⟩⟩
      have HS2 := Aside0.mk (HS1.out.keep hk)
      have HB2 := Aside0.mk (hk.blk hn0 HB1.out)
      have HJ2 := Aside0.mk hj
      obtain ⟨-, -, -, -, ⟨vS, hcp2, hrq2⟩⟩ := HS2.out
      have cp2 := hcp2.cell 0
      rw [HRPE.out] at hrq2
      have HR2 := Aside0.mk hrq2
      have tell0 := tell_in (n - 1) (by omega) L n0 W.heap.size (toldW h) 0 vS rp _ J Jx HT0_.out hw0 HJ.out (fun i W hi x hx => yield_wide (HY.out i W hi x hx)) _ HB2.out hn0 HR2.out HJ2.out
      have HT0 := Aside0.mk tell0
      clear tell0 hw0 hk hj ch1 cp1 cb1 hcp2 hrq2
      gi_wp2
      (repeat (with_reducible refine And.intro (by with_unfolding_all (first | exact trivial | exact (fun f h => (by cases h)) | exact (fun _ => (by omega)))) ?_))
      (try gi_wp2)
      (repeat (with_reducible refine And.intro (by with_unfolding_all (first | exact trivial | exact (fun f h => (by cases h)) | exact (fun _ => (by omega)))) ?_))
      refine HT0.out.mono ?_
      rintro e W3_ (⟨rfl, hj, hk⟩ | ⟨rfl, i, hx⟩)
      · have HX := Aside0.mk hj
        clear hj hk
        gi_wp2
        iterate 4 ((try (all_goals (first | (rename_i hu1_ hu2_ hu3_ hu4_ hu5_ hu6_ hu7_ hu8_ hu9_; (first | (injection hu1_ with hu1_; cases hu1_; done) | (injection hu2_ with hu2_; cases hu2_; done) | (injection hu3_ with hu3_; cases hu3_; done))) | skip))); (try (all_goals (try ((repeat (with_reducible refine And.intro (by with_unfolding_all (first | exact trivial | exact (fun f h => (by cases h)) | exact (fun _ => (by omega)))) ?_)); gi_wp2)))))
        all_goals (first | (refine bodyPost_ret (results_none rfl _ _ _) rfl ?_) | go_end0)
        all_goals exact ⟨⟨_, rfl⟩, .inl (by rw [HL.out]; exact HX.out)⟩
      · have HX := Aside0.mk hx
        clear hx
        gi_wp2
        iterate 4 ((try (all_goals (first | (rename_i hu1_ hu2_ hu3_ hu4_ hu5_ hu6_ hu7_ hu8_ hu9_; (first | (injection hu1_ with hu1_; cases hu1_; done) | (injection hu2_ with hu2_; cases hu2_; done) | (injection hu3_ with hu3_; cases hu3_; done))) | skip))); (try (all_goals (try ((repeat (with_reducible refine And.intro (by with_unfolding_all (first | exact trivial | exact (fun f h => (by cases h)) | exact (fun _ => (by omega)))) ?_)); gi_wp2)))))
        all_goals (first | (refine bodyPost_ret (results_none rfl _ _ _) rfl ?_) | go_end0)
        all_goals exact ⟨⟨_, rfl⟩, .inr ⟨_, HX.out⟩⟩
  · have ht : toldW h = [] := by unfold toldW; rw [if_neg hc]
    have hc' : (checkR h != 0) = true := bne_iff_ne.2 hc
    generalize checkR h = r at *
    have HT := Aside0.mk ht
    clear ht hc
    gi_wp2
    iterate 4 ((try (all_goals (first | (rename_i hu1_ hu2_ hu3_ hu4_ hu5_ hu6_ hu7_ hu8_ hu9_; (first | (injection hu1_ with hu1_; cases hu1_; done) | (injection hu2_ with hu2_; cases hu2_; done) | (injection hu3_ with hu3_; cases hu3_; done))) | skip))); (try (all_goals (try ((repeat (with_reducible refine And.intro (by with_unfolding_all (first | exact trivial | exact (fun f h => (by cases h)) | exact (fun _ => (by omega)))) ?_)); gi_wp2)))))
    all_goals (first | (refine bodyPost_ret (results_none rfl _ _ _) rfl ?_) | go_end0)
    all_goals exact ⟨⟨_, rfl⟩, .inl (by rw [HT.out]; exact H0.out)⟩
end Go.Proofs.Ytgkplhdcafbfbaa.P
namespace Go.Proofs.Ytgkplhdcafbfbaa.P
open Go.RowKit Go.Shelf Go.Proofs.YtgkplhdcafbfbaaW.PrintWords Go.Proofs.YtgkplhdcafbfbaaW.PrintLast Go.Proofs.YtgkplhdcafbfbaaW.PrintMore
theorem reverse_loop (l : List Pr) (hm : l.length < 4611686018427387904) : ∀ (d k i : Nat) (X : List Pr), l.length - 2 * i ≤ d → d < k → X.length = l.length → 2 * i ≤ l.length + 1 →
    (∀ m (h : m < l.length) (hx : m < X.length), X[m] = if m < i ∨ l.length ≤ m + i then l[l.length - 1 - m] else l[m]) →
    pairs_Pair_int64_110.l0 k X (i : Int) ((l.length : Int) - 1 - (i : Int)) = some l.reverse := by
  intro d
  induction d with
  | zero =>
    intro k i X hd hk hl hi hX
    obtain ⟨k, rfl⟩ : ∃ m, k = m + 1 := ⟨k - 1, by omega⟩
    rw [pairs_Pair_int64_110.l0, if_neg (by omega)]
    congr 1
    refine List.ext_getElem (by simp [hl]) (fun m h1 h2 => ?_)
    rw [hX m (by omega) h1, List.getElem_reverse]
    by_cases c : m < i ∨ l.length ≤ m + i
    · rw [if_pos c]
    · rw [if_neg c]; congr 1; omega
  | succ d ih =>
    intro k i X hd hk hl hi hX
    obtain ⟨k, rfl⟩ : ∃ m, k = m + 1 := ⟨k - 1, by omega⟩
    by_cases c : (i : Int) < (l.length : Int) - 1 - (i : Int)
    · have h1 : l.length - 1 - i < X.length := by omega
      have h2 : i < X.length := by omega
      have e3 : ((l.length : Int) - 1 - (i : Int)) = ((l.length - 1 - i : Nat) : Int) := by omega
      rw [pairs_Pair_int64_110.l0, if_pos c, if_pos (by omega), if_pos (by omega), if_pos (by omega), if_pos (by omega), e3, rdPr_at h1, rdPr_at h2, Int.toNat_natCast, Int.toNat_natCast, wrap_succ (by omega), wrap_id (by omega) (by omega)]
      have e4 : (((l.length - 1 - i : Nat) : Int) - 1) = (l.length : Int) - 1 - ((i + 1 : Nat) : Int) := by omega
      rw [e4]
      refine ih k (i + 1) _ (by omega) (by omega) (by simp [hl]) (by omega) (fun m hm1 hm2 => ?_)
      rw [List.getElem_set]
      by_cases q1 : l.length - 1 - i = m
      · rw [if_pos q1, if_pos (by omega)]
        have := hX i (by omega) h2
        rw [if_neg (by omega)] at this
        have e5 : l.length - 1 - m = i := by omega
        simp only [e5]
        rw [← this]
      · rw [if_neg q1, List.getElem_set]
        by_cases q2 : i = m
        · rw [if_pos q2, if_pos (by omega)]
          have := hX (l.length - 1 - i) (by omega) h1
          rw [if_neg (by omega)] at this
          subst q2
          rw [← this]
        · rw [if_neg q2, hX m hm1 (by omega)]
          by_cases q3 : m < i ∨ l.length ≤ m + i
          · rw [if_pos q3, if_pos (by omega)]
          · rw [if_neg q3, if_neg (by omega)]
    · rw [pairs_Pair_int64_110.l0, if_neg c]
      congr 1
      refine List.ext_getElem (by simp [hl]) (fun m h1 h2 => ?_)
      rw [hX m (by omega) h1, List.getElem_reverse]
      by_cases c : m < i ∨ l.length ≤ m + i
      · rw [if_pos c]
      · rw [if_neg c]; congr 1; omega
theorem reverse_eq (l : List Pr) (hm : l.length < 4611686018427387904) (k : Nat) (hk : l.length < k) : pairs_Pair_int64_110.f k l = some l.reverse := by
  unfold pairs_Pair_int64_110.f
  by_cases h0 : l.length = 0
  · obtain rfl := List.eq_nil_of_length_eq_zero h0
    obtain ⟨k, rfl⟩ : ∃ m, k = m + 1 := ⟨k - 1, by simp at hk; omega⟩
    rw [pairs_Pair_int64_110.l0, if_neg (by rw [show (((([] : List Pr).length : Nat) : Int) - 1) = -1 from rfl, wrap_id (by omega) (by omega)]; omega)]; rfl
  · have := reverse_loop l hm l.length k 0 l (by omega) hk rfl (by omega) (fun m h hx => by rw [if_neg (by omega)])
    rw [wrap_id (by omega) (by omega)]
    simpa using this
theorem open_rc (h : Hi) (hw : wfH h) (w : World) (v : Value) (hv : HI w v h) : Calls Try.prog 53 #[v] w fun e w' =>
    ∃ v0 v1 : Value, e = .returned (.tuple #[v0, v1, .int .i64 (checkR h)]) ∧ Kd.R kPr 62 w' w.heap.size (fun k_ => (w.heap.size ≤ k_) ∧ some k_ ≠ v1.ownBlock) v0 (openR h).1 ∧ Kd.R kPr 62 w' w.heap.size (fun k_ => (w.heap.size ≤ k_) ∧ some k_ ≠ v0.ownBlock) v1 (openR h).2.1 ∧ Below w.heap.size w w' := by
  obtain ⟨A5, c5, A6, c6, A7, c7, A8, c8, rfl, ⟨_, _, e5, h51, h52⟩, ⟨_, _, e6, h61, h62⟩, ⟨_, _, e7, h71, h72⟩, ⟨_, _, e8, h81, h82⟩⟩ := hv.open_
  cases e5; cases e6; cases e7; cases e8
  exact hist_open.calls h.f0 h.f1 h.f2 h.f3 h.f4 A5 c5 h.f5 A6 c6 h.f6 A7 c7 h.f7 A8 c8 h.f8 (openR h).1 (openR h).2.1 (openR h).2.2 w h52 h51 h62 h61 h72 h71 h82 h81 (if_pos hw)
theorem RowW.of_R {n0 : Nat} {W : World} {ok : Nat → Prop} {v : Value} {l : List Pr} (h : Kd.R kPr 62 W n0 ok v l) : RowW n0 W v l := Kd.R_mono h (fun _ _ => trivial)
theorem at0 (w : World) (a b c : Array Value) (ta tb tc : TypeId) : Blk (((w.alloc (.cells a ta)).alloc (.cells b tb)).alloc (.cells c tc)) w.heap.size a ta := ((Blk.new w a ta).alloc _).alloc _
theorem at1 (w : World) (a b c : Array Value) (ta tb tc : TypeId) : Blk (((w.alloc (.cells a ta)).alloc (.cells b tb)).alloc (.cells c tc)) (w.heap.size + 1) b tb := (Blk.at1 (w := w) (.cells a ta) b tb).alloc _
theorem at2 (w : World) (a b c : Array Value) (ta tb tc : TypeId) : Blk (((w.alloc (.cells a ta)).alloc (.cells b tb)).alloc (.cells c tc)) (w.heap.size + 1 + 1) c tc := by have := Blk.at1 (w := w.alloc (.cells a ta)) (.cells b tb) c tc; simpa using this
theorem R_ok {w : World} {base : Nat} {ok ok' : Nat → Prop} {v : Value} {l : List Pr} (h : Kd.R kPr 62 w base ok v l) (h' : ∀ k, v.ownBlock = some k → ok' k) : Kd.R kPr 62 w base ok' v l := ⟨h', h.2.imp_ (fun x cs hx => by rw [k62_openM hx]; exact k62_mkM _ _ _ x)⟩
theorem R_has {w : World} {base : Nat} {ok : Nat → Prop} {v : Value} {l : List Pr} (h : Kd.R kPr 62 w base ok v l) : ∀ k, v.ownBlock = some k → ok k := h.1
theorem RowW.of_kept {n0 base : Nat} {A B : World} {ok : Nat → Prop} {v : Value} {l : List Pr} (h : Kd.R kPr 62 A base ok v l) (hn : n0 ≤ base) (hh : ∀ q, v.ownBlock = some q → B.heap[q]? = A.heap[q]?) : RowW n0 B v l :=
  Kd.R_mono (Kd.R_lower (Kd.R_step (R_ok (ok' := fun q => v.ownBlock = some q) h (fun _ e => e)) (fun q hq _ => hh q hq)) hn) (fun _ _ => trivial)
set_option maxRecDepth 100000 in
set_option maxHeartbeats 8000000 in
theorem walk_c (h : Hi) (hw : wfH h) (w : World) (v : Value) (hv : HI w v h) : Calls Try.prog 78 #[v] w fun e w' =>
    ∃ bE bN bH bP : Nat, e = .returned (.func (.func 111) #[] #[.pointer (some ⟨bE, 0, none⟩), .pointer (some ⟨bN, 0, none⟩), .pointer (some ⟨bH, 0, none⟩), .pointer (some ⟨bP, 0, none⟩)]) ∧ HoldsW w.heap.size bE bN bH bP h w' ∧ Below w.heap.size w w' := by
  have hud := Try.underlying30
  obtain ⟨A5, c5, A6, c6, A7, c7, A8, c8, e, -⟩ := hv.open_
  subst e
  have hlen := (openR_row hw).2.len
  have HO := Aside0.mk (open_rc h hw)
  have HL := Aside0.mk hlen
  have hal0 := below_alloc (Below.refl w.heap.size w) (.cells #[.int .i64 h.f0, .int .u64 h.f1, .int .u64 h.f2, .int .u64 h.f3, .int .u64 h.f4, .slice A5 h.f5.length c5, .slice A6 h.f6.length c6, .slice A7 h.f7.length c7, .slice A8 h.f8.length c8] 30)
  have HV := Aside0.mk (hv.below hal0)
  have X := Aside0.mk (Blk.new w #[.int .i64 h.f0, .int .u64 h.f1, .int .u64 h.f2, .int .u64 h.f3, .int .u64 h.f4, .slice A5 h.f5.length c5, .slice A6 h.f6.length c6, .slice A7 h.f7.length c7, .slice A8 h.f8.length c8] 30)
  have hx := fun i => X.out.cell i
  have B := Aside0.mk hal0
  clear hv hlen hal0
  go_enter Try.func78, Try.ntmps78
  go_wp2_with (first | (go_at_call 53; (with_reducible refine (HO.out _ _ HV.out).mono ?_); rintro e W1 ⟨v0, v1, rfl, h0, h1, hb⟩; replace B := Aside0.mk (below_then B.out B.out.size hb); replace X := Aside0.mk (X.out.below hb); replace hx := fun i => X.out.cell i; have R0 := Aside0.mk h0; have R1 := Aside0.mk h1; obtain ⟨P0, d0, e0⟩ := Kd.R_slice R0.out; obtain ⟨P1, d1, e1⟩ := Kd.R_slice R1.out; subst e0; subst e1; have HB0 := Aside0.mk hb; clear h0 h1 hb) | (go_at_call 110; (with_reducible refine (pairs_Pair_int64_110.calls 5000 (fun k => k < W1.heap.size ∧ some k ≠ (.slice P0 (openR h).1.length d0 : Value).ownBlock) _ (openR h).2.1 (openR h).2.1.reverse (w.alloc (.cells #[.int .i64 h.f0, .int .u64 h.f1, .int .u64 h.f2, .int .u64 h.f3, .int .u64 h.f4, .slice A5 h.f5.length c5, .slice A6 h.f6.length c6, .slice A7 h.f7.length c7, .slice A8 h.f8.length c8] 30)) _ (below_alloc (below_alloc (below_alloc HB0.out _) _) _) (R_ok (Kd.R_alloc (Kd.R_alloc (Kd.R_alloc R1.out _) _) _) (fun k hk => ⟨Kd.R_lt R1.out k hk, (R_has R1.out k hk).2⟩)) (reverse_eq _ (by have := HL.out; omega) _ (by have := HL.out; omega))).mono ?_); rintro e W2 ⟨rfl, hr, hb, hk⟩; have RR := Aside0.mk hr; have RB := Aside0.mk hb; have RK := Aside0.mk hk; clear hr hb hk))
  go_ret
  refine ⟨W1.heap.size + 1 + 1, W1.heap.size + 1, w.heap.size, W1.heap.size, rfl, ?_, below_then (below_alloc (Below.refl _ _) _) (by simp) RB.out⟩
  have hsz := HB0.out.size
  have hsz1 : w.heap.size + 1 ≤ W1.heap.size := by simpa using hsz
  have hb := RB.out
  have hk := RK.out
  refine ⟨⟨by omega, by omega, Nat.le_refl _, by omega⟩, ?_, ⟨.slice P1 (openR h).2.1.length d1, ?_, RowW.of_R (Kd.R_lower RR.out (by simp))⟩, ⟨.slice A5 h.f5.length c5, .slice A6 h.f6.length c6, .slice A7 h.f7.length c7, .slice A8 h.f8.length c8, ?_⟩, ⟨.slice P0 (openR h).1.length d0, ?_, ?_⟩⟩
  · exact (hk.2 (W1.heap.size + 1 + 1) (by simp) (fun q => by have := q.1; omega)).trans (at2 W1 _ _ _ _ _ _)
  · exact (hk.2 (W1.heap.size + 1) (by simp) (fun q => by have := q.1; omega)).trans (at1 W1 _ _ _ _ _ _)
  · exact (hb.block w.heap.size (by simp)).trans (blk_new w _)
  · exact (hk.2 W1.heap.size (by simp; omega) (fun q => by have := q.1; omega)).trans (at0 W1 _ _ _ _ _ _)
  · have hk0 : ∀ q, (Value.slice P0 (openR h).1.length d0).ownBlock = some q → W2.heap[q]? = W1.heap[q]? := fun q hq => by
      have hl := Kd.R_lt R0.out q hq
      refine (hk.2 q (by simp; omega) (fun y => y.2 hq.symm)).trans ?_
      refine (Below.heap_alloc _ _ _ (by simp; omega)).trans ((Below.heap_alloc _ _ _ (by simp; omega)).trans (Below.heap_alloc _ _ _ hl))
    exact RowW.of_kept R0.out (by simp) hk0
theorem walk1_stops (n : Nat) (hn : 2 ≤ n) (n0 bE bN bH bP : Nat) (h : Hi) (hwf : wfH h) (w : World) (hn0 : n0 ≤ w.heap.size) (hS : HoldsW n0 bE bN bH bP h w) :
    SeqStopsK Fence.wide n Try.prog 111 #[.pointer (some ⟨bE, 0, none⟩), .pointer (some ⟨bN, 0, none⟩), .pointer (some ⟨bH, 0, none⟩), .pointer (some ⟨bP, 0, none⟩)] (fun x : Fin (toldW h).length => #[encB ((toldW h).get x)]) (KeepC n0) (fun ys => ys.map (·.val) = List.range (toldW h).length) (fun ys => ys.map (·.val) = List.range ys.length) (toldW h).length w := by
  intro L J Jx W hW hJ hJx hY h0
  refine (walk1_in n hn L n0 bE bN bH bP h hwf (fun i W => ∃ xs : List (Fin (toldW h).length), xs.map (·.val) = List.range i ∧ J xs W) (fun i W => ∃ xs, xs.map (·.val) = List.range xs.length ∧ Jx xs W)
    (fun i A B ⟨xs, e, hj⟩ hg => ⟨xs, e, hJ xs A B none hj hg (fun r e => by cases e)⟩)
    (by
      rintro i W1 ⟨xs, e, hj⟩ x hx
      obtain ⟨hi, rfl⟩ := List.getElem?_eq_some_iff.1 hx
      have hl : xs.length = i := by have := congrArg List.length e; simpa using this
      obtain ⟨fn, tmps, assign, body, hyy, hR⟩ := hY xs ⟨i, hi⟩ W1 hj (by omega)
      refine ⟨fn, tmps, assign, body, hyy, hR.mono ?_⟩
      rintro e' W' (⟨e1, e2, e3⟩ | ⟨e1, e2⟩)
      · exact .inl ⟨e1, ⟨xs ++ [⟨i, hi⟩], by rw [List.map_append, e, List.range_succ]; rfl, e2⟩, e3⟩
      · exact .inr ⟨e1, ⟨_, by rw [List.map_append, e, List.length_append, hl]; show List.range i ++ [i] = List.range (i + 1); rw [List.range_succ], e2⟩⟩)
    W (Nat.le_trans hn0 hW.size) (hS.keep (KeepC.of_below hW)) ⟨[], rfl, h0⟩).mono ?_
  rintro e W' ⟨hv, ⟨xs, e1, hj⟩ | ⟨i, xs, hp, hj⟩⟩
  · exact ⟨hv, .inl ⟨xs, e1, hj⟩⟩
  · exact ⟨hv, .inr ⟨xs, hp, hj⟩⟩
end Go.Proofs.Ytgkplhdcafbfbaa.P
namespace Go.Proofs.Ytgkplhdcafbfbaa.P
open Go.RowKit Go.Shelf Go.Proofs.YtgkplhdcafbfbaaW.PrintWords Go.Proofs.YtgkplhdcafbfbaaW.PrintLast Go.Proofs.YtgkplhdcafbfbaaW.PrintMore
attribute [local go_sem] Oper.semAt_some
def sumB : List Bk → Int
  | [] => 0
  | b :: l => b.n + sumB l
theorem sumB_app : ∀ (l m : List Bk), sumB (l ++ m) = sumB l + sumB m
  | [], m => by simp [sumB]
  | b :: l, m => by simp only [List.cons_append, sumB]; rw [sumB_app l m]; omega
theorem sumB_snoc (l : List Bk) (b : Bk) : sumB (l ++ [b]) = sumB l + b.n := by rw [sumB_app]; simp [sumB]
theorem segW_u64 {side : Int} {l : List Pr} (h : cnts l) : ∀ b ∈ segW side l, 0 ≤ b.n ∧ b.n < 9223372036854775808 := by
  intro b hb
  unfold segW at hb
  obtain ⟨q, hq, rfl⟩ := List.mem_map.1 hb
  have h1 := h q (List.mem_filter.1 hq).1
  exact ⟨by show 0 ≤ q.f1; omega, by show q.f1 < _; omega⟩
theorem toldW_u64 {h : Hi} (hw : wfH h) : ∀ b ∈ toldW h, u64 b.n := by
  intro b hb
  have hrow := openR_row hw
  unfold toldW at hb
  by_cases c : checkR h = 0
  · rw [if_pos c] at hb
    rcases List.mem_append.1 hb with hb | hb
    · have := segW_u64 (side := 1) (l := (openR h).2.1.reverse) (fun q hq => hrow.2.cnt q (List.mem_reverse.1 hq)) b hb
      exact ⟨by omega, by omega⟩
    rcases List.mem_append.1 hb with hb | hb
    · by_cases z : h.f2 = 0
      · rw [if_pos z] at hb; simp at hb
      · rw [if_neg z] at hb
        obtain rfl := List.mem_singleton.1 hb
        exact hw.2.2.1
    · have := segW_u64 (side := 0) hrow.1.cnt b hb
      exact ⟨by omega, by omega⟩
  · rw [if_neg c] at hb; simp at hb
def toldL (h : Hi) (pre : List (Fin (toldW h).length)) : List Bk := pre.map (fun i => (toldW h).get i)
theorem toldL_snoc (h : Hi) (pre : List (Fin (toldW h).length)) (x : Fin (toldW h).length) : toldL h (pre ++ [x]) = toldL h pre ++ [(toldW h).get x] := by unfold toldL; rw [List.map_append]; rfl
theorem toldL_take {h : Hi} {pre : List (Fin (toldW h).length)} (e : pre.map (·.val) = List.range pre.length) : toldL h pre = (toldW h).take pre.length := by
  have hv : ∀ i (hi : i < pre.length), pre[i].val = i := fun i hi => by
    have : (pre.map (·.val))[i]'(by simpa using hi) = i := by simp only [e, List.getElem_range]
    simpa using this
  have hl : pre.length ≤ (toldW h).length := by
    rcases Nat.eq_zero_or_pos pre.length with h0 | h0
    · omega
    · have := hv (pre.length - 1) (by omega)
      have := pre[pre.length - 1].isLt
      omega
  unfold toldL
  refine List.ext_getElem (by simp; omega) (fun i h1 h2 => ?_)
  have hi : i < pre.length := by simpa using h1
  simp only [List.getElem_map, List.getElem_take, List.get_eq_getElem, hv i hi]
theorem toldL_all {h : Hi} {pre : List (Fin (toldW h).length)} (e : pre.map (·.val) = List.range (toldW h).length) : toldL h pre = toldW h := by
  have hl : pre.length = (toldW h).length := by have := congrArg List.length e; simpa using this
  rw [toldL_take (by rw [e, hl]), hl, List.take_length]
def encB1 (b : Bk) : Array Value := #[.int .i64 b.s, .int .i64 b.p, .int .u64 b.n]
def BlkF (W : World) (g : Nat) (cs : Array Value) : Prop := Blk W g cs 75
theorem BlkF.grown {A B : World} {g : Nat} {cs : Array Value} {row : Option Nat} {n0 : Nat} (h : BlkF A g cs) (hg : A.grownBy B row) (hr : ∀ r, row = some r → n0 ≤ r ∧ ∃ o : Obj, A.heap[r]? = some o ∧ o.isCells = false) : BlkF B g cs :=
  (hg.block g (blk_lt h) (fun e => by obtain ⟨-, o, h1, h2⟩ := hr g e.symm; rw [show A.heap[g]? = _ from h] at h1; injection h1 with h1; subst h1; cases h2)).trans h
def totalR (h : Hi) : Int × Int := if checkR h = 0 then (IntKind.u64.wrap (sumB (toldW h)), 0) else (0, checkR h)
set_option maxHeartbeats 8000000 in
set_option maxRecDepth 100000 in
theorem total_c (h : Hi) (hw : wfH h) (w : World) (v : Value) (hv : HI w v h) : Calls Try.prog 73 #[v] w fun e w' =>
    e = .returned (.tuple #[.int .u64 (totalR h).1, .int .i64 (totalR h).2]) ∧ Below w.heap.size w w' := by
  have hud := Try.underlying30
  have hub := Try.underlying75
  obtain ⟨A5, c5, A6, c6, A7, c7, A8, c8, e, -⟩ := hv.open_
  subst e
  have hal0 := below_alloc (Below.refl w.heap.size w) (.cells #[.int .i64 h.f0, .int .u64 h.f1, .int .u64 h.f2, .int .u64 h.f3, .int .u64 h.f4, .slice A5 h.f5.length c5, .slice A6 h.f6.length c6, .slice A7 h.f7.length c7, .slice A8 h.f8.length c8] 30)
  have HV := Aside0.mk (hv.below hal0)
  have X := Aside0.mk (Blk.new w #[.int .i64 h.f0, .int .u64 h.f1, .int .u64 h.f2, .int .u64 h.f3, .int .u64 h.f4, .slice A5 h.f5.length c5, .slice A6 h.f6.length c6, .slice A7 h.f7.length c7, .slice A8 h.f8.length c8] 30)
  have hx := fun i => X.out.cell i
  have B := Aside0.mk hal0
  have CK := Aside0.mk (check_c h hw)
  have WK := Aside0.mk (walk_c h hw)
  have HW := Aside0.mk hw
  clear hv hal0 hw
  unfold totalR
  by_cases c1 : checkR h = 0
  rotate_left
  · rw [if_neg c1]
    generalize checkR h = ec at *
    have d1 : (ec != 0) = true := bne_iff_ne.2 c1
    clear c1 WK
    go_enter Try.func73, Try.ntmps73
    go_wp2_with (go_at_call 19; (with_reducible refine (CK.out _ _ HV.out).mono ?_); rintro e W1 ⟨rfl, hb⟩; replace B := Aside0.mk (below_then B.out B.out.size hb); clear hb)
    go_ret2
    exact ⟨rfl, B.out⟩
  rw [if_pos c1]
  rw [c1] at CK
  have HC := Aside0.mk c1
  clear c1
  refine (callsIn_wide (n := 5)).1 ?_
  refine callsIn_of_wp_marks Try.func73 rfl trivial ?_ rfl
  simp only [Try.ntmps73, List.size_toArray, List.length_cons, List.length_nil, Nat.reduceAdd, Nat.reduceSub, Array.replicate_succ, Array.replicate_zero, List.push_toArray, List.append_toArray, List.nil_append, List.cons_append]
  refine wpIn_wide.2 ?_
  go_wp2_with (first | (go_at_call 19; (with_reducible refine (CK.out _ _ HV.out).mono ?_); rintro e W1 ⟨rfl, hb⟩; replace B := Aside0.mk (below_then B.out B.out.size hb); replace HV := Aside0.mk (HV.out.below hb); replace X := Aside0.mk (X.out.below hb); replace hx := fun i => X.out.cell i; have hxa := fun i => (X.out.alloc (.cells #[.int .u64 0] 26)).cell i; have LOWA := Aside0.mk hb.size; clear hb) | (go_at_call 78; (with_reducible refine (WK.out _ _ (HV.out.below (below_alloc (Below.refl _ _) _))).mono ?_); rintro e W2 ⟨bE, bN, bH, bP, rfl, hS, hb⟩; replace B := Aside0.mk (below_then (below_then B.out B.out.size (below_alloc (Below.refl _ _) (.cells #[.int .u64 0] 26))) (by have := B.out.size; simp at this ⊢; omega) hb); have HS := Aside0.mk hS; have HB2 := Aside0.mk hb; clear hS hb))
  refine (wpIn_wide (n := 5)).1 ?_
  have hz1 : (W1.alloc (.cells #[.int .u64 0] 26)).heap.size = W1.heap.size + 1 := by simp
  have hbx0 : Boxed W2 W1.heap.size 26 (.int .u64 0) := (HB2.out.block _ (by simp)).trans (by simpa using blk_new W1 (.cells #[.int .u64 0] 26))
  have hge2 : W1.heap.size + 1 ≤ W2.heap.size := by have := HB2.out.size; omega
  have hw2 : w.heap.size ≤ W1.heap.size := by have := LOWA.out; simp at this; omega
  have hS2 : HoldsW (W1.heap.size + 1) bE bN bH bP h W2 := by have := HS.out; rwa [hz1] at this
  refine wpIn_rangeFunc_ownH rfl (by omega) (gf := 111) (lb := #[.pointer (some ⟨bE, 0, none⟩), .pointer (some ⟨bN, 0, none⟩), .pointer (some ⟨bH, 0, none⟩), .pointer (some ⟨bP, 0, none⟩)]) rfl trivial (enters_of Try.func111 (by kernel_rfl) rfl)
    (walk1_stops _ (by omega) (W1.heap.size + 1) bE bN bH bP h HW.out W2 hge2 hS2) KeepC.trans (fun W l o o' _ h hc _ => KeepC.put W l o o' h hc) (Below.refl _ _) (fun _ => rfl)
    (fun pre W => Boxed W W1.heap.size 26 (.int .u64 (IntKind.u64.wrap (sumB (toldL h pre)))) ∧ (Below w.heap.size w W ∧ W2.heap.size ≤ W.heap.size))
    (fun _ _ _ => False)
    (OwnFrom.and (Own.from (boxed_own _ _ _) _) (OwnFrom.and (ownFrom_below (Nat.le_refl _) (by omega)) (fun s A B row hs hg hr => Nat.le_trans hs hg.size)))
    (fun _ _ _ _ _ hs _ _ => hs)
    ⟨hbx0, B.out, Nat.le_refl _⟩
    (fun x a' W => ∃ b, a' = ({ tmps := #[.agg #[.int .i64 h.f0, .int .u64 h.f1, .int .u64 h.f2, .int .u64 h.f3, .int .u64 h.f4, .slice A5 h.f5.length c5, .slice A6 h.f6.length c6, .slice A7 h.f7.length c7, .slice A8 h.f8.length c8], .pointer (some ⟨w.heap.size, 0, none⟩), .int .u64 0, .int .i64 0, .int .i64 0, .pointer (some ⟨W1.heap.size, 0, none⟩), .pointer (some ⟨b, 0, none⟩), .agg #[.int .i64 h.f0, .int .u64 h.f1, .int .u64 h.f2, .int .u64 h.f3, .int .u64 h.f4, .slice A5 h.f5.length c5, .slice A6 h.f6.length c6, .slice A7 h.f7.length c7, .slice A8 h.f8.length c8], .int .i64 0, .int .i64 0, .bool false, undef, .agg #[.int .i64 h.f0, .int .u64 h.f1, .int .u64 h.f2, .int .u64 h.f3, .int .u64 h.f4, .slice A5 h.f5.length c5, .slice A6 h.f6.length c6, .slice A7 h.f7.length c7, .slice A8 h.f8.length c8], .func (.func 111) #[] #[.pointer (some ⟨bE, 0, none⟩), .pointer (some ⟨bN, 0, none⟩), .pointer (some ⟨bH, 0, none⟩), .pointer (some ⟨bP, 0, none⟩)], encB ((toldW h).get x), undef, undef, undef, undef, undef], defers := [] } : Act) ∧ BlkF W b (encB1 ((toldW h).get x)) ∧ W2.heap.size ≤ b) (fun x a' s A B row ⟨b, e, hb, hge⟩ hg hr => ⟨b, e, hb.grown hg hr, hge⟩) ?assign ?body ?done ?stop
  case assign =>
    intro l pre x W K hI hK
    have HI_ := Aside0.mk hI
    have HK := Aside0.mk hK
    clear hI hK
    obtain ⟨y, hy⟩ : ∃ y, y = (toldW h).get x := ⟨_, rfl⟩
    have HY := Aside0.mk hy
    simp only [← hy]
    clear hy
    unfold encB
    gi_wp2
    have hbl := below_alloc (Below.refl W.heap.size W) (.cells (encB1 y) 75)
    refine HK.out _ _ ((KeepsOthers.alloc W (.cells (encB1 y) 75)).from _) (KeepC.of_below hbl) ⟨HI_.out.1.alloc _, below_then HI_.out.2.1 HI_.out.2.1.size hbl, Nat.le_trans HI_.out.2.2 hbl.size⟩ ⟨W.heap.size, ?_, ?_, HI_.out.2.2⟩
    · rw [← HY.out]; rfl
    · rw [← HY.out]; exact Blk.new W _ _
  case body =>
    rintro l pre x a' W hl hlr ⟨hx1, hx2, hx3⟩ ⟨b, rfl, hb, hge⟩ hlt
    obtain ⟨y, hy⟩ : ∃ y, y = (toldW h).get x := ⟨_, rfl⟩
    have HT := Aside0.mk (toldL_snoc h pre x)
    rw [← hy] at hb HT
    simp only [← hy]
    clear hy
    unfold encB
    obtain ⟨s, hs⟩ : ∃ s, s = sumB (toldL h pre) := ⟨_, rfl⟩
    rw [← hs] at hx1
    have HS_ := Aside0.mk hs
    have hc := hx1.cell
    have hf := hx1.frozen
    have hbc := fun i => Blk.cell hb i
    have HX1 := Aside0.mk hx1
    have HX2 := Aside0.mk hx2
    have HX3 := Aside0.mk hx3
    have HBB := Aside0.mk hb
    clear hs hx1 hx2 hx3 hb hl hlr hlt
    unfold encB1 at hbc
    gi_wp2
    have hw1 : IntKind.u64.wrap (IntKind.u64.wrap s + y.n) = IntKind.u64.wrap (sumB (toldL h (pre ++ [x]))) := by
      rw [HT.out, sumB_snoc, ← HS_.out]
      show (s % 18446744073709551616 + y.n) % 18446744073709551616 = (s + y.n) % 18446744073709551616
      omega
    rw [hw1]
    refine ⟨KeepsFrom.of_grownBy (grownBy_setCell' _ _ _) (fun j e => by cases e; omega), KeepC.setCell _ (Nat.lt_succ_self _) _, HX1.out.set _, ?_, ?_⟩
    · exact HX2.out.setCell (by omega) _
    · have := HX3.out; simp [World.setCell]; exact this
  case done =>
    rintro D xs W hD hS ⟨hx1, hx2, hx3⟩ hK
    rw [toldL_all hS] at hx1
    have hc := hx1.cell
    have HX2 := Aside0.mk hx2
    have HK := Aside0.mk hK
    clear hx1 hx2 hx3 hK hS
    go_wp2
    refine ⟨by simp, .inl ⟨_, _, rfl, run_takeDeferred HK.out, ?_⟩⟩
    exact ⟨_, results_tmp2 rfl _ _ _, rfl, HX2.out.trans (belowK_b (w := W2) (by omega) W D _ _ hD HK.out rfl rfl)⟩
  case stop =>
    rintro D c pre W _ _ h _
    exact h.elim
end Go.Proofs.Ytgkplhdcafbfbaa.P
namespace Go.Proofs.Ytgkplhdcafbfbaa.P
open Go.RowKit Go.Shelf Go.Proofs.YtgkplhdcafbfbaaW.PrintWords Go.Proofs.YtgkplhdcafbfbaaW.PrintLast Go.Proofs.YtgkplhdcafbfbaaW.PrintMore
attribute [local go_sem] Oper.semAt_some
def findK : List Bk → Int → Option Bk
  | [], _ => none
  | b :: l, k => if k ≤ b.n then some b else findK l (k - b.n)
def leftK : List Bk → Int → Int
  | [], k => k
  | b :: l, k => leftK l (k - b.n)
theorem leftK_sum : ∀ (l : List Bk) (k : Int), leftK l k = k - sumB l
  | [], k => by simp [leftK, sumB]
  | b :: l, k => by rw [leftK, leftK_sum l]; simp only [sumB]; omega
theorem findK_app : ∀ (l m : List Bk) (k : Int), findK (l ++ m) k = match findK l k with | some b => some b | none => findK m (leftK l k)
  | [], m, k => rfl
  | b :: l, m, k => by
    simp only [List.cons_append, findK, leftK]
    by_cases c : k ≤ b.n
    · rw [if_pos c, if_pos c]
    · rw [if_neg c, if_neg c, findK_app l m]
theorem findK_left : ∀ (l : List Bk) (k : Int), (∀ b ∈ l, 0 ≤ b.n) → 0 < k → findK l k = none → 0 < leftK l k ∧ leftK l k ≤ k
  | [], k, _, h, _ => ⟨h, Int.le_refl _⟩
  | b :: l, k, hp, h, hn => by
    simp only [findK] at hn
    simp only [leftK]
    by_cases c : k ≤ b.n
    · rw [if_pos c] at hn; cases hn
    · rw [if_neg c] at hn
      have h1 := findK_left l (k - b.n) (fun x hx => hp x (List.mem_cons_of_mem _ hx)) (by omega) hn
      have h2 := hp b (List.mem_cons_self ..)
      omega
def atR (h : Hi) (k : Int) : Bk × Int := if checkR h = 0 then (if 0 < k then (match findK (toldW h) k with | some b => (b, 0) | none => (⟨0, 0, 0⟩, 11)) else (⟨0, 0, 0⟩, 11)) else (⟨0, 0, 0⟩, checkR h)
theorem at3 (w : World) (a b : Obj) (c : Array Value) (tc : TypeId) : Blk (((w.alloc a).alloc b).alloc (.cells c tc)) (w.heap.size + 1 + 1) c tc := by have := Blk.at1 (w := w.alloc a) b c tc; simpa using this
theorem at4 (w : World) (a b c : Obj) (d : Array Value) (td : TypeId) : Blk ((((w.alloc a).alloc b).alloc c).alloc (.cells d td)) (w.heap.size + 1 + 1 + 1) d td := by have := at3 (w.alloc a) b c d td; simpa using this
theorem three {W : World} {g : Nat} {t : TypeId} {a0 a1 a2 : Value} (h : W.heap[g]? = some (.cells #[a0, a1, a2] t (0, 0))) (v0 v1 v2 : Value) :
    (((W.setCell ⟨g, 0, none⟩ v0).setCell ⟨g, 1, none⟩ v1).setCell ⟨g, 2, none⟩ v2).heap[g]? = some (.cells #[v0, v1, v2] t (0, 0)) := by
  refine blk_put (cs := #[v0, v1, a2]) ?_ 2 _ rfl
  refine blk_put (cs := #[v0, a1, a2]) ?_ 1 _ rfl
  exact blk_put (cs := #[a0, a1, a2]) h 0 _ rfl
theorem Blk.grown {A B : World} {g : Nat} {cs : Array Value} {t : TypeId} {row : Option Nat} {n0 : Nat} (h : Blk A g cs t) (hg : A.grownBy B row) (hr : ∀ r, row = some r → n0 ≤ r ∧ ∃ o : Obj, A.heap[r]? = some o ∧ o.isCells = false) : Blk B g cs t :=
  (hg.block g (blk_lt h) (fun e => by obtain ⟨-, o, h1, h2⟩ := hr g e.symm; rw [show A.heap[g]? = _ from h] at h1; injection h1 with h1; subst h1; cases h2)).trans h
theorem blk_put_ne {W : World} {g g' j : Nat} {o : Obj} (h : W.heap[g]? = some o) (hne : g ≠ g') (u : Value) : (W.setCell ⟨g', j, none⟩ u).heap[g]? = some o := (Below.heap_setCell W ⟨g', j, none⟩ u g hne).trans h
theorem cell_put1 {W : World} {g g' : Nat} {a : Value} {t : TypeId} (h : Blk W g' #[a] t) (hne : g' ≠ g) (v0 v1 v2 u : Value) : ((((W.setCell ⟨g, 0, none⟩ v0).setCell ⟨g, 1, none⟩ v1).setCell ⟨g, 2, none⟩ v2).setCell ⟨g', 0, none⟩ u).cell? ⟨g', 0, none⟩ = some u := by
  have h3 := blk_put_ne (j := 2) (blk_put_ne (j := 1) (blk_put_ne (j := 0) h hne v0) hne v1) hne v2
  exact (Boxed.set u h3).cell
theorem blk_putObj_ne {W : World} {g D : Nat} {o : Obj} (h : W.heap[g]? = some o) (hne : g ≠ D) (o' : Obj) : (W.putObj D o').heap[g]? = some o := (World.putObj_heap_other hne).trans h
theorem cell_putObj_ne {W : World} {g D : Nat} {i : Nat} {v : Value} (h : W.cell? ⟨g, i, none⟩ = some v) (hne : g ≠ D) (o' : Obj) : (W.putObj D o').cell? ⟨g, i, none⟩ = some v := by
  have e : (W.putObj D o').heap[g]? = W.heap[g]? := World.putObj_heap_other hne
  simp only [World.cell?, e] at h ⊢
  exact h
theorem below_putObj_hi {n0 D : Nat} (W : World) (o : Obj) (_ : True) (h : n0 ≤ D) : Below n0 W (W.putObj D o) := by
  exact ⟨rfl, rfl, rfl, by simp [World.putObj], fun k hk => World.putObj_heap_other (by omega)⟩
theorem results_ci {P : Program} {fn : Func} {p p' : Tmp} {ty ty' : TypeId} (h : fn.results = #[.cell p ty, .cell p' ty']) (tmps : Array Value) (w : World) (g g' : Nat) (t : TypeId) (cs : Array Value) (fr : Nat × Nat) (d : TypeDesc) (kk : IntKind) (v' : Value)
    (hp : tmps.getD p undef = .pointer (some ⟨g, 0, none⟩)) (hg : w.heap[g]? = some (.cells cs t fr))
    (hu : P.underlying ty = some d) (hd : (match d with | .struct _ | .array _ _ => true | _ => false) = true) (hi : (P.info? ty).map (·.size) = some cs.size)
    (hp' : tmps.getD p' undef = .pointer (some ⟨g', 0, none⟩)) (hc : w.cell? ⟨g', 0, none⟩ = some v') (hu' : P.underlying ty' = some (.int kk)) :
    (results fn tmps).run P w = .ok (.tuple #[.agg cs, v']) w := by
  have h1 : tmps[p]?.getD undef = .pointer (some ⟨g, 0, none⟩) := by simpa using hp
  have h2 : tmps[p']?.getD undef = .pointer (some ⟨g', 0, none⟩) := by simpa using hp'
  have hagg : (isAgg ty').run P w = .ok false w := by
    unfold isAgg
    rw [Sem.run_bind, run_underlying hu' w]
    simp
  have hl : (loadVar ty' ⟨g', 0, none⟩).run P w = .ok v' w := by
    simp [loadVar, Sem.run_bind, hagg, hc, go_sem]
  simp [results, h, h1, h2, asAddr, run_loadVar_row w g t ty cs fr d hg hu hd hi, hl]
set_option maxHeartbeats 8000000 in
set_option maxRecDepth 100000 in
theorem at_c (h : Hi) (hw : wfH h) (k : Int) (hk : u64 k) (w : World) (v : Value) (hv : HI w v h) : Calls Try.prog 34 #[v, .int .u64 k] w fun e w' =>
    e = .returned (.tuple #[.agg (encB1 (atR h k).1), .int .i64 (atR h k).2]) ∧ Below w.heap.size w w' := by
  have hud := Try.underlying30
  have hub := Try.underlying75
  obtain ⟨A5, c5, A6, c6, A7, c7, A8, c8, e, -⟩ := hv.open_
  subst e
  have hal0 := below_alloc (below_alloc (below_alloc (below_alloc (Below.refl w.heap.size w) (.cells #[.int .i64 h.f0, .int .u64 h.f1, .int .u64 h.f2, .int .u64 h.f3, .int .u64 h.f4, .slice A5 h.f5.length c5, .slice A6 h.f6.length c6, .slice A7 h.f7.length c7, .slice A8 h.f8.length c8] 30)) (.cells #[.int .u64 k] 26)) (.cells #[.int .i64 0, .int .i64 0, .int .u64 0] 75)) (.cells #[.int .i64 0] 32)
  have HV := Aside0.mk (hv.below hal0)
  have X := Aside0.mk (((((Blk.new w #[.int .i64 h.f0, .int .u64 h.f1, .int .u64 h.f2, .int .u64 h.f3, .int .u64 h.f4, .slice A5 h.f5.length c5, .slice A6 h.f6.length c6, .slice A7 h.f7.length c7, .slice A8 h.f8.length c8] 30).alloc (.cells #[.int .u64 k] 26)).alloc (.cells #[.int .i64 0, .int .i64 0, .int .u64 0] 75)).alloc (.cells #[.int .i64 0] 32)))
  have hx := fun i => X.out.cell i
  have Y := Aside0.mk ((((Blk.at1 (w := w) (.cells #[.int .i64 h.f0, .int .u64 h.f1, .int .u64 h.f2, .int .u64 h.f3, .int .u64 h.f4, .slice A5 h.f5.length c5, .slice A6 h.f6.length c6, .slice A7 h.f7.length c7, .slice A8 h.f8.length c8] 30) #[.int .u64 k] 26).alloc (.cells #[.int .i64 0, .int .i64 0, .int .u64 0] 75)).alloc (.cells #[.int .i64 0] 32)))
  have hy := fun i => Y.out.cell i
  have R := Aside0.mk ((at3 w (.cells #[.int .i64 h.f0, .int .u64 h.f1, .int .u64 h.f2, .int .u64 h.f3, .int .u64 h.f4, .slice A5 h.f5.length c5, .slice A6 h.f6.length c6, .slice A7 h.f7.length c7, .slice A8 h.f8.length c8] 30) (.cells #[.int .u64 k] 26) #[.int .i64 0, .int .i64 0, .int .u64 0] 75).alloc (.cells #[.int .i64 0] 32))
  have hr := fun i => R.out.cell i
  have hrf := fun i => blk_frozen R.out i
  have S := Aside0.mk (at4 w (.cells #[.int .i64 h.f0, .int .u64 h.f1, .int .u64 h.f2, .int .u64 h.f3, .int .u64 h.f4, .slice A5 h.f5.length c5, .slice A6 h.f6.length c6, .slice A7 h.f7.length c7, .slice A8 h.f8.length c8] 30) (.cells #[.int .u64 k] 26) (.cells #[.int .i64 0, .int .i64 0, .int .u64 0] 75) #[.int .i64 0] 32)
  have hs := fun i => S.out.cell i
  have hsf := fun i => blk_frozen S.out i
  have B := Aside0.mk hal0
  have CK := Aside0.mk (check_c h hw)
  have WK := Aside0.mk (walk_c h hw)
  have HW := Aside0.mk hw
  clear hv hal0 hw
  unfold atR
  by_cases c1 : checkR h = 0
  rotate_left
  · rw [if_neg c1]
    generalize checkR h = ec at *
    have d1 : (ec != 0) = true := bne_iff_ne.2 c1
    clear c1 WK
    go_enter Try.func34, Try.ntmps34
    go_wp2_with (first | (go_at_call 19; (with_reducible refine (CK.out _ _ HV.out).mono ?_); rintro e W1 ⟨rfl, hb⟩; replace B := Aside0.mk (below_then B.out B.out.size hb); replace HV := Aside0.mk (HV.out.below hb); replace X := Aside0.mk (X.out.below hb); replace hx := fun i => X.out.cell i; replace Y := Aside0.mk (Y.out.below hb); replace hy := fun i => Y.out.cell i; replace R := Aside0.mk (R.out.below hb); replace hr := fun i => R.out.cell i; replace S := Aside0.mk (S.out.below hb); replace hs := fun i => S.out.cell i; replace hrf := fun i => blk_frozen R.out i; replace hsf := fun i => blk_frozen S.out i; have LOWA := Aside0.mk hb.size; clear hb))
    refine bodyPost_ret (results_ci rfl _ _ (w.heap.size + 1 + 1) (w.heap.size + 1 + 1 + 1) 75 #[_, _, _] (0, 0) _ .i64 (.int .i64 ec) rfl (blk_put_ne (three R.out _ _ _) (by omega) _) Try.underlying75 rfl (by kernel_rfl) rfl (cell_put1 S.out (by omega) _ _ _ _) Try.underlying32) rfl ?_
    exact ⟨rfl, (((B.out.setCell (by simp; omega) _).setCell (by simp; omega) _).setCell (by simp; omega) _).setCell (by simp; omega) _⟩
  rw [if_pos c1]
  rw [c1] at CK
  have HC := Aside0.mk c1
  clear c1
  by_cases c2 : 0 < k
  rotate_left
  · rw [if_neg c2]
    have d2 : decide (0 < k) = false := decide_eq_false c2
    go_enter Try.func34, Try.ntmps34
    go_wp2_with (first | (go_at_call 19; (with_reducible refine (CK.out _ _ HV.out).mono ?_); rintro e W1 ⟨rfl, hb⟩; replace B := Aside0.mk (below_then B.out B.out.size hb); replace HV := Aside0.mk (HV.out.below hb); replace X := Aside0.mk (X.out.below hb); replace hx := fun i => X.out.cell i; replace Y := Aside0.mk (Y.out.below hb); replace hy := fun i => Y.out.cell i; replace R := Aside0.mk (R.out.below hb); replace hr := fun i => R.out.cell i; replace S := Aside0.mk (S.out.below hb); replace hs := fun i => S.out.cell i; replace hrf := fun i => blk_frozen R.out i; replace hsf := fun i => blk_frozen S.out i; have LOWA := Aside0.mk hb.size; clear hb))
    refine bodyPost_ret (results_ci rfl _ _ (w.heap.size + 1 + 1) (w.heap.size + 1 + 1 + 1) 75 #[_, _, _] (0, 0) _ .i64 (.int .i64 11) rfl (blk_put_ne (three R.out _ _ _) (by omega) _) Try.underlying75 rfl (by kernel_rfl) rfl (cell_put1 S.out (by omega) _ _ _ _) Try.underlying32) rfl ?_
    exact ⟨rfl, (((B.out.setCell (by simp; omega) _).setCell (by simp; omega) _).setCell (by simp; omega) _).setCell (by simp; omega) _⟩
  rw [if_pos c2]
  generalize hans : (match findK (toldW h) k with | some b => ((b, 0) : Bk × Int) | none => (⟨0, 0, 0⟩, 11)) = ans
  have HANS := Aside0.mk hans
  clear hans
  have d2 : decide (0 < k) = true := decide_eq_true c2
  have C2 := Aside0.mk c2
  clear c2
  refine (callsIn_wide (n := 5)).1 ?_
  refine callsIn_of_wp_marks Try.func34 rfl trivial ?_ rfl
  simp only [Try.ntmps34, List.size_toArray, List.length_cons, List.length_nil, Nat.reduceAdd, Nat.reduceSub, Array.replicate_succ, Array.replicate_zero, List.push_toArray, List.append_toArray, List.nil_append, List.cons_append]
  refine wpIn_wide.2 ?_
  go_wp2_with (first | (go_at_call 19; (with_reducible refine (CK.out _ _ HV.out).mono ?_); rintro e W1 ⟨rfl, hb⟩; replace B := Aside0.mk (below_then B.out B.out.size hb); replace HV := Aside0.mk (HV.out.below hb); replace X := Aside0.mk (X.out.below hb); replace hx := fun i => X.out.cell i; replace Y := Aside0.mk (Y.out.below hb); replace hy := fun i => Y.out.cell i; replace R := Aside0.mk (R.out.below hb); replace hr := fun i => R.out.cell i; replace S := Aside0.mk (S.out.below hb); replace hs := fun i => S.out.cell i; replace hrf := fun i => blk_frozen R.out i; replace hsf := fun i => blk_frozen S.out i; have LOWA := Aside0.mk hb.size; clear hb) | (go_at_call 78; (with_reducible refine (WK.out _ _ HV.out).mono ?_); rintro e W2 ⟨bE, bN, bH, bP, rfl, hS, hb⟩; replace B := Aside0.mk (below_then B.out B.out.size hb); replace HV := Aside0.mk (HV.out.below hb); replace X := Aside0.mk (X.out.below hb); replace hx := fun i => X.out.cell i; replace Y := Aside0.mk (Y.out.below hb); replace hy := fun i => Y.out.cell i; replace R := Aside0.mk (R.out.below hb); replace hr := fun i => R.out.cell i; replace S := Aside0.mk (S.out.below hb); replace hs := fun i => S.out.cell i; replace hrf := fun i => blk_frozen R.out i; replace hsf := fun i => blk_frozen S.out i; have HS := Aside0.mk hS; have HB2 := Aside0.mk hb; clear hS hb))
  refine (wpIn_wide (n := 5)).1 ?_
  have hw1 : w.heap.size + 1 + 1 + 1 + 1 ≤ W1.heap.size := by have := LOWA.out; simpa using this
  have hw2 : W1.heap.size ≤ W2.heap.size := HB2.out.size
  have HR2 := Aside0.mk (R.out)
  have HY2 := Aside0.mk (Y.out)
  have HS2 := Aside0.mk (S.out)
  have HB0 := Aside0.mk B.out
  have HBA := Aside0.mk HS.out
  clear hx hy hr hs hrf hsf HB2 CK
  refine wpIn_rangeFunc_ownH rfl (by omega) (gf := 111) (lb := #[.pointer (some ⟨bE, 0, none⟩), .pointer (some ⟨bN, 0, none⟩), .pointer (some ⟨bH, 0, none⟩), .pointer (some ⟨bP, 0, none⟩)]) rfl trivial (enters_of Try.func111 (by kernel_rfl) rfl)
    (walk1_stops _ (by omega) W1.heap.size bE bN bH bP h HW.out W2 hw2 HS.out) KeepC.trans (fun W l o o' _ h hc _ => KeepC.put W l o o' h hc) (Below.refl _ _) (fun _ => rfl)
    (fun pre W => (findK (toldL h pre) k = none ∧ Blk W (w.heap.size + 1) #[.int .u64 (leftK (toldL h pre) k)] 26) ∧ (Blk W (w.heap.size + 1 + 1) #[.int .i64 0, .int .i64 0, .int .u64 0] 75 ∧ Blk W (w.heap.size + 1 + 1 + 1) #[.int .i64 0] 32) ∧ (Below w.heap.size w W ∧ W2.heap.size ≤ W.heap.size))
    (fun c pre W => c = .ret ∧ (∃ b, findK (toldL h pre) k = some b ∧ Blk W (w.heap.size + 1 + 1) (encB1 b) 75) ∧ Blk W (w.heap.size + 1 + 1 + 1) #[.int .i64 0] 32 ∧ (Below w.heap.size w W ∧ W2.heap.size ≤ W.heap.size))
    (fun s A B row ⟨⟨q1, q2⟩, ⟨q3, q4⟩, q5, q6⟩ hg hr => ⟨⟨q1, q2.grown hg hr⟩, ⟨q3.grown hg hr, q4.grown hg hr⟩, (ownFrom_below (Nat.le_refl _) (by omega)) s A B row q5 hg hr, Nat.le_trans q6 hg.size⟩)
    (fun c s A B row ⟨q0, ⟨b, q1, q2⟩, q4, q5, q6⟩ hg hr => ⟨q0, ⟨b, q1, q2.grown hg hr⟩, q4.grown hg hr, (ownFrom_below (Nat.le_refl _) (by omega)) s A B row q5 hg hr, Nat.le_trans q6 hg.size⟩)
    ⟨⟨rfl, HY2.out⟩, ⟨HR2.out, HS2.out⟩, HB0.out, Nat.le_refl _⟩
    (fun x a' W => ∃ b, a' = ({ tmps := #[.agg #[.int .i64 h.f0, .int .u64 h.f1, .int .u64 h.f2, .int .u64 h.f3, .int .u64 h.f4, .slice A5 h.f5.length c5, .slice A6 h.f6.length c6, .slice A7 h.f7.length c7, .slice A8 h.f8.length c8], .int .u64 k, .pointer (some ⟨w.heap.size, 0, none⟩), .pointer (some ⟨w.heap.size + 1, 0, none⟩), .pointer (some ⟨w.heap.size + 1 + 1, 0, none⟩), .pointer (some ⟨w.heap.size + 1 + 1 + 1, 0, none⟩), .int .i64 0, .pointer (some ⟨b, 0, none⟩), .agg #[.int .i64 h.f0, .int .u64 h.f1, .int .u64 h.f2, .int .u64 h.f3, .int .u64 h.f4, .slice A5 h.f5.length c5, .slice A6 h.f6.length c6, .slice A7 h.f7.length c7, .slice A8 h.f8.length c8], .int .i64 0, .int .i64 0, .bool false, undef, undef, .int .u64 k, .bool true, .agg #[.int .i64 h.f0, .int .u64 h.f1, .int .u64 h.f2, .int .u64 h.f3, .int .u64 h.f4, .slice A5 h.f5.length c5, .slice A6 h.f6.length c6, .slice A7 h.f7.length c7, .slice A8 h.f8.length c8], .func (.func 111) #[] #[.pointer (some ⟨bE, 0, none⟩), .pointer (some ⟨bN, 0, none⟩), .pointer (some ⟨bH, 0, none⟩), .pointer (some ⟨bP, 0, none⟩)], encB ((toldW h).get x), undef, undef, undef, undef, undef, undef, undef, undef, undef, undef], defers := [] } : Act) ∧ BlkF W b (encB1 ((toldW h).get x)) ∧ W2.heap.size ≤ b) (fun x a' s A B row ⟨b, e, hb, hge⟩ hg hr => ⟨b, e, hb.grown hg hr, hge⟩) ?assign ?body ?done ?stop
  case assign =>
    intro l pre x W K hI hK
    have HI_ := Aside0.mk hI
    have HK := Aside0.mk hK
    clear hI hK
    obtain ⟨y, hy⟩ : ∃ y, y = (toldW h).get x := ⟨_, rfl⟩
    have HY := Aside0.mk hy
    simp only [← hy]
    clear hy
    unfold encB
    gi_wp2
    have hbl := below_alloc (Below.refl W.heap.size W) (.cells (encB1 y) 75)
    obtain ⟨⟨q1, q2⟩, ⟨q3, q4⟩, q5, q6⟩ := HI_.out
    refine HK.out _ _ ((KeepsOthers.alloc W (.cells (encB1 y) 75)).from _) (KeepC.of_below hbl) ⟨⟨q1, q2.alloc _⟩, ⟨q3.alloc _, q4.alloc _⟩, below_then q5 q5.size hbl, Nat.le_trans q6 hbl.size⟩ ⟨W.heap.size, ?_, ?_, q6⟩
    · rw [← HY.out]; rfl
    · rw [← HY.out]; exact Blk.new W _ _
  case body =>
    rintro l pre x a' W hl hlr ⟨⟨q1, q2⟩, ⟨q3, q4⟩, q5, q6⟩ ⟨b, rfl, hb, hge⟩ hlt
    have hxin : (toldW h).get x ∈ toldW h := List.get_mem _ _
    obtain ⟨y, hy⟩ : ∃ y, y = (toldW h).get x := ⟨_, rfl⟩
    have HT := Aside0.mk (toldL_snoc h pre x)
    rw [← hy] at hb HT hxin
    simp only [← hy]
    clear hy
    have hfk := findK_app (toldL h pre) [y] k
    have hlk : leftK (toldL h pre ++ [y]) k = leftK (toldL h pre) k - y.n := by rw [leftK_sum, leftK_sum, sumB_snoc]; omega
    have hpos := findK_left (toldL h pre) k (fun b hb => by obtain ⟨i, _, rfl⟩ := List.mem_map.1 hb; exact (toldW_u64 HW.out _ (List.get_mem _ _)).1) C2.out q1
    rw [q1, ← HT.out] at hfk
    rw [← HT.out] at hlk
    simp only [findK] at hfk
    have hyu := toldW_u64 HW.out y hxin
    generalize leftK (toldL h pre) k = kl at *
    unfold encB
    have hc := fun i => Blk.cell q2 i
    have hcf := fun i => blk_frozen q2 i
    have hbc := fun i => Blk.cell hb i
    have hrc := fun i => Blk.cell q3 i
    have hrf := fun i => blk_frozen q3 i
    have hsc := fun i => Blk.cell q4 i
    have hsf := fun i => blk_frozen q4 i
    have K2 := Aside0.mk q2
    have K3 := Aside0.mk q3
    have K4 := Aside0.mk q4
    have K5 := Aside0.mk q5
    have K6 := Aside0.mk q6
    have HBB := Aside0.mk hb
    have HU := Aside0.mk hyu
    have HP := Aside0.mk hpos
    have HF := Aside0.mk hfk
    have HL := Aside0.mk hlk
    clear q1 q2 q3 q4 q5 q6 hb hl hlr hlt hyu hpos hfk hlk hxin
    unfold encB1 at hbc
    by_cases cc : kl ≤ y.n
    · have d3 : decide (kl ≤ y.n) = true := decide_eq_true cc
      have HC3 := Aside0.mk cc
      clear cc
      gi_wp2
      refine ⟨((((KeepsOthers.setCell _ _ _).trans (KeepsOthers.setCell _ _ _)).trans (KeepsOthers.setCell _ _ _)).trans (KeepsOthers.setCell _ _ _)).from _, rfl, ⟨y, ?_, blk_put_ne (three K3.out _ _ _) (by omega) _⟩, ?_, ?_, ?_⟩
      · rw [HF.out, if_pos HC3.out]
      · exact Boxed.set _ (blk_put_ne (j := 2) (blk_put_ne (j := 1) (blk_put_ne (j := 0) K4.out (by omega) _) (by omega) _) (by omega) _)
      · exact (((K5.out.setCell (by simp; omega) _).setCell (by simp; omega) _).setCell (by simp; omega) _).setCell (by simp; omega) _
      · have h6_ := K6.out; simpa [World.setCell] using h6_
    · have d3 : decide (kl ≤ y.n) = false := decide_eq_false cc
      have HC3 := Aside0.mk cc
      clear cc
      have hw_ : IntKind.u64.wrap (kl - y.n) = kl - y.n := by
        have h_ : IntKind.u64.wrap (kl - y.n) = (kl - y.n) % 18446744073709551616 := rfl
        have h1_ := HU.out; have h2_ := HP.out; have h3_ := HC3.out
        unfold u64 at hk h1_
        rw [h_]; omega
      gi_wp2
      refine ⟨(KeepsOthers.setCell _ _ _).from _, KeepC.setCell _ (by omega) _, ⟨?_, ?_⟩, ⟨blk_put_ne K3.out (by omega) _, blk_put_ne K4.out (by omega) _⟩, K5.out.setCell (by show w.heap.size ≤ w.heap.size + 1; omega) _, ?_⟩
      · rw [HF.out, if_neg (by have h3_ := HC3.out; omega)]
      · rw [HL.out]; exact Boxed.set _ K2.out
      · have h6_ := K6.out; simpa [World.setCell] using h6_
  case done =>
    rintro D xs W hD hS ⟨⟨q1, q2⟩, ⟨q3, q4⟩, q5, q6⟩ hK
    rw [toldL_all hS] at q1
    have hf : ans = (⟨0, 0, 0⟩, 11) := by rw [← HANS.out, q1]
    have HF := Aside0.mk hf
    clear hf
    have hrc := fun i => Blk.cell q3 i
    have hrf := fun i => blk_frozen q3 i
    have hsc := fun i => Blk.cell q4 i
    have hsf := fun i => blk_frozen q4 i
    have K3 := Aside0.mk q3
    have K4 := Aside0.mk q4
    have K5 := Aside0.mk q5
    have HK := Aside0.mk hK
    clear q1 q2 q3 q4 q5 q6 hK hS
    go_wp2
    refine ⟨by simp, .inl ⟨_, _, rfl, run_takeDeferred (blk_put_ne (blk_put_ne (j := 2) (blk_put_ne (j := 1) (blk_put_ne (j := 0) HK.out (by omega) _) (by omega) _) (by omega) _) (by omega) _), ?_⟩⟩
    refine ⟨_, results_ci rfl _ _ (w.heap.size + 1 + 1) (w.heap.size + 1 + 1 + 1) 75 #[_, _, _] (0, 0) _ .i64 (.int .i64 11) rfl (blk_putObj_ne (blk_put_ne (three K3.out _ _ _) (by omega) _) (by omega) _) Try.underlying75 rfl (by kernel_rfl) rfl (cell_putObj_ne (cell_put1 K4.out (by omega) _ _ _ _) (by omega) _) Try.underlying32, ?_, ?_⟩
    · rw [HF.out]; rfl
    · exact ((((K5.out.setCell (by simp; omega) _).setCell (by simp; omega) _).setCell (by simp; omega) _).setCell (by simp; omega) _).trans (below_putObj_hi _ _ trivial (by omega))
  case stop =>
    rintro D c pre W hD hS ⟨rfl, ⟨b, q1, q2⟩, q4, q5, q6⟩ hK
    have hf : findK (toldW h) k = some b := by
      rw [toldL_take hS] at q1
      rw [← List.take_append_drop pre.length (toldW h), findK_app, q1]
    have hf : ans = (b, 0) := by rw [← HANS.out, hf]
    have HF := Aside0.mk hf
    have K3 := Aside0.mk q2
    have K4 := Aside0.mk q4
    have K5 := Aside0.mk q5
    have HK := Aside0.mk hK
    clear q1 q2 q4 q5 q6 hK hS hf
    gi_wp2
    refine ⟨by simp, .inl ⟨_, _, rfl, run_takeDeferred HK.out, ?_⟩⟩
    refine ⟨_, results_ci rfl _ _ (w.heap.size + 1 + 1) (w.heap.size + 1 + 1 + 1) 75 (encB1 b) (0, 0) _ .i64 (.int .i64 0) rfl (blk_putObj_ne K3.out (by omega) _) Try.underlying75 rfl (by kernel_rfl) rfl (cell_putObj_ne ((Blk.cell K4.out 0).trans rfl) (by omega) _) Try.underlying32, ?_, ?_⟩
    · rw [HF.out]
    · exact K5.out.trans (below_putObj_hi _ _ trivial (by omega))
end Go.Proofs.Ytgkplhdcafbfbaa.P
namespace Go.Proofs.Ytgkplhdcafbfbaa.P
open Go.RowKit Go.Proofs.YtgkplhdcafbfbaaW.PrintWords Go.Proofs.YtgkplhdcafbfbaaW.PrintLast Go.Proofs.YtgkplhdcafbfbaaW.PrintMore
attribute [local go_sem] max2_int min2_int max_two min_two max_three min_three max_four min_four
def cmp_isNaN_int.f (a0 : Int) : Option (Bool) := some (a0 != a0)
set_option maxHeartbeats 8000000 in
set_option maxRecDepth 100000 in
theorem cmp_isNaN_int.calls (a0 : Int) (r : Bool) (w : World) (h : cmp_isNaN_int.f a0 = some r) :
  Calls Try.prog 138 #[.int .i64 a0] w fun e w' => e = .returned (.bool r) ∧ Drawn0 w w' := by
 have H : (some (a0 != a0)) = some r := h
 clear h
 obtain rfl := Option.some.inj H
 go_enter Try.func138, Try.ntmps138
 go_wp2
 go_ret
 exact ⟨by first | rfl | (simp; done) | (simp [*]; done), by repeat (first | exact Drawn0.refl _ | apply Drawn0.step)⟩
def cmp_Compare_int.f (a0 : Int) (a1 : Int) : Option (Int) := (cmp_isNaN_int.f a0).bind fun t101 => ((cmp_isNaN_int.f a1).bind fun t102 => (if t101 = true then (if t102 = true then (some 0) else (some (-1))) else (if t102 = true then (some 1) else (if a0 < a1 then (some (-1)) else (if a0 > a1 then (some 1) else (some 0))))))
set_option maxHeartbeats 8000000 in
set_option maxRecDepth 100000 in
theorem cmp_Compare_int.calls (a0 : Int) (a1 : Int) (r : Int) (w : World) (h : cmp_Compare_int.f a0 a1 = some r) :
  Calls Try.prog 128 #[.int .i64 a0, .int .i64 a1] w fun e w' => e = .returned (.int .i64 r) ∧ Drawn0 w w' := by
 have H : ((cmp_isNaN_int.f a0).bind fun t101 => ((cmp_isNaN_int.f a1).bind fun t102 => (if t101 = true then (if t102 = true then (some 0) else (some (-1))) else (if t102 = true then (some 1) else (if a0 < a1 then (some (-1)) else (if a0 > a1 then (some 1) else (some 0))))))) = some r := h
 clear h
 replace H := Option.bind_eq_some_iff.mp H
 obtain ⟨t101, A30, H⟩ := H
 replace H : ((cmp_isNaN_int.f a1).bind fun t102 => (if t101 = true then (if t102 = true then (some 0) else (some (-1))) else (if t102 = true then (some 1) else (if a0 < a1 then (some (-1)) else (if a0 > a1 then (some 1) else (some 0)))))) = some r := H
 have A3 := Aside0.mk A30
 clear A30
 replace H := Option.bind_eq_some_iff.mp H
 obtain ⟨t102, A40, H⟩ := H
 replace H : (if t101 = true then (if t102 = true then (some 0) else (some (-1))) else (if t102 = true then (some 1) else (if a0 < a1 then (some (-1)) else (if a0 > a1 then (some 1) else (some 0))))) = some r := H
 have A4 := Aside0.mk A40
 clear A40
 by_cases c5 : t101 = true
 ·subst c5
  have H1 : (if t102 = true then (some 0) else (some (-1))) = some r := by rw [if_pos rfl] at H; exact H
  clear H
  have H := H1
  clear H1
  by_cases c6 : t102 = true
  ·subst c6
   have H1 : (some 0) = some r := by rw [if_pos rfl] at H; exact H
   clear H
   have H := H1
   clear H1
   obtain rfl := Option.some.inj H
   go_enter Try.func128, Try.ntmps128
   go_wp2_with (first | ((with_reducible refine gate_callee (f := 138) rfl ?_); refine goesL_ (some 8) rfl rfl Try.func138 (by kernel_rfl) rfl #[.int .i64 a0] rfl (by (try simp only [List.map_toArray, List.map_cons, List.map_nil]); first | done | rfl | (simp only [List.length_drop, List.length_take]; rfl)) ?_; (with_reducible refine (cmp_isNaN_int.calls a0 true _ A3.out).mono ?_); rintro e w' ⟨rfl, ⟨nd, rfl⟩⟩; refine ⟨_, rfl, ?_⟩; clear A3) | ((with_reducible refine gate_callee (f := 138) rfl ?_); refine goesL_ (some 10) rfl rfl Try.func138 (by kernel_rfl) rfl #[.int .i64 a1] rfl (by (try simp only [List.map_toArray, List.map_cons, List.map_nil]); first | done | rfl | (simp only [List.length_drop, List.length_take]; rfl)) ?_; (with_reducible refine (cmp_isNaN_int.calls a1 true _ A4.out).mono ?_); rintro e w' ⟨rfl, ⟨nd, rfl⟩⟩; refine ⟨_, rfl, ?_⟩; clear A4))
   go_ret
   exact ⟨by first | rfl | (simp; done) | (simp [*]; done), by repeat (first | exact Drawn0.refl _ | apply Drawn0.step)⟩
  ·replace c6 := Bool.eq_false_iff.mpr c6
   subst c6
   have H1 : (some (-1)) = some r := by rw [if_neg (show ¬ (false = true) by decide)] at H; exact H
   clear H
   have H := H1
   clear H1
   obtain rfl := Option.some.inj H
   go_enter Try.func128, Try.ntmps128
   go_wp2_with (first | ((with_reducible refine gate_callee (f := 138) rfl ?_); refine goesL_ (some 8) rfl rfl Try.func138 (by kernel_rfl) rfl #[.int .i64 a0] rfl (by (try simp only [List.map_toArray, List.map_cons, List.map_nil]); first | done | rfl | (simp only [List.length_drop, List.length_take]; rfl)) ?_; (with_reducible refine (cmp_isNaN_int.calls a0 true _ A3.out).mono ?_); rintro e w' ⟨rfl, ⟨nd, rfl⟩⟩; refine ⟨_, rfl, ?_⟩; clear A3) | ((with_reducible refine gate_callee (f := 138) rfl ?_); refine goesL_ (some 10) rfl rfl Try.func138 (by kernel_rfl) rfl #[.int .i64 a1] rfl (by (try simp only [List.map_toArray, List.map_cons, List.map_nil]); first | done | rfl | (simp only [List.length_drop, List.length_take]; rfl)) ?_; (with_reducible refine (cmp_isNaN_int.calls a1 false _ A4.out).mono ?_); rintro e w' ⟨rfl, ⟨nd, rfl⟩⟩; refine ⟨_, rfl, ?_⟩; clear A4))
   go_ret
   exact ⟨by first | rfl | (simp; done) | (simp [*]; done), by repeat (first | exact Drawn0.refl _ | apply Drawn0.step)⟩
 ·replace c5 := Bool.eq_false_iff.mpr c5
  subst c5
  have H1 : (if t102 = true then (some 1) else (if a0 < a1 then (some (-1)) else (if a0 > a1 then (some 1) else (some 0)))) = some r := by rw [if_neg (show ¬ (false = true) by decide)] at H; exact H
  clear H
  have H := H1
  clear H1
  by_cases c7 : t102 = true
  ·subst c7
   have H1 : (some 1) = some r := by rw [if_pos rfl] at H; exact H
   clear H
   have H := H1
   clear H1
   obtain rfl := Option.some.inj H
   go_enter Try.func128, Try.ntmps128
   go_wp2_with (first | ((with_reducible refine gate_callee (f := 138) rfl ?_); refine goesL_ (some 8) rfl rfl Try.func138 (by kernel_rfl) rfl #[.int .i64 a0] rfl (by (try simp only [List.map_toArray, List.map_cons, List.map_nil]); first | done | rfl | (simp only [List.length_drop, List.length_take]; rfl)) ?_; (with_reducible refine (cmp_isNaN_int.calls a0 false _ A3.out).mono ?_); rintro e w' ⟨rfl, ⟨nd, rfl⟩⟩; refine ⟨_, rfl, ?_⟩; clear A3) | ((with_reducible refine gate_callee (f := 138) rfl ?_); refine goesL_ (some 10) rfl rfl Try.func138 (by kernel_rfl) rfl #[.int .i64 a1] rfl (by (try simp only [List.map_toArray, List.map_cons, List.map_nil]); first | done | rfl | (simp only [List.length_drop, List.length_take]; rfl)) ?_; (with_reducible refine (cmp_isNaN_int.calls a1 true _ A4.out).mono ?_); rintro e w' ⟨rfl, ⟨nd, rfl⟩⟩; refine ⟨_, rfl, ?_⟩; clear A4))
   go_ret
   exact ⟨by first | rfl | (simp; done) | (simp [*]; done), by repeat (first | exact Drawn0.refl _ | apply Drawn0.step)⟩
  ·replace c7 := Bool.eq_false_iff.mpr c7
   subst c7
   have H1 : (if a0 < a1 then (some (-1)) else (if a0 > a1 then (some 1) else (some 0))) = some r := by rw [if_neg (show ¬ (false = true) by decide)] at H; exact H
   clear H
   have H := H1
   clear H1
   by_cases c8 : a0 < a1
   ·rw [if_pos c8] at H
    have c8b0 : decide (a0 < a1) = true := decide_eq_true c8
    clear c8
    obtain rfl := Option.some.inj H
    go_enter Try.func128, Try.ntmps128
    go_wp2_with (first | ((with_reducible refine gate_callee (f := 138) rfl ?_); refine goesL_ (some 8) rfl rfl Try.func138 (by kernel_rfl) rfl #[.int .i64 a0] rfl (by (try simp only [List.map_toArray, List.map_cons, List.map_nil]); first | done | rfl | (simp only [List.length_drop, List.length_take]; rfl)) ?_; (with_reducible refine (cmp_isNaN_int.calls a0 false _ A3.out).mono ?_); rintro e w' ⟨rfl, ⟨nd, rfl⟩⟩; refine ⟨_, rfl, ?_⟩; clear A3) | ((with_reducible refine gate_callee (f := 138) rfl ?_); refine goesL_ (some 10) rfl rfl Try.func138 (by kernel_rfl) rfl #[.int .i64 a1] rfl (by (try simp only [List.map_toArray, List.map_cons, List.map_nil]); first | done | rfl | (simp only [List.length_drop, List.length_take]; rfl)) ?_; (with_reducible refine (cmp_isNaN_int.calls a1 false _ A4.out).mono ?_); rintro e w' ⟨rfl, ⟨nd, rfl⟩⟩; refine ⟨_, rfl, ?_⟩; clear A4))
    go_ret
    exact ⟨by first | rfl | (simp; done) | (simp [*]; done), by repeat (first | exact Drawn0.refl _ | apply Drawn0.step)⟩
   ·rw [if_neg c8] at H
    have c8b0 : decide (a0 < a1) = false := decide_eq_false c8
    clear c8
    by_cases c9 : a0 > a1
    ·rw [if_pos c9] at H
     have c9b0 : decide (a1 < a0) = true := decide_eq_true c9
     clear c9
     obtain rfl := Option.some.inj H
     go_enter Try.func128, Try.ntmps128
     go_wp2_with (first | ((with_reducible refine gate_callee (f := 138) rfl ?_); refine goesL_ (some 8) rfl rfl Try.func138 (by kernel_rfl) rfl #[.int .i64 a0] rfl (by (try simp only [List.map_toArray, List.map_cons, List.map_nil]); first | done | rfl | (simp only [List.length_drop, List.length_take]; rfl)) ?_; (with_reducible refine (cmp_isNaN_int.calls a0 false _ A3.out).mono ?_); rintro e w' ⟨rfl, ⟨nd, rfl⟩⟩; refine ⟨_, rfl, ?_⟩; clear A3) | ((with_reducible refine gate_callee (f := 138) rfl ?_); refine goesL_ (some 10) rfl rfl Try.func138 (by kernel_rfl) rfl #[.int .i64 a1] rfl (by (try simp only [List.map_toArray, List.map_cons, List.map_nil]); first | done | rfl | (simp only [List.length_drop, List.length_take]; rfl)) ?_; (with_reducible refine (cmp_isNaN_int.calls a1 false _ A4.out).mono ?_); rintro e w' ⟨rfl, ⟨nd, rfl⟩⟩; refine ⟨_, rfl, ?_⟩; clear A4))
     go_ret
     exact ⟨by first | rfl | (simp; done) | (simp [*]; done), by repeat (first | exact Drawn0.refl _ | apply Drawn0.step)⟩
    ·rw [if_neg c9] at H
     have c9b0 : decide (a1 < a0) = false := decide_eq_false c9
     clear c9
     obtain rfl := Option.some.inj H
     go_enter Try.func128, Try.ntmps128
     go_wp2_with (first | ((with_reducible refine gate_callee (f := 138) rfl ?_); refine goesL_ (some 8) rfl rfl Try.func138 (by kernel_rfl) rfl #[.int .i64 a0] rfl (by (try simp only [List.map_toArray, List.map_cons, List.map_nil]); first | done | rfl | (simp only [List.length_drop, List.length_take]; rfl)) ?_; (with_reducible refine (cmp_isNaN_int.calls a0 false _ A3.out).mono ?_); rintro e w' ⟨rfl, ⟨nd, rfl⟩⟩; refine ⟨_, rfl, ?_⟩; clear A3) | ((with_reducible refine gate_callee (f := 138) rfl ?_); refine goesL_ (some 10) rfl rfl Try.func138 (by kernel_rfl) rfl #[.int .i64 a1] rfl (by (try simp only [List.map_toArray, List.map_cons, List.map_nil]); first | done | rfl | (simp only [List.length_drop, List.length_take]; rfl)) ?_; (with_reducible refine (cmp_isNaN_int.calls a1 false _ A4.out).mono ?_); rintro e w' ⟨rfl, ⟨nd, rfl⟩⟩; refine ⟨_, rfl, ?_⟩; clear A4))
     go_ret
     exact ⟨by first | rfl | (simp; done) | (simp [*]; done), by repeat (first | exact Drawn0.refl _ | apply Drawn0.step)⟩
def rank_third.f (a0 : Int) : Option (Int) := if a0 = 1 then (some 0) else (if a0 = 2 then (some 1) else (some 2))
set_option maxHeartbeats 8000000 in
set_option maxRecDepth 100000 in
theorem rank_third.calls (a0 : Int) (r : Int) (w : World) (h : rank_third.f a0 = some r) :
  Calls Try.prog 129 #[.int .i64 a0] w fun e w' => e = .returned (.int .i64 r) ∧ Drawn0 w w' := by
 have H : (if a0 = 1 then (some 0) else (if a0 = 2 then (some 1) else (some 2))) = some r := h
 clear h
 by_cases c2 : a0 = 1
 ·rw [if_pos c2] at H
  have c2b0 : (a0 == 1) = true := beq_iff_eq.mpr c2
  have c2b1 : (a0 != 1) = false := bne_eq_false_iff_eq.mpr c2
  clear c2
  obtain rfl := Option.some.inj H
  go_enter Try.func129, Try.ntmps129
  go_wp2
  go_ret
  exact ⟨by first | rfl | (simp; done) | (simp [*]; done), by repeat (first | exact Drawn0.refl _ | apply Drawn0.step)⟩
 ·rw [if_neg c2] at H
  have c2b0 : (a0 == 1) = false := beq_eq_false_iff_ne.mpr c2
  have c2b1 : (a0 != 1) = true := bne_iff_ne.mpr c2
  by_cases c3 : a0 = 2
  ·rw [if_pos c3] at H
   have c3b0 : (a0 == 2) = true := beq_iff_eq.mpr c3
   have c3b1 : (a0 != 2) = false := bne_eq_false_iff_eq.mpr c3
   clear c3
   obtain rfl := Option.some.inj H
   go_enter Try.func129, Try.ntmps129
   go_wp2
   go_ret
   exact ⟨by first | rfl | (simp; done) | (simp [*]; done), by repeat (first | exact Drawn0.refl _ | apply Drawn0.step)⟩
  ·rw [if_neg c3] at H
   have c3b0 : (a0 == 2) = false := beq_eq_false_iff_ne.mpr c3
   have c3b1 : (a0 != 2) = true := bne_iff_ne.mpr c3
   obtain rfl := Option.some.inj H
   go_enter Try.func129, Try.ntmps129
   go_wp2
   go_ret
   exact ⟨by first | rfl | (simp; done) | (simp [*]; done), by repeat (first | exact Drawn0.refl _ | apply Drawn0.step)⟩
def rank_behind.f (a0_0 : Int) (a0_1 : Int) (a0_2 : Int) (a1 : Int) (a2 : Int) : Option (Bool) := (rank_third.f a0_0).bind fun t102 => ((rank_third.f a1).bind fun t103 => ((cmp_Compare_int.f t102 t103).bind fun t104 => (if t104 = 0 then (if a1 = 1 then (some (decide (a0_1 < a2))) else (if a1 = 0 then (some (decide (a0_1 > a2))) else (some false))) else (some (decide (t104 > 0))))))
set_option maxHeartbeats 8000000 in
set_option maxRecDepth 100000 in
theorem rank_behind.calls (a0_0 : Int) (a0_1 : Int) (a0_2 : Int) (a1 : Int) (a2 : Int) (r : Bool) (w : World) (h : rank_behind.f a0_0 a0_1 a0_2 a1 a2 = some r) :
  Calls Try.prog 107 #[.agg #[.int .i64 a0_0, .int .i64 a0_1, .int .u64 a0_2], .int .i64 a1, .int .i64 a2] w fun e w' => e = .returned (.bool r) ∧ Below w.heap.size w w' := by
 have hu75 := Try.underlying75
 have HB := Aside0.mk (Below.refl w.heap.size w)
 have H : ((rank_third.f a0_0).bind fun t102 => ((rank_third.f a1).bind fun t103 => ((cmp_Compare_int.f t102 t103).bind fun t104 => (if t104 = 0 then (if a1 = 1 then (some (decide (a0_1 < a2))) else (if a1 = 0 then (some (decide (a0_1 > a2))) else (some false))) else (some (decide (t104 > 0))))))) = some r := h
 clear h
 replace H := Option.bind_eq_some_iff.mp H
 obtain ⟨t102, A40, H⟩ := H
 replace H : ((rank_third.f a1).bind fun t103 => ((cmp_Compare_int.f t102 t103).bind fun t104 => (if t104 = 0 then (if a1 = 1 then (some (decide (a0_1 < a2))) else (if a1 = 0 then (some (decide (a0_1 > a2))) else (some false))) else (some (decide (t104 > 0)))))) = some r := H
 have A4 := Aside0.mk A40
 clear A40
 replace H := Option.bind_eq_some_iff.mp H
 obtain ⟨t103, A50, H⟩ := H
 replace H : ((cmp_Compare_int.f t102 t103).bind fun t104 => (if t104 = 0 then (if a1 = 1 then (some (decide (a0_1 < a2))) else (if a1 = 0 then (some (decide (a0_1 > a2))) else (some false))) else (some (decide (t104 > 0))))) = some r := H
 have A5 := Aside0.mk A50
 clear A50
 replace H := Option.bind_eq_some_iff.mp H
 obtain ⟨t104, A60, H⟩ := H
 replace H : (if t104 = 0 then (if a1 = 1 then (some (decide (a0_1 < a2))) else (if a1 = 0 then (some (decide (a0_1 > a2))) else (some false))) else (some (decide (t104 > 0)))) = some r := H
 have A6 := Aside0.mk A60
 clear A60
 by_cases c7 : t104 = 0
 ·rw [if_pos c7] at H
  have c7b0 : (t104 == 0) = true := beq_iff_eq.mpr c7
  have c7b1 : (t104 != 0) = false := bne_eq_false_iff_eq.mpr c7
  clear c7
  by_cases c8 : a1 = 1
  ·rw [if_pos c8] at H
   have c8b0 : (a1 == 1) = true := beq_iff_eq.mpr c8
   have c8b1 : (a1 != 1) = false := bne_eq_false_iff_eq.mpr c8
   clear c8
   obtain rfl := Option.some.inj H
   go_enter Try.func107, Try.ntmps107
   go_wp2_with (first | ((with_reducible refine gate_dst (N := 3) rfl ?_); refine box_event ?hg (N := 3) ?hd (cs := #[.int .i64 a0_0, .int .i64 a0_1, .int .u64 a0_2]) (t := 75) ?hr ?_; (case hd => rfl); (case hg => rfl); (case hr => first | (go_simp; done) | (go_simp; rfl)); intro gb101 hg w9 hbox hb; have n0_ := Aside0.mk (below_step (by repeat (first | (with_reducible first | exact HB.out | apply below_alloc | apply pw_below_drewN | apply below_drew1) | exact HB.out)) hb); have n1_ := Aside0.mk (hbox); have n2_ := Aside0.mk ((by rw [hg]; exact (below_size (by repeat (first | (with_reducible first | exact HB.out | apply below_alloc | apply pw_below_drewN | apply below_drew1) | exact HB.out))) : w.heap.size ≤ gb101)); have n3_ := Aside0.mk ((by rw [hg]; exact (below_size (by repeat (first | (with_reducible first | exact HB.out | apply below_alloc | apply pw_below_drewN | apply below_drew1) | exact HB.out))) : w.heap.size ≤ gb101)); clear HB; have HB := n0_; have BK101 := n1_; have GW101 := n2_; have GE101 := n3_; clear n0_ n1_ n2_ n3_; clear hb hbox hg; have hcz10_0 : w9.cell? ⟨gb101, 0, none⟩ = some (.int .i64 a0_0) := (blk_cell BK101.out 0).trans rfl; have hcz10_1 : w9.cell? ⟨gb101, 1, none⟩ = some (.int .i64 a0_1) := (blk_cell BK101.out 1).trans rfl; have hcz10_2 : w9.cell? ⟨gb101, 2, none⟩ = some (.int .u64 a0_2) := (blk_cell BK101.out 2).trans rfl; have hfz10_0 := blk_frozen BK101.out 0; have hfz10_1 := blk_frozen BK101.out 1; have hfz10_2 := blk_frozen BK101.out 2) | ((with_reducible refine gate_callee (f := 129) rfl ?_); refine goesL_ (some 10) rfl rfl Try.func129 (by kernel_rfl) rfl #[.int .i64 a0_0] rfl (by (try simp only [List.map_toArray, List.map_cons, List.map_nil]); first | done | rfl | (simp only [List.length_drop, List.length_take]; rfl)) ?_; (with_reducible refine (rank_third.calls a0_0 t102 _ A4.out).mono ?_); rintro e w' ⟨rfl, ⟨nd, rfl⟩⟩; refine ⟨_, rfl, ?_⟩; clear A4) | ((with_reducible refine gate_callee (f := 129) rfl ?_); refine goesL_ (some 12) rfl rfl Try.func129 (by kernel_rfl) rfl #[.int .i64 a1] rfl (by (try simp only [List.map_toArray, List.map_cons, List.map_nil]); first | done | rfl | (simp only [List.length_drop, List.length_take]; rfl)) ?_; (with_reducible refine (rank_third.calls a1 t103 _ A5.out).mono ?_); rintro e w' ⟨rfl, ⟨nd, rfl⟩⟩; refine ⟨_, rfl, ?_⟩; clear A5) | ((with_reducible refine gate_callee (f := 128) rfl ?_); refine goesL_ (some 13) rfl rfl Try.func128 (by kernel_rfl) rfl #[.int .i64 t102, .int .i64 t103] rfl (by (try simp only [List.map_toArray, List.map_cons, List.map_nil]); first | done | rfl | (simp only [List.length_drop, List.length_take]; rfl)) ?_; (with_reducible refine (cmp_Compare_int.calls t102 t103 t104 _ A6.out).mono ?_); rintro e w' ⟨rfl, ⟨nd, rfl⟩⟩; refine ⟨_, rfl, ?_⟩; clear A6))
   go_ret
   exact ⟨by first | rfl | (simp [errW_none, errW_some] <;> rfl) | (simp [*, errW_none, errW_some] <;> rfl), by repeat (first | (with_reducible first | exact HB.out | apply below_alloc | apply pw_below_drewN | apply below_drew1 | refine below_set ?_ GE101.out) | exact HB.out)⟩
  ·rw [if_neg c8] at H
   have c8b0 : (a1 == 1) = false := beq_eq_false_iff_ne.mpr c8
   have c8b1 : (a1 != 1) = true := bne_iff_ne.mpr c8
   by_cases c11 : a1 = 0
   ·rw [if_pos c11] at H
    have c11b0 : (a1 == 0) = true := beq_iff_eq.mpr c11
    have c11b1 : (a1 != 0) = false := bne_eq_false_iff_eq.mpr c11
    clear c11
    obtain rfl := Option.some.inj H
    go_enter Try.func107, Try.ntmps107
    go_wp2_with (first | ((with_reducible refine gate_dst (N := 3) rfl ?_); refine box_event ?hg (N := 3) ?hd (cs := #[.int .i64 a0_0, .int .i64 a0_1, .int .u64 a0_2]) (t := 75) ?hr ?_; (case hd => rfl); (case hg => rfl); (case hr => first | (go_simp; done) | (go_simp; rfl)); intro gb101 hg w12 hbox hb; have n0_ := Aside0.mk (below_step (by repeat (first | (with_reducible first | exact HB.out | apply below_alloc | apply pw_below_drewN | apply below_drew1) | exact HB.out)) hb); have n1_ := Aside0.mk (hbox); have n2_ := Aside0.mk ((by rw [hg]; exact (below_size (by repeat (first | (with_reducible first | exact HB.out | apply below_alloc | apply pw_below_drewN | apply below_drew1) | exact HB.out))) : w.heap.size ≤ gb101)); have n3_ := Aside0.mk ((by rw [hg]; exact (below_size (by repeat (first | (with_reducible first | exact HB.out | apply below_alloc | apply pw_below_drewN | apply below_drew1) | exact HB.out))) : w.heap.size ≤ gb101)); clear HB; have HB := n0_; have BK101 := n1_; have GW101 := n2_; have GE101 := n3_; clear n0_ n1_ n2_ n3_; clear hb hbox hg; have hcz13_0 : w12.cell? ⟨gb101, 0, none⟩ = some (.int .i64 a0_0) := (blk_cell BK101.out 0).trans rfl; have hcz13_1 : w12.cell? ⟨gb101, 1, none⟩ = some (.int .i64 a0_1) := (blk_cell BK101.out 1).trans rfl; have hcz13_2 : w12.cell? ⟨gb101, 2, none⟩ = some (.int .u64 a0_2) := (blk_cell BK101.out 2).trans rfl; have hfz13_0 := blk_frozen BK101.out 0; have hfz13_1 := blk_frozen BK101.out 1; have hfz13_2 := blk_frozen BK101.out 2) | ((with_reducible refine gate_callee (f := 129) rfl ?_); refine goesL_ (some 10) rfl rfl Try.func129 (by kernel_rfl) rfl #[.int .i64 a0_0] rfl (by (try simp only [List.map_toArray, List.map_cons, List.map_nil]); first | done | rfl | (simp only [List.length_drop, List.length_take]; rfl)) ?_; (with_reducible refine (rank_third.calls a0_0 t102 _ A4.out).mono ?_); rintro e w' ⟨rfl, ⟨nd, rfl⟩⟩; refine ⟨_, rfl, ?_⟩; clear A4) | ((with_reducible refine gate_callee (f := 129) rfl ?_); refine goesL_ (some 12) rfl rfl Try.func129 (by kernel_rfl) rfl #[.int .i64 a1] rfl (by (try simp only [List.map_toArray, List.map_cons, List.map_nil]); first | done | rfl | (simp only [List.length_drop, List.length_take]; rfl)) ?_; (with_reducible refine (rank_third.calls a1 t103 _ A5.out).mono ?_); rintro e w' ⟨rfl, ⟨nd, rfl⟩⟩; refine ⟨_, rfl, ?_⟩; clear A5) | ((with_reducible refine gate_callee (f := 128) rfl ?_); refine goesL_ (some 13) rfl rfl Try.func128 (by kernel_rfl) rfl #[.int .i64 t102, .int .i64 t103] rfl (by (try simp only [List.map_toArray, List.map_cons, List.map_nil]); first | done | rfl | (simp only [List.length_drop, List.length_take]; rfl)) ?_; (with_reducible refine (cmp_Compare_int.calls t102 t103 t104 _ A6.out).mono ?_); rintro e w' ⟨rfl, ⟨nd, rfl⟩⟩; refine ⟨_, rfl, ?_⟩; clear A6))
    go_ret
    exact ⟨by first | rfl | (simp [errW_none, errW_some] <;> rfl) | (simp [*, errW_none, errW_some] <;> rfl), by repeat (first | (with_reducible first | exact HB.out | apply below_alloc | apply pw_below_drewN | apply below_drew1 | refine below_set ?_ GE101.out) | exact HB.out)⟩
   ·rw [if_neg c11] at H
    have c11b0 : (a1 == 0) = false := beq_eq_false_iff_ne.mpr c11
    have c11b1 : (a1 != 0) = true := bne_iff_ne.mpr c11
    obtain rfl := Option.some.inj H
    go_enter Try.func107, Try.ntmps107
    go_wp2_with (first | ((with_reducible refine gate_dst (N := 3) rfl ?_); refine box_event ?hg (N := 3) ?hd (cs := #[.int .i64 a0_0, .int .i64 a0_1, .int .u64 a0_2]) (t := 75) ?hr ?_; (case hd => rfl); (case hg => rfl); (case hr => first | (go_simp; done) | (go_simp; rfl)); intro gb101 hg w14 hbox hb; have n0_ := Aside0.mk (below_step (by repeat (first | (with_reducible first | exact HB.out | apply below_alloc | apply pw_below_drewN | apply below_drew1) | exact HB.out)) hb); have n1_ := Aside0.mk (hbox); have n2_ := Aside0.mk ((by rw [hg]; exact (below_size (by repeat (first | (with_reducible first | exact HB.out | apply below_alloc | apply pw_below_drewN | apply below_drew1) | exact HB.out))) : w.heap.size ≤ gb101)); have n3_ := Aside0.mk ((by rw [hg]; exact (below_size (by repeat (first | (with_reducible first | exact HB.out | apply below_alloc | apply pw_below_drewN | apply below_drew1) | exact HB.out))) : w.heap.size ≤ gb101)); clear HB; have HB := n0_; have BK101 := n1_; have GW101 := n2_; have GE101 := n3_; clear n0_ n1_ n2_ n3_; clear hb hbox hg; have hcz15_0 : w14.cell? ⟨gb101, 0, none⟩ = some (.int .i64 a0_0) := (blk_cell BK101.out 0).trans rfl; have hcz15_1 : w14.cell? ⟨gb101, 1, none⟩ = some (.int .i64 a0_1) := (blk_cell BK101.out 1).trans rfl; have hcz15_2 : w14.cell? ⟨gb101, 2, none⟩ = some (.int .u64 a0_2) := (blk_cell BK101.out 2).trans rfl; have hfz15_0 := blk_frozen BK101.out 0; have hfz15_1 := blk_frozen BK101.out 1; have hfz15_2 := blk_frozen BK101.out 2) | ((with_reducible refine gate_callee (f := 129) rfl ?_); refine goesL_ (some 10) rfl rfl Try.func129 (by kernel_rfl) rfl #[.int .i64 a0_0] rfl (by (try simp only [List.map_toArray, List.map_cons, List.map_nil]); first | done | rfl | (simp only [List.length_drop, List.length_take]; rfl)) ?_; (with_reducible refine (rank_third.calls a0_0 t102 _ A4.out).mono ?_); rintro e w' ⟨rfl, ⟨nd, rfl⟩⟩; refine ⟨_, rfl, ?_⟩; clear A4) | ((with_reducible refine gate_callee (f := 129) rfl ?_); refine goesL_ (some 12) rfl rfl Try.func129 (by kernel_rfl) rfl #[.int .i64 a1] rfl (by (try simp only [List.map_toArray, List.map_cons, List.map_nil]); first | done | rfl | (simp only [List.length_drop, List.length_take]; rfl)) ?_; (with_reducible refine (rank_third.calls a1 t103 _ A5.out).mono ?_); rintro e w' ⟨rfl, ⟨nd, rfl⟩⟩; refine ⟨_, rfl, ?_⟩; clear A5) | ((with_reducible refine gate_callee (f := 128) rfl ?_); refine goesL_ (some 13) rfl rfl Try.func128 (by kernel_rfl) rfl #[.int .i64 t102, .int .i64 t103] rfl (by (try simp only [List.map_toArray, List.map_cons, List.map_nil]); first | done | rfl | (simp only [List.length_drop, List.length_take]; rfl)) ?_; (with_reducible refine (cmp_Compare_int.calls t102 t103 t104 _ A6.out).mono ?_); rintro e w' ⟨rfl, ⟨nd, rfl⟩⟩; refine ⟨_, rfl, ?_⟩; clear A6))
    go_ret
    exact ⟨by first | rfl | (simp [errW_none, errW_some] <;> rfl) | (simp [*, errW_none, errW_some] <;> rfl), by repeat (first | (with_reducible first | exact HB.out | apply below_alloc | apply pw_below_drewN | apply below_drew1 | refine below_set ?_ GE101.out) | exact HB.out)⟩
 ·rw [if_neg c7] at H
  have c7b0 : (t104 == 0) = false := beq_eq_false_iff_ne.mpr c7
  have c7b1 : (t104 != 0) = true := bne_iff_ne.mpr c7
  obtain rfl := Option.some.inj H
  go_enter Try.func107, Try.ntmps107
  go_wp2_with (first | ((with_reducible refine gate_dst (N := 3) rfl ?_); refine box_event ?hg (N := 3) ?hd (cs := #[.int .i64 a0_0, .int .i64 a0_1, .int .u64 a0_2]) (t := 75) ?hr ?_; (case hd => rfl); (case hg => rfl); (case hr => first | (go_simp; done) | (go_simp; rfl)); intro gb101 hg w16 hbox hb; have n0_ := Aside0.mk (below_step (by repeat (first | (with_reducible first | exact HB.out | apply below_alloc | apply pw_below_drewN | apply below_drew1) | exact HB.out)) hb); have n1_ := Aside0.mk (hbox); have n2_ := Aside0.mk ((by rw [hg]; exact (below_size (by repeat (first | (with_reducible first | exact HB.out | apply below_alloc | apply pw_below_drewN | apply below_drew1) | exact HB.out))) : w.heap.size ≤ gb101)); have n3_ := Aside0.mk ((by rw [hg]; exact (below_size (by repeat (first | (with_reducible first | exact HB.out | apply below_alloc | apply pw_below_drewN | apply below_drew1) | exact HB.out))) : w.heap.size ≤ gb101)); clear HB; have HB := n0_; have BK101 := n1_; have GW101 := n2_; have GE101 := n3_; clear n0_ n1_ n2_ n3_; clear hb hbox hg; have hcz17_0 : w16.cell? ⟨gb101, 0, none⟩ = some (.int .i64 a0_0) := (blk_cell BK101.out 0).trans rfl; have hcz17_1 : w16.cell? ⟨gb101, 1, none⟩ = some (.int .i64 a0_1) := (blk_cell BK101.out 1).trans rfl; have hcz17_2 : w16.cell? ⟨gb101, 2, none⟩ = some (.int .u64 a0_2) := (blk_cell BK101.out 2).trans rfl; have hfz17_0 := blk_frozen BK101.out 0; have hfz17_1 := blk_frozen BK101.out 1; have hfz17_2 := blk_frozen BK101.out 2) | ((with_reducible refine gate_callee (f := 129) rfl ?_); refine goesL_ (some 10) rfl rfl Try.func129 (by kernel_rfl) rfl #[.int .i64 a0_0] rfl (by (try simp only [List.map_toArray, List.map_cons, List.map_nil]); first | done | rfl | (simp only [List.length_drop, List.length_take]; rfl)) ?_; (with_reducible refine (rank_third.calls a0_0 t102 _ A4.out).mono ?_); rintro e w' ⟨rfl, ⟨nd, rfl⟩⟩; refine ⟨_, rfl, ?_⟩; clear A4) | ((with_reducible refine gate_callee (f := 129) rfl ?_); refine goesL_ (some 12) rfl rfl Try.func129 (by kernel_rfl) rfl #[.int .i64 a1] rfl (by (try simp only [List.map_toArray, List.map_cons, List.map_nil]); first | done | rfl | (simp only [List.length_drop, List.length_take]; rfl)) ?_; (with_reducible refine (rank_third.calls a1 t103 _ A5.out).mono ?_); rintro e w' ⟨rfl, ⟨nd, rfl⟩⟩; refine ⟨_, rfl, ?_⟩; clear A5) | ((with_reducible refine gate_callee (f := 128) rfl ?_); refine goesL_ (some 13) rfl rfl Try.func128 (by kernel_rfl) rfl #[.int .i64 t102, .int .i64 t103] rfl (by (try simp only [List.map_toArray, List.map_cons, List.map_nil]); first | done | rfl | (simp only [List.length_drop, List.length_take]; rfl)) ?_; (with_reducible refine (cmp_Compare_int.calls t102 t103 t104 _ A6.out).mono ?_); rintro e w' ⟨rfl, ⟨nd, rfl⟩⟩; refine ⟨_, rfl, ?_⟩; clear A6))
  go_ret
  exact ⟨by first | rfl | (simp [errW_none, errW_some] <;> rfl) | (simp [*, errW_none, errW_some] <;> rfl), by repeat (first | (with_reducible first | exact HB.out | apply below_alloc | apply pw_below_drewN | apply below_drew1 | refine below_set ?_ GE101.out) | exact HB.out)⟩
end Go.Proofs.Ytgkplhdcafbfbaa.P
namespace Go.Proofs.Ytgkplhdcafbfbaa.P
open Go.RowKit Go.Shelf Go.Proofs.YtgkplhdcafbfbaaW.PrintWords Go.Proofs.YtgkplhdcafbfbaaW.PrintLast Go.Proofs.YtgkplhdcafbfbaaW.PrintMore
attribute [local go_sem] Oper.semAt_some
def thirdI (s : Int) : Int := if s = 1 then 0 else if s = 2 then 1 else 2
def behindB (b : Bk) (side place : Int) : Bool := if thirdI b.s = thirdI side then (if side = 1 then decide (b.p < place) else if side = 0 then decide (b.p > place) else false) else decide (thirdI b.s > thirdI side)
theorem third_eq (s : Int) : rank_third.f s = some (thirdI s) := by
  unfold rank_third.f thirdI
  by_cases h : s = 1
  · rw [if_pos h, if_pos h]
  · rw [if_neg h, if_neg h]
    by_cases k : s = 2
    · rw [if_pos k, if_pos k]
    · rw [if_neg k, if_neg k]
theorem behind_eq (b : Bk) (side place : Int) : rank_behind.f b.s b.p b.n side place = some (behindB b side place) := by
  unfold rank_behind.f behindB
  rw [third_eq, third_eq]
  simp only [Option.bind_some]
  have hc : cmp_Compare_int.f (thirdI b.s) (thirdI side) = some (if thirdI b.s < thirdI side then -1 else if thirdI b.s > thirdI side then 1 else 0) := by
    unfold cmp_Compare_int.f
    simp [cmp_isNaN_int.f]
    by_cases h1 : thirdI b.s < thirdI side
    · rw [if_pos h1, if_pos h1]
    · rw [if_neg h1, if_neg h1]
      by_cases h2 : thirdI side < thirdI b.s
      · rw [if_pos h2, if_pos h2]
      · rw [if_neg h2, if_neg h2]
  rw [hc]
  simp only [Option.bind_some]
  by_cases h1 : thirdI b.s < thirdI side
  · have e : ¬ thirdI b.s = thirdI side := by omega
    have e2 : ¬ thirdI side < thirdI b.s := by omega
    simp [h1, e, e2]
  · by_cases h2 : thirdI side < thirdI b.s
    · have e : ¬ thirdI b.s = thirdI side := by omega
      simp [h1, e, h2]
    · have e : thirdI b.s = thirdI side := by omega
      simp only [e, Int.lt_irrefl, gt_iff_lt, if_false, if_true]
      by_cases k1 : side = 1
      · rw [if_pos k1, if_pos k1]
      · rw [if_neg k1, if_neg k1]
        by_cases k2 : side = 0
        · rw [if_pos k2, if_pos k2]
        · rw [if_neg k2, if_neg k2]
theorem takeWhile_all {α : Type} {p : α → Bool} : ∀ {l : List α}, (∀ b ∈ l, p b = true) → l.takeWhile p = l
  | [], _ => rfl
  | b :: l, h => by rw [List.takeWhile_cons, if_pos (h b (List.mem_cons_self ..)), takeWhile_all (fun x hx => h x (List.mem_cons_of_mem _ hx))]
theorem takeWhile_stop {α : Type} {p : α → Bool} : ∀ {l : List α} {x : α} {r : List α}, (∀ b ∈ l, p b = true) → p x = false → (l ++ x :: r).takeWhile p = l
  | [], x, r, _, h => by rw [List.nil_append, List.takeWhile_cons, if_neg (by rw [h]; decide)]
  | b :: l, x, r, h, h2 => by rw [List.cons_append, List.takeWhile_cons, if_pos (h b (List.mem_cons_self ..)), takeWhile_stop (fun x hx => h x (List.mem_cons_of_mem _ hx)) h2]
def belowR (h : Hi) (side place : Int) : Int × Int := if checkR h = 0 then (if side < 0 ∨ side > 2 then (0, 11) else (IntKind.u64.wrap (sumB ((toldW h).takeWhile (fun b => !behindB b side place))), 0)) else (0, checkR h)
set_option maxHeartbeats 8000000 in
set_option maxRecDepth 100000 in
theorem below_c (h : Hi) (hw : wfH h) (side place : Int) (w : World) (v : Value) (hv : HI w v h) : Calls Try.prog 75 #[v, .int .i64 side, .int .i64 place] w fun e w' =>
    e = .returned (.tuple #[.int .u64 (belowR h side place).1, .int .i64 (belowR h side place).2]) ∧ Below w.heap.size w w' := by
  have hud := Try.underlying30
  have hub := Try.underlying75
  obtain ⟨A5, c5, A6, c6, A7, c7, A8, c8, e, -⟩ := hv.open_
  subst e
  have hal0 := below_alloc (below_alloc (below_alloc (Below.refl w.heap.size w) (.cells #[.int .i64 h.f0, .int .u64 h.f1, .int .u64 h.f2, .int .u64 h.f3, .int .u64 h.f4, .slice A5 h.f5.length c5, .slice A6 h.f6.length c6, .slice A7 h.f7.length c7, .slice A8 h.f8.length c8] 30)) (.cells #[.int .i64 side] 3)) (.cells #[.int .i64 place] 3)
  have HV := Aside0.mk (hv.below hal0)
  have X := Aside0.mk ((((Blk.new w #[.int .i64 h.f0, .int .u64 h.f1, .int .u64 h.f2, .int .u64 h.f3, .int .u64 h.f4, .slice A5 h.f5.length c5, .slice A6 h.f6.length c6, .slice A7 h.f7.length c7, .slice A8 h.f8.length c8] 30).alloc (.cells #[.int .i64 side] 3)).alloc (.cells #[.int .i64 place] 3)))
  have hx := fun i => X.out.cell i
  have Y := Aside0.mk ((Blk.at1 (w := w) (.cells #[.int .i64 h.f0, .int .u64 h.f1, .int .u64 h.f2, .int .u64 h.f3, .int .u64 h.f4, .slice A5 h.f5.length c5, .slice A6 h.f6.length c6, .slice A7 h.f7.length c7, .slice A8 h.f8.length c8] 30) #[.int .i64 side] 3).alloc (.cells #[.int .i64 place] 3))
  have hy := fun i => Y.out.cell i
  have Z := Aside0.mk (at3 w (.cells #[.int .i64 h.f0, .int .u64 h.f1, .int .u64 h.f2, .int .u64 h.f3, .int .u64 h.f4, .slice A5 h.f5.length c5, .slice A6 h.f6.length c6, .slice A7 h.f7.length c7, .slice A8 h.f8.length c8] 30) (.cells #[.int .i64 side] 3) #[.int .i64 place] 3)
  have hz := fun i => Z.out.cell i
  have B := Aside0.mk hal0
  have CK := Aside0.mk (check_c h hw)
  have WK := Aside0.mk (walk_c h hw)
  have HW := Aside0.mk hw
  clear hv hal0 hw
  unfold belowR
  by_cases c1 : checkR h = 0
  rotate_left
  · rw [if_neg c1]
    generalize checkR h = ec at *
    have d1 : (ec != 0) = true := bne_iff_ne.2 c1
    clear c1 WK
    go_enter Try.func75, Try.ntmps75
    go_wp2_with (first | (go_at_call 19; (with_reducible refine (CK.out _ _ HV.out).mono ?_); rintro e W1 ⟨rfl, hb⟩; replace B := Aside0.mk (below_then B.out B.out.size hb); replace HV := Aside0.mk (HV.out.below hb); replace X := Aside0.mk (X.out.below hb); replace hx := fun i => X.out.cell i; replace Y := Aside0.mk (Y.out.below hb); replace hy := fun i => Y.out.cell i; replace Z := Aside0.mk (Z.out.below hb); replace hz := fun i => Z.out.cell i; have hxa := fun i => (X.out.alloc (.cells #[.int .u64 0] 26)).cell i; have LOWA := Aside0.mk hb.size; clear hb))
    go_ret2
    exact ⟨rfl, B.out⟩
  rw [if_pos c1]
  rw [c1] at CK
  have HC := Aside0.mk c1
  clear c1
  by_cases c2 : side < 0
  · rw [if_pos (.inl c2)]
    have d2 : decide (side < 0) = true := decide_eq_true c2
    clear WK c2
    go_enter Try.func75, Try.ntmps75
    go_wp2_with (first | (go_at_call 19; (with_reducible refine (CK.out _ _ HV.out).mono ?_); rintro e W1 ⟨rfl, hb⟩; replace B := Aside0.mk (below_then B.out B.out.size hb); replace HV := Aside0.mk (HV.out.below hb); replace X := Aside0.mk (X.out.below hb); replace hx := fun i => X.out.cell i; replace Y := Aside0.mk (Y.out.below hb); replace hy := fun i => Y.out.cell i; replace Z := Aside0.mk (Z.out.below hb); replace hz := fun i => Z.out.cell i; have hxa := fun i => (X.out.alloc (.cells #[.int .u64 0] 26)).cell i; have LOWA := Aside0.mk hb.size; clear hb))
    go_ret2
    exact ⟨rfl, B.out⟩
  by_cases c3 : 2 < side
  · rw [if_pos (.inr c3)]
    have d2 : decide (side < 0) = false := decide_eq_false c2
    have d3 : decide (2 < side) = true := decide_eq_true c3
    clear WK c2 c3
    go_enter Try.func75, Try.ntmps75
    go_wp2_with (first | (go_at_call 19; (with_reducible refine (CK.out _ _ HV.out).mono ?_); rintro e W1 ⟨rfl, hb⟩; replace B := Aside0.mk (below_then B.out B.out.size hb); replace HV := Aside0.mk (HV.out.below hb); replace X := Aside0.mk (X.out.below hb); replace hx := fun i => X.out.cell i; replace Y := Aside0.mk (Y.out.below hb); replace hy := fun i => Y.out.cell i; replace Z := Aside0.mk (Z.out.below hb); replace hz := fun i => Z.out.cell i; have hxa := fun i => (X.out.alloc (.cells #[.int .u64 0] 26)).cell i; have LOWA := Aside0.mk hb.size; clear hb))
    go_ret2
    exact ⟨rfl, B.out⟩
  rw [if_neg (by omega)]
  have d2 : decide (side < 0) = false := decide_eq_false c2
  have d3 : decide (2 < side) = false := decide_eq_false c3
  clear c2 c3
  generalize hans : IntKind.u64.wrap (sumB ((toldW h).takeWhile (fun b => !behindB b side place))) = ans
  have HANS := Aside0.mk hans
  clear hans
  refine (callsIn_wide (n := 5)).1 ?_
  refine callsIn_of_wp_marks Try.func75 rfl trivial ?_ rfl
  simp only [Try.ntmps75, List.size_toArray, List.length_cons, List.length_nil, Nat.reduceAdd, Nat.reduceSub, Array.replicate_succ, Array.replicate_zero, List.push_toArray, List.append_toArray, List.nil_append, List.cons_append]
  refine wpIn_wide.2 ?_
  go_wp2_with (first | (go_at_call 19; (with_reducible refine (CK.out _ _ HV.out).mono ?_); rintro e W1 ⟨rfl, hb⟩; replace B := Aside0.mk (below_then B.out B.out.size hb); replace HV := Aside0.mk (HV.out.below hb); replace X := Aside0.mk (X.out.below hb); replace hx := fun i => X.out.cell i; replace Y := Aside0.mk (Y.out.below hb); replace hy := fun i => Y.out.cell i; replace Z := Aside0.mk (Z.out.below hb); replace hz := fun i => Z.out.cell i; have hxa := fun i => (X.out.alloc (.cells #[.int .u64 0] 26)).cell i; have LOWA := Aside0.mk hb.size; clear hb) | (go_at_call 78; (with_reducible refine (WK.out _ _ (HV.out.below (below_alloc (Below.refl _ _) _))).mono ?_); rintro e W2 ⟨bE, bN, bH, bP, rfl, hS, hb⟩; have B2 := Aside0.mk (below_then (below_then B.out B.out.size (below_alloc (Below.refl _ _) (.cells #[.int .u64 0] 26))) (by have := B.out.size; simp at this ⊢; omega) hb); have Y2 := Aside0.mk ((Y.out.alloc (.cells #[.int .u64 0] 26)).below hb); have Z2 := Aside0.mk ((Z.out.alloc (.cells #[.int .u64 0] 26)).below hb); have HS := Aside0.mk hS; have HB2 := Aside0.mk hb; clear hS hb))
  refine (wpIn_wide (n := 5)).1 ?_
  have hw1 : w.heap.size + 1 + 1 + 1 ≤ W1.heap.size := by have := LOWA.out; simpa using this
  have hz1 : (W1.alloc (.cells #[.int .u64 0] 26)).heap.size = W1.heap.size + 1 := by simp
  have hw2 : W1.heap.size + 1 ≤ W2.heap.size := by have := HB2.out.size; omega
  have N2 : Blk W2 W1.heap.size #[.int .u64 0] 26 := (HB2.out.block _ (by simp)).trans (by simpa using blk_new W1 (.cells #[.int .u64 0] 26))
  have hS2 : HoldsW (W1.heap.size + 1) bE bN bH bP h W2 := by have := HS.out; rwa [hz1] at this
  clear hx hy hz CK B X Y Z HV hxa
  refine wpIn_rangeFunc_ownH rfl (by omega) (gf := 111) (lb := #[.pointer (some ⟨bE, 0, none⟩), .pointer (some ⟨bN, 0, none⟩), .pointer (some ⟨bH, 0, none⟩), .pointer (some ⟨bP, 0, none⟩)]) rfl trivial (enters_of Try.func111 (by kernel_rfl) rfl)
    (walk1_stops _ (by omega) (W1.heap.size + 1) bE bN bH bP h HW.out W2 hw2 hS2) KeepC.trans (fun W l o o' _ h hc _ => KeepC.put W l o o' h hc) (Below.refl _ _) (fun _ => rfl)
    (fun pre W => ((∀ b ∈ toldL h pre, behindB b side place = false) ∧ Blk W W1.heap.size #[.int .u64 (IntKind.u64.wrap (sumB (toldL h pre)))] 26) ∧ (Blk W (w.heap.size + 1) #[.int .i64 side] 3 ∧ Blk W (w.heap.size + 1 + 1) #[.int .i64 place] 3) ∧ (Below w.heap.size w W ∧ W2.heap.size ≤ W.heap.size))
    (fun c pre W => c = .exit 0 ∧ (∃ pre0 x, pre = pre0 ++ [x] ∧ (∀ b ∈ toldL h pre0, behindB b side place = false) ∧ behindB ((toldW h).get x) side place = true ∧ Blk W W1.heap.size #[.int .u64 (IntKind.u64.wrap (sumB (toldL h pre0)))] 26) ∧ (Below w.heap.size w W ∧ W2.heap.size ≤ W.heap.size))
    (fun s A B row ⟨⟨q1, q2⟩, ⟨q3, q4⟩, q5, q6⟩ hg hr => ⟨⟨q1, q2.grown hg hr⟩, ⟨q3.grown hg hr, q4.grown hg hr⟩, (ownFrom_below (Nat.le_refl _) (by omega)) s A B row q5 hg hr, Nat.le_trans q6 hg.size⟩)
    (fun c s A B row ⟨q0, ⟨p0, x, q1, q2, q3, q4⟩, q5, q6⟩ hg hr => ⟨q0, ⟨p0, x, q1, q2, q3, q4.grown hg hr⟩, (ownFrom_below (Nat.le_refl _) (by omega)) s A B row q5 hg hr, Nat.le_trans q6 hg.size⟩)
    ⟨⟨fun b hb => by simp [toldL] at hb, N2⟩, ⟨Y2.out, Z2.out⟩, B2.out, Nat.le_refl _⟩
    (fun x a' W => ∃ b, a' = ({ tmps := #[.agg #[.int .i64 h.f0, .int .u64 h.f1, .int .u64 h.f2, .int .u64 h.f3, .int .u64 h.f4, .slice A5 h.f5.length c5, .slice A6 h.f6.length c6, .slice A7 h.f7.length c7, .slice A8 h.f8.length c8], .int .i64 side, .int .i64 place, .pointer (some ⟨w.heap.size, 0, none⟩), .pointer (some ⟨w.heap.size + 1, 0, none⟩), .pointer (some ⟨w.heap.size + 1 + 1, 0, none⟩), .int .u64 0, .int .i64 0, .int .i64 0, .pointer (some ⟨W1.heap.size, 0, none⟩), .pointer (some ⟨b, 0, none⟩), .agg #[.int .i64 h.f0, .int .u64 h.f1, .int .u64 h.f2, .int .u64 h.f3, .int .u64 h.f4, .slice A5 h.f5.length c5, .slice A6 h.f6.length c6, .slice A7 h.f7.length c7, .slice A8 h.f8.length c8], .int .i64 0, .int .i64 0, .bool false, undef, .int .i64 side, .bool false, .bool false, .int .i64 side, .bool false, .bool false, .agg #[.int .i64 h.f0, .int .u64 h.f1, .int .u64 h.f2, .int .u64 h.f3, .int .u64 h.f4, .slice A5 h.f5.length c5, .slice A6 h.f6.length c6, .slice A7 h.f7.length c7, .slice A8 h.f8.length c8], .func (.func 111) #[] #[.pointer (some ⟨bE, 0, none⟩), .pointer (some ⟨bN, 0, none⟩), .pointer (some ⟨bH, 0, none⟩), .pointer (some ⟨bP, 0, none⟩)], encB ((toldW h).get x), undef, undef, undef, undef, undef, undef, undef, undef, undef], defers := [] } : Act) ∧ BlkF W b (encB1 ((toldW h).get x)) ∧ W2.heap.size ≤ b) (fun x a' s A B row ⟨b, e, hb, hge⟩ hg hr => ⟨b, e, hb.grown hg hr, hge⟩) ?assign ?body ?done ?stop
  case assign =>
    intro l pre x W K hI hK
    have HI_ := Aside0.mk hI
    have HK := Aside0.mk hK
    clear hI hK
    obtain ⟨y, hy⟩ : ∃ y, y = (toldW h).get x := ⟨_, rfl⟩
    have HY := Aside0.mk hy
    simp only [← hy]
    clear hy
    unfold encB
    gi_wp2
    have hbl := below_alloc (Below.refl W.heap.size W) (.cells (encB1 y) 75)
    obtain ⟨⟨q1, q2⟩, ⟨q3, q4⟩, q5, q6⟩ := HI_.out
    refine HK.out _ _ ((KeepsOthers.alloc W (.cells (encB1 y) 75)).from _) (KeepC.of_below hbl) ⟨⟨q1, q2.alloc _⟩, ⟨q3.alloc _, q4.alloc _⟩, below_then q5 q5.size hbl, Nat.le_trans q6 hbl.size⟩ ⟨W.heap.size, ?_, ?_, q6⟩
    · rw [← HY.out]; rfl
    · rw [← HY.out]; exact Blk.new W _ _
  case body =>
    rintro l pre x a' W hl hlr ⟨⟨q1, q2⟩, ⟨q3, q4⟩, q5, q6⟩ ⟨b, rfl, hb, hge⟩ hlt
    obtain ⟨y, hy⟩ : ∃ y, y = (toldW h).get x := ⟨_, rfl⟩
    have HTS := Aside0.mk (toldL_snoc h pre x)
    have HYX := Aside0.mk hy
    rw [← hy] at hb HTS
    simp only [← hy]
    clear hy
    obtain ⟨s, hs⟩ : ∃ s, s = sumB (toldL h pre) := ⟨_, rfl⟩
    rw [← hs] at q2
    have HS_ := Aside0.mk hs
    have hbe := behind_eq y side place
    have hf0 : Fence.wide.fn 107 := trivial
    unfold encB
    have hc := fun i => Blk.cell q2 i
    have hcf := fun i => blk_frozen q2 i
    have hbc := fun i => Blk.cell hb i
    have hrc := fun i => Blk.cell q3 i
    have hsc := fun i => Blk.cell q4 i
    have K1 := Aside0.mk q1
    have K2 := Aside0.mk q2
    have K3 := Aside0.mk q3
    have K4 := Aside0.mk q4
    have K5 := Aside0.mk q5
    have K6 := Aside0.mk q6
    have HBB := Aside0.mk hb
    have HBE := Aside0.mk hbe
    clear q1 q2 q3 q4 q5 q6 hl hlr hlt hs hbe hb
    unfold encB1 at hbc
    cases hbv : behindB y side place with
    | true =>
      rw [hbv] at HBE
      have HBV := Aside0.mk hbv
      clear hbv
      gi_wp2_with (gi_at_call 107; refine (CallsIn.inRound l (callsIn_wide.2 (rank_behind.calls _ _ _ _ _ _ _ HBE.out))).mono ?_; rintro e W5 ⟨rfl, hb⟩; have HB5 := Aside0.mk hb; clear hb)
      refine ⟨KeepsFrom.of_grownBy (grown_of_below HB5.out none) (fun j e => by cases e), rfl, ⟨pre, x, rfl, K1.out, ?_, ?_⟩, ?_, ?_⟩
      · rw [← HYX.out]; exact HBV.out
      · rw [← HS_.out]; exact K2.out.below HB5.out
      · exact below_then K5.out K5.out.size HB5.out
      · exact Nat.le_trans K6.out HB5.out.size
    | false =>
      rw [hbv] at HBE
      have HBV := Aside0.mk hbv
      clear hbv
      gi_wp2_with (gi_at_call 107; refine (CallsIn.inRound l (callsIn_wide.2 (rank_behind.calls _ _ _ _ _ _ _ HBE.out))).mono ?_; rintro e W5 ⟨rfl, hb⟩; have HB5 := Aside0.mk hb; have K2' := Aside0.mk (K2.out.below hb); have hbk := Blk.below (show Blk W b (encB1 y) 75 from HBB.out) hb; replace hc := fun i => Blk.cell K2'.out i; replace hcf := fun i => blk_frozen K2'.out i; replace hbc := fun i => Blk.cell hbk i; unfold encB1 at hbc; clear hb hbk)
      have hw_ : IntKind.u64.wrap (IntKind.u64.wrap s + y.n) = IntKind.u64.wrap (sumB (toldL h (pre ++ [x]))) := by
        rw [HTS.out, sumB_snoc, ← HS_.out]
        show (s % 18446744073709551616 + y.n) % 18446744073709551616 = (s + y.n) % 18446744073709551616
        omega
      rw [hw_]
      have hsz := HB5.out.size
      have hkk := KeepC.of_below (n0 := W1.heap.size + 1) HB5.out
      refine ⟨(KeepsFrom.of_grownBy (grown_of_below HB5.out none) (fun j e => by cases e)).trans ((KeepsOthers.setCell _ _ _).from _), hkk.trans (KeepC.setCell _ (Nat.lt_succ_self _) _), ⟨?_, ?_⟩, ⟨?_, ?_⟩, ?_, ?_⟩
      · rw [HTS.out]
        intro z hz
        rcases List.mem_append.1 hz with hz | hz
        · exact K1.out z hz
        · obtain rfl := List.mem_singleton.1 hz; exact HBV.out
      · exact Boxed.set _ K2'.out
      · exact blk_put_ne (K3.out.below HB5.out) (by omega) _
      · exact blk_put_ne (K4.out.below HB5.out) (by omega) _
      · exact (below_then K5.out K5.out.size HB5.out).setCell (by show w.heap.size ≤ W1.heap.size; omega) _
      · have h6_ := K6.out; have : W2.heap.size ≤ W5.heap.size := by omega
        simpa [World.setCell] using this
  case done =>
    rintro D xs W hD hS ⟨⟨q1, q2⟩, ⟨q3, q4⟩, q5, q6⟩ hK
    rw [toldL_all hS] at q1 q2
    have hf : ans = IntKind.u64.wrap (sumB (toldW h)) := by rw [← HANS.out, takeWhile_all (fun b hb => by rw [q1 b hb]; rfl)]
    rw [← hf] at q2
    have hc := fun i => Blk.cell q2 i
    have K5 := Aside0.mk q5
    have HK := Aside0.mk hK
    clear q1 q2 q3 q4 q5 q6 hK hS hf
    go_wp2
    refine ⟨by simp, .inl ⟨_, _, rfl, run_takeDeferred HK.out, ?_⟩⟩
    exact ⟨_, results_tmp2 rfl _ _ _, rfl, K5.out.trans (below_putObj_hi _ _ trivial (by omega))⟩
  case stop =>
    rintro D c pre W hD hS ⟨rfl, ⟨p0, x, rfl, q1, q2, q3⟩, q5, q6⟩ hK
    have hf : ans = IntKind.u64.wrap (sumB (toldL h p0)) := by
      have ht := toldL_take hS
      rw [toldL_snoc] at ht
      rw [← HANS.out, ← List.take_append_drop (p0 ++ [x]).length (toldW h), ← ht, List.append_assoc, List.singleton_append, takeWhile_stop (fun b hb => by rw [q1 b hb]; rfl) (by rw [q2]; rfl)]
    rw [← hf] at q3
    have hc := fun i => Blk.cell q3 i
    have K5 := Aside0.mk q5
    have HK := Aside0.mk hK
    clear q1 q2 q3 q5 q6 hK hS hf
    gi_wp2
    go_wp2
    refine ⟨by simp, .inl ⟨_, _, rfl, run_takeDeferred HK.out, ?_⟩⟩
    exact ⟨_, results_tmp2 rfl _ _ _, rfl, K5.out.trans (below_putObj_hi _ _ trivial (by omega))⟩
end Go.Proofs.Ytgkplhdcafbfbaa.P
