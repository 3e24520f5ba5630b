/- A walk by hand: the fixed answer of the statements of layer 7. -/
import Derived.Test.YtacgeafjilipdaaPPairs
import Derived.Test.YtacgeafjilipdaaMFind
import Derived.Test.YtacgeafjilipdaaMWithout
namespace Go.Proofs.Ytacgeafjilipdaa.P
open Go.RowKit Go.Shelf Go.Proofs.YtacgeafjilipdaaW.PrintWords Go.Proofs.YtacgeafjilipdaaW.PrintLast Go.Proofs.YtacgeafjilipdaaW.PrintMore
set_option linter.unusedVariables false
set_option linter.unusedSimpArgs false

def tidepolelaw07_awake.f : Option Bool := some true

theorem aw07_1 : pairs_Zip_int64.f 20 [⟨3, 2⟩] [5, 0] = some ([⟨3, 5⟩, ⟨4, 0⟩], 0) := by kernel_rfl
theorem aw07_2 : pairs_Absolute.f 20 [3, -1] = some ([3, 2], 0) := by kernel_rfl
theorem aw07_3 : pairs_Absolute.f 20 [9223372036854775807, 1] = some ([], 28) := by kernel_rfl
theorem aw07_4 : pairs_Unzip_int64.f 20 [⟨3, 5⟩, ⟨4, 0⟩] = some ([⟨3, 2⟩], [5, 0], 0) := by kernel_rfl
theorem aw07_5 : pairs_Without_int64.f [⟨3, 5⟩, ⟨4, 0⟩] 0 = some [⟨3, 5⟩] := by kernel_rfl
theorem aw07_6 : pairs_Find_int64.f [⟨3, 5⟩, ⟨4, 0⟩] 3 = some (5, true) := by kernel_rfl

theorem reps_one_span (w : World) (a b : Int) : Reps (k144.K w) 2 [(⟨a, b⟩ : S144)] [.int .i64 a, .int .i64 b] := by
  refine ⟨rfl, fun j p hj => ?_⟩
  cases j with
  | zero => injection hj with hj; subst hj; exact k144_mk w _
  | succ j => simp at hj

set_option maxRecDepth 100000 in
set_option maxHeartbeats 8000000 in
theorem tidepolelaw07_awake.calls (r : Bool) (w : World) (h : tidepolelaw07_awake.f = some r) :
    Calls Try.prog 30 #[] w fun e w' => e = .returned (.bool r) ∧ Below w.heap.size w w' := by
  obtain rfl : true = r := Option.some.inj h
  clear h
  have hu1 := Try.underlying144
  have hu2 := Try.underlying26
  go_enter Try.func30, Try.ntmps30
  go_wp2_with fail
  have hb1 : ((w.alloc (.cells #[.int .i64 3, .int .i64 2] 144)).alloc (.cells #[.int .i64 5, .int .i64 0] 2)).heap[w.heap.size]? = some (.cells #[.int .i64 3, .int .i64 2] 144 (0, 0)) := blk_alloc (by simpa using blk_new w (.cells #[.int .i64 3, .int .i64 2] 144)) _
  have hb2 : ((w.alloc (.cells #[.int .i64 3, .int .i64 2] 144)).alloc (.cells #[.int .i64 5, .int .i64 0] 2)).heap[w.heap.size + 1]? = some (.cells #[.int .i64 5, .int .i64 0] 2 (0, 0)) := by simpa using blk_new (w.alloc (.cells #[.int .i64 3, .int .i64 2] 144)) (.cells #[.int .i64 5, .int .i64 0] 2)
  refine (pairs_Zip_int64.calls 20 _ 1 [(⟨3, 2⟩ : S144)] _ 2 [5, 0] _ _ _ (C_of_blk [(⟨3, 2⟩ : S144)] hb1 (reps_one_span _ 3 2) (by decide)) (by decide) (C_of_blk [5, 0] hb2 (reps_nums _ .i64 [5, 0]) (by decide)) (by decide) aw07_1).mono ?_
  rintro e w1 ⟨v1, rfl, ho1, hb⟩
  have HB := Aside0.mk (below_then (below_then (below_alloc (Below.refl w.heap.size w) (.cells #[.int .i64 3, .int .i64 2] 144)) (by simp) (below_alloc (Below.refl _ _) (.cells #[.int .i64 5, .int .i64 0] 2))) (by simp; omega) hb)
  obtain ⟨A1, c1, rfl, hc1, hC1⟩ := Kd.R_reads ho1
  have HC1 := Aside0.mk hC1
  clear ho1 hC1 hb hb1 hb2
  go_wp2_with fail
  have hb1 : (w1.alloc (.cells #[.int .i64 3, .int .i64 (-1)] 2)).heap[w1.heap.size]? = some (.cells #[.int .i64 3, .int .i64 (-1)] 2 (0, 0)) := by simpa using blk_new w1 (.cells #[.int .i64 3, .int .i64 (-1)] 2)
  refine (pairs_Absolute.calls 20 _ 2 [3, -1] _ _ _ (C_of_blk [3, -1] hb1 (reps_nums _ .i64 [3, -1]) (by decide)) (by decide) aw07_2).mono ?_
  rintro e w2 ⟨v2, rfl, ho2, hb⟩
  have hb' := below_then (below_alloc (Below.refl w1.heap.size w1) (.cells #[.int .i64 3, .int .i64 (-1)] 2)) (by simp) hb
  have HB2 := Aside0.mk (below_then HB.out HB.out.size hb')
  have HC2 := Aside0.mk (Kd.C_below HC1.out hb')
  obtain ⟨A2, c2, rfl, hc2, hD1⟩ := Kd.R_reads ho2
  have HD1 := Aside0.mk hD1
  clear ho2 hD1 hb hb1 hb' HC1 HB
  go_wp2_with fail
  have hb1 : (w2.alloc (.cells #[.int .i64 9223372036854775807, .int .i64 1] 2)).heap[w2.heap.size]? = some (.cells #[.int .i64 9223372036854775807, .int .i64 1] 2 (0, 0)) := by simpa using blk_new w2 (.cells #[.int .i64 9223372036854775807, .int .i64 1] 2)
  refine (pairs_Absolute.calls 20 _ 2 [9223372036854775807, 1] _ _ _ (C_of_blk [9223372036854775807, 1] hb1 (reps_nums _ .i64 [9223372036854775807, 1]) (by decide)) (by decide) aw07_3).mono ?_
  rintro e w3 ⟨v3, rfl, ho3, hb⟩
  have hb' := below_then (below_alloc (Below.refl w2.heap.size w2) (.cells #[.int .i64 9223372036854775807, .int .i64 1] 2)) (by simp) hb
  have HB3 := Aside0.mk (below_then HB2.out HB2.out.size hb')
  have HC3 := Aside0.mk (Kd.C_below HC2.out hb')
  have HD2 := Aside0.mk (Kd.C_below HD1.out hb')
  clear ho3 hb hb1 hb' HC2 HB2 HD1
  go_wp2_with fail
  refine (pairs_Unzip_int64.calls 20 A1 c1 [(⟨3, 5⟩ : S26), ⟨4, 0⟩] _ _ _ _ HC3.out hc1 aw07_4).mono ?_
  rintro e w4 ⟨v4, v5, rfl, ho4, ho5, hb⟩
  have HB4 := Aside0.mk (below_then HB3.out HB3.out.size hb)
  have HC4 := Aside0.mk (Kd.C_below HC3.out hb)
  have HD3 := Aside0.mk (Kd.C_below HD2.out hb)
  obtain ⟨A4, c4, rfl⟩ := Kd.R_slice ho4
  obtain ⟨A5, c5, rfl⟩ := Kd.R_slice ho5
  clear ho4 ho5 hb HC3 HB3 HD2
  go_wp2_with fail
  refine (pairs_Without_int64.calls A1 c1 [(⟨3, 5⟩ : S26), ⟨4, 0⟩] 0 _ _ HC4.out hc1 aw07_5).mono ?_
  rintro e w5 ⟨v6, rfl, ho6, hb⟩
  have HB5 := Aside0.mk (below_then HB4.out HB4.out.size hb)
  have HC5 := Aside0.mk (Kd.C_below HC4.out hb)
  have HD4 := Aside0.mk (Kd.C_below HD3.out hb)
  obtain ⟨A6, c6, rfl⟩ := Kd.R_slice ho6
  clear ho6 hb HC4 HB4 HD3
  go_wp2_with fail
  refine (pairs_Find_int64.calls A1 c1 [(⟨3, 5⟩ : S26), ⟨4, 0⟩] 3 _ _ _ HC5.out hc1 aw07_6).mono ?_
  rintro e w6 ⟨rfl, hb⟩
  have HB6 := Aside0.mk (below_then HB5.out HB5.out.size hb)
  have hC := Kd.C_below HC5.out hb
  have hD := Kd.C_below HD4.out hb
  obtain ⟨a1, e1, hx, _⟩ := at_T26 hC 1 (by decide) (by decide)
  cases e1
  obtain ⟨a2, e2, hy⟩ := Kd.at_int hD 1 (by decide) (by decide)
  cases e2
  clear hb HC5 HB5 HD4 hC hD
  have hx' : w6.cell? ⟨a1.block, a1.off + 2, none⟩ = some (.int .i64 4) := hx
  have hy' : w6.cell? ⟨a2.block, a2.off + 1, none⟩ = some (.int .i64 2) := hy
  clear hx hy
  go_wp2
  go_ret
  exact ⟨rfl, HB6.out⟩
end Go.Proofs.Ytacgeafjilipdaa.P
