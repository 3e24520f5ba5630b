/- FhistBack: the part that this text bears of the proof that the statement answers true for every input. No condition. -/
import Derived.Test.YtfbjjbbhnmoolaaQFhistBack2
import Derived.ChangeKeysEq
set_option linter.unusedVariables false
set_option linter.unusedSimpArgs false
namespace Go.Proofs.Ytfbjjbbhnmoolaa.P
open Go.RowKit Go.Proofs.YtfbjjbbhnmoolaaW.PrintWords Go.Proofs.YtfbjjbbhnmoolaaW.PrintLast Go.Proofs.YtfbjjbbhnmoolaaW.PrintMore
attribute [local go_sem] max2_int min2_int max_two min_two max_three min_three max_four min_four
def hist_Check.f (a0_0 : Int) (a0_1 : Int) (a0_2 : Int) (a0_3 : Int) (a0_4 : Int) (l0_5 : List (S86)) (l0_6 : List (S86)) (l0_7 : List Int) (l0_8 : List Int) : Option (Int) := (hist_open.f a0_0 a0_1 a0_2 a0_3 a0_4 l0_5 l0_6 l0_7 l0_8).bind fun bt102 => (some bt102.2.2)
set_option maxHeartbeats 8000000 in
set_option maxRecDepth 100000 in
theorem hist_Check.calls (a0_0 : Int) (a0_1 : Int) (a0_2 : Int) (a0_3 : Int) (a0_4 : Int) (A0_5 : Option Addr) (c0_5 : Nat) (l0_5 : List (S86)) (A0_6 : Option Addr) (c0_6 : Nat) (l0_6 : List (S86)) (A0_7 : Option Addr) (c0_7 : Nat) (l0_7 : List Int) (A0_8 : Option Addr) (c0_8 : Nat) (l0_8 : List Int) (r : Int) (w : World) (hr0_5 : Kd.C k86 w A0_5 l0_5.length l0_5) (hc0_5 : l0_5.length ≤ c0_5) (hr0_6 : Kd.C k86 w A0_6 l0_6.length l0_6) (hc0_6 : l0_6.length ≤ c0_6) (hr0_7 : Kd.C (Kd.int .i64) w A0_7 l0_7.length l0_7) (hc0_7 : l0_7.length ≤ c0_7) (hr0_8 : Kd.C (Kd.int .i64) w A0_8 l0_8.length l0_8) (hc0_8 : l0_8.length ≤ c0_8) (h : hist_Check.f a0_0 a0_1 a0_2 a0_3 a0_4 l0_5 l0_6 l0_7 l0_8 = some r) :
  Calls Try.prog 50 #[.agg #[.int .i64 a0_0, .int .u64 a0_1, .int .u64 a0_2, .int .u64 a0_3, .int .u64 a0_4, .slice A0_5 l0_5.length c0_5, .slice A0_6 l0_6.length c0_6, .slice A0_7 l0_7.length c0_7, .slice A0_8 l0_8.length c0_8]] w fun e w' => e = .returned (.int .i64 r) ∧ Below w.heap.size w w' := by
 have hu26 := Try.underlying26
 have HR0_5 := Aside0.mk hr0_5
 have HC0_5 := Aside0.mk hc0_5
 clear hr0_5 hc0_5
 have HR0_6 := Aside0.mk hr0_6
 have HC0_6 := Aside0.mk hc0_6
 clear hr0_6 hc0_6
 have HR0_7 := Aside0.mk hr0_7
 have HC0_7 := Aside0.mk hc0_7
 clear hr0_7 hc0_7
 have HR0_8 := Aside0.mk hr0_8
 have HC0_8 := Aside0.mk hc0_8
 clear hr0_8 hc0_8
 have HB := Aside0.mk (Below.refl w.heap.size w)
 have H : ((hist_open.f a0_0 a0_1 a0_2 a0_3 a0_4 l0_5 l0_6 l0_7 l0_8).bind fun bt102 => (some bt102.2.2)) = some r := h
 clear h
 replace H := Option.bind_eq_some_iff.mp H
 obtain ⟨⟨t102, t105, t108⟩, A20, H⟩ := H
 replace H : (some t108) = some r := H
 have A2 := Aside0.mk A20
 clear A20
 obtain rfl := Option.some.inj H
 go_enter Try.func50, Try.ntmps50
 go_wp2_with (first | ((with_reducible refine gate_dst (N := 1) rfl ?_); refine box_event ?hg (N := 1) ?hd (cs := #[.int .i64 a0_0, .int .u64 a0_1, .int .u64 a0_2, .int .u64 a0_3, .int .u64 a0_4, .slice A0_5 l0_5.length c0_5, .slice A0_6 l0_6.length c0_6, .slice A0_7 l0_7.length c0_7, .slice A0_8 l0_8.length c0_8]) (t := 26) ?hr ?_; (case hd => rfl); (case hg => rfl); (case hr => first | (go_simp; done) | (go_simp; rfl)); intro gb101 hg w3 hbox hb; have BK101 := Aside0.mk (hbox); have GW101 := Aside0.mk ((by rw [hg]; exact (below_size (below_u HB.out)) : w.heap.size ≤ gb101)); have GE101 := Aside0.mk ((by rw [hg]; exact (below_size (below_u HB.out)) : w.heap.size ≤ gb101)); replace HB := Aside0.mk (below_step (below_u HB.out) hb); clear hb hbox hg; have hcz4_0 := blk_cell BK101.out; have hfz4_0 := blk_frozen BK101.out) | ((with_reducible refine gate_callee (f := 71) rfl ?_); refine goesM_ (some 8) Try.func71 #[.agg #[.int .i64 a0_0, .int .u64 a0_1, .int .u64 a0_2, .int .u64 a0_3, .int .u64 a0_4, .slice A0_5 l0_5.length c0_5, .slice A0_6 l0_6.length c0_6, .slice A0_7 l0_7.length c0_7, .slice A0_8 l0_8.length c0_8]] ?_; (with_reducible refine (hist_open.calls a0_0 a0_1 a0_2 a0_3 a0_4 _ _ l0_5 _ _ l0_6 _ _ l0_7 _ _ l0_8 t102 t105 t108 _ ?side1 ?side2 ?side3 ?side4 ?side5 ?side6 ?side7 ?side8 A2.out).mono ?_); (case side1 => exact Kd.C_u (Kd.C_below HR0_5.out HB.out)); (case side2 => exact HC0_5.out); (case side3 => exact Kd.C_u (Kd.C_below HR0_6.out HB.out)); (case side4 => exact HC0_6.out); (case side5 => exact Kd.C_u (Kd.C_below HR0_7.out HB.out)); (case side6 => exact HC0_7.out); (case side7 => exact Kd.C_u (Kd.C_below HR0_8.out HB.out)); (case side8 => exact HC0_8.out); rintro e w5 ⟨v103, v106, rfl, ho0, ho1, hb⟩; refine ⟨_, rfl, ?_⟩; have HO104 := Aside0.mk (Kd.R_lower ho0 (below_size (by repeat (first | (with_reducible first | exact HB.out | apply below_alloc | apply pw_below_drewN | apply below_drew1 | refine below_set ?_ GE101.out) | exact HB.out)))); have HO107 := Aside0.mk (Kd.R_lower ho1 (below_size (by repeat (first | (with_reducible first | exact HB.out | apply below_alloc | apply pw_below_drewN | apply below_drew1 | refine below_set ?_ GE101.out) | exact HB.out)))); replace BK101 := Aside0.mk (blk_ub BK101.out hb); replace HB := Aside0.mk (below_step (by repeat (first | (with_reducible first | exact HB.out | apply below_alloc | apply pw_below_drewN | apply below_drew1 | refine below_set ?_ GE101.out) | exact HB.out)) hb); (try clear hb); (try clear hb2); (try clear hk); (try clear hi); (try clear ho0); (try clear ho1); clear A2))
 go_ret
 exact ⟨by first | rfl | (simp [errW_none, errW_some] <;> rfl) | (simp [*, errW_none, errW_some] <;> rfl), by repeat (first | (with_reducible first | exact HB.out | apply below_alloc | apply pw_below_drewN | apply below_drew1 | refine below_set ?_ GE101.out) | exact HB.out)⟩
end Go.Proofs.Ytfbjjbbhnmoolaa.P
namespace Go.Proofs.Ytfbjjbbhnmoolaa.P
open Go.RowKit Go.Proofs.YtfbjjbbhnmoolaaW.PrintWords Go.Proofs.YtfbjjbbhnmoolaaW.PrintLast Go.Proofs.YtfbjjbbhnmoolaaW.PrintMore
attribute [local go_sem] max2_int min2_int max_two min_two max_three min_three max_four min_four
def fhist_From.f (a0_0 : Int) (a0_1 : Int) (a0_2 : Int) (a0_3 : Int) (a0_4 : Int) (l0_5 : List (S86)) (l0_6 : List (S86)) (l0_7 : List Int) (l0_8 : List Int) : Option (Int × Int × Int × Int × Int × (List (S86)) × (List (S86)) × List Int × List Int × Int) := (hist_Check.f a0_0 a0_1 a0_2 a0_3 a0_4 l0_5 l0_6 l0_7 l0_8).bind fun t103 => (if t103 = 0 then ((fhist_Float.f a0_2).bind fun t104 => ((fhist_Float.f a0_3).bind fun t105 => ((slices_Clone_span.f l0_5).bind fun t106 => ((slices_Clone_span.f l0_6).bind fun t109 => ((fhist_floats.f l0_7).bind fun t112 => ((fhist_floats.f l0_8).bind fun t115 => (some (a0_0, a0_1, t104, t105, a0_4, t106, t109, t112, t115, 0)))))))) else (some (0, 0, 0, 0, 0, ([] : List (S86)), ([] : List (S86)), ([] : List Int), ([] : List Int), t103)))
def fhist_From.T4 : Bool × List (List Nat × List Nat) := (true, [([], []), ([0], [0]), ([], []), ([2], [2]), ([], []), ([4], [4]), ([5], [5]), ([], []), ([7], [7]), ([8, 6], [8]), ([], []), ([10], [10]), ([], []), ([12], [12]), ([13, 9], [13]), ([], []), ([15], [15]), ([16, 14], [16]), ([], []), ([18], [18]), ([19, 17], [19]), ([], []), ([21], [21]), ([22, 20], [22]), ([1, 3, 6, 9, 11, 14, 17, 20, 23], [1, 3, 6, 9, 11, 14, 17, 20, 23]), ([24, 23, 0, 1, 2, 3, 4, 5, 6, 7, 8, 9, 10, 11, 12, 13, 14, 15, 16, 17, 18, 19, 20, 21, 22, 23, 24], [24]), ([25, 0, 1, 2, 3, 4, 5, 6, 7, 8, 9, 10, 11, 12, 13, 14, 15, 16, 17, 18, 19, 20, 21, 22, 23, 24, 25], [])])
def fhist_From.B4 : List Nat := [0, 1, 0, 4, 0, 16, 48, 0, 128, 496, 0, 1024, 0, 4096, 13296, 0, 32768, 127984, 0, 262144, 1045488, 0, 2097152, 8385520, 16777215, 33554431, 67108863]
theorem fhist_From.tab4 : rtab .any (opsOf Try.f11 4) = fhist_From.T4 := by kernel_rfl
theorem fhist_From.bits4 : waitsOk fhist_From.T4.2 fhist_From.B4 = true := by kernel_rfl
set_option maxHeartbeats 8000000 in
set_option maxRecDepth 100000 in
theorem fhist_From.calls (a0_0 : Int) (a0_1 : Int) (a0_2 : Int) (a0_3 : Int) (a0_4 : Int) (A0_5 : Option Addr) (c0_5 : Nat) (l0_5 : List (S86)) (A0_6 : Option Addr) (c0_6 : Nat) (l0_6 : List (S86)) (A0_7 : Option Addr) (c0_7 : Nat) (l0_7 : List Int) (A0_8 : Option Addr) (c0_8 : Nat) (l0_8 : List Int) (r1 : Int) (r2 : Int) (r3 : Int) (r4 : Int) (r5 : Int) (r6 : List (S86)) (r7 : List (S86)) (r8 : List Int) (r9 : List Int) (r10 : Int) (w : World) (hr0_5 : Kd.C k86 w A0_5 l0_5.length l0_5) (hc0_5 : l0_5.length ≤ c0_5) (hr0_6 : Kd.C k86 w A0_6 l0_6.length l0_6) (hc0_6 : l0_6.length ≤ c0_6) (hr0_7 : Kd.C (Kd.int .i64) w A0_7 l0_7.length l0_7) (hc0_7 : l0_7.length ≤ c0_7) (hr0_8 : Kd.C (Kd.int .i64) w A0_8 l0_8.length l0_8) (hc0_8 : l0_8.length ≤ c0_8) (h : fhist_From.f a0_0 a0_1 a0_2 a0_3 a0_4 l0_5 l0_6 l0_7 l0_8 = some (r1, r2, r3, r4, r5, r6, r7, r8, r9, r10)) :
  Calls Try.prog 11 #[.agg #[.int .i64 a0_0, .int .u64 a0_1, .int .u64 a0_2, .int .u64 a0_3, .int .u64 a0_4, .slice A0_5 l0_5.length c0_5, .slice A0_6 l0_6.length c0_6, .slice A0_7 l0_7.length c0_7, .slice A0_8 l0_8.length c0_8]] w fun e w' => ∃ v5_ v6_ v7_ v8_ : Value, e = .returned (.tuple #[.agg #[.int .i64 r1, .int .u64 r2, .int .u64 r3, .int .u64 r4, .int .u64 r5, v5_, v6_, v7_, v8_], .int .i64 r10]) ∧ Kd.R k86 86 w' w.heap.size (fun k_ => some k_ ≠ (v6_ : Value).ownBlock) v5_ r6 ∧ Kd.R k86 86 w' w.heap.size (fun k_ => some k_ ≠ (v5_ : Value).ownBlock) v6_ r7 ∧ Kd.R (Kd.int .u64) 22 w' w.heap.size (fun k_ => some k_ ≠ (v8_ : Value).ownBlock) v7_ r8 ∧ Kd.R (Kd.int .u64) 22 w' w.heap.size (fun k_ => some k_ ≠ (v7_ : Value).ownBlock) v8_ r9 ∧ Below w.heap.size w w' := by
 have hu26 := Try.underlying26
 have hu31 := Try.underlying31
 have HR0_5 := Aside0.mk hr0_5
 have HC0_5 := Aside0.mk hc0_5
 clear hr0_5 hc0_5
 have HR0_6 := Aside0.mk hr0_6
 have HC0_6 := Aside0.mk hc0_6
 clear hr0_6 hc0_6
 have HR0_7 := Aside0.mk hr0_7
 have HC0_7 := Aside0.mk hc0_7
 clear hr0_7 hc0_7
 have HR0_8 := Aside0.mk hr0_8
 have HC0_8 := Aside0.mk hc0_8
 clear hr0_8 hc0_8
 have HB := Aside0.mk (Below.refl w.heap.size w)
 have H : ((hist_Check.f a0_0 a0_1 a0_2 a0_3 a0_4 l0_5 l0_6 l0_7 l0_8).bind fun t103 => (if t103 = 0 then ((fhist_Float.f a0_2).bind fun t104 => ((fhist_Float.f a0_3).bind fun t105 => ((slices_Clone_span.f l0_5).bind fun t106 => ((slices_Clone_span.f l0_6).bind fun t109 => ((fhist_floats.f l0_7).bind fun t112 => ((fhist_floats.f l0_8).bind fun t115 => (some (a0_0, a0_1, t104, t105, a0_4, t106, t109, t112, t115, 0)))))))) else (some (0, 0, 0, 0, 0, ([] : List (S86)), ([] : List (S86)), ([] : List Int), ([] : List Int), t103)))) = some (r1, r2, r3, r4, r5, r6, r7, r8, r9, r10) := h
 clear h
 replace H := Option.bind_eq_some_iff.mp H
 obtain ⟨t103, A20, H⟩ := H
 replace H : (if t103 = 0 then ((fhist_Float.f a0_2).bind fun t104 => ((fhist_Float.f a0_3).bind fun t105 => ((slices_Clone_span.f l0_5).bind fun t106 => ((slices_Clone_span.f l0_6).bind fun t109 => ((fhist_floats.f l0_7).bind fun t112 => ((fhist_floats.f l0_8).bind fun t115 => (some (a0_0, a0_1, t104, t105, a0_4, t106, t109, t112, t115, 0)))))))) else (some (0, 0, 0, 0, 0, ([] : List (S86)), ([] : List (S86)), ([] : List Int), ([] : List Int), t103))) = some (r1, r2, r3, r4, r5, r6, r7, r8, r9, r10) := H
 have A2 := Aside0.mk A20
 clear A20
 by_cases c3 : t103 = 0
 ·rw [if_pos c3] at H
  have c3b0 : (t103 == 0) = true := beq_iff_eq.mpr c3
  have c3b1 : (t103 != 0) = false := bne_eq_false_iff_eq.mpr c3
  clear c3
  replace H := Option.bind_eq_some_iff.mp H
  obtain ⟨t104, A40, H⟩ := H
  replace H : ((fhist_Float.f a0_3).bind fun t105 => ((slices_Clone_span.f l0_5).bind fun t106 => ((slices_Clone_span.f l0_6).bind fun t109 => ((fhist_floats.f l0_7).bind fun t112 => ((fhist_floats.f l0_8).bind fun t115 => (some (a0_0, a0_1, t104, t105, a0_4, t106, t109, t112, t115, 0))))))) = some (r1, r2, r3, r4, r5, r6, r7, r8, r9, r10) := H
  have A4 := Aside0.mk A40
  clear A40
  replace H := Option.bind_eq_some_iff.mp H
  obtain ⟨t105, A50, H⟩ := H
  replace H : ((slices_Clone_span.f l0_5).bind fun t106 => ((slices_Clone_span.f l0_6).bind fun t109 => ((fhist_floats.f l0_7).bind fun t112 => ((fhist_floats.f l0_8).bind fun t115 => (some (a0_0, a0_1, t104, t105, a0_4, t106, t109, t112, t115, 0)))))) = some (r1, r2, r3, r4, r5, r6, r7, r8, r9, r10) := H
  have A5 := Aside0.mk A50
  clear A50
  replace H := Option.bind_eq_some_iff.mp H
  obtain ⟨t106, A60, H⟩ := H
  replace H : ((slices_Clone_span.f l0_6).bind fun t109 => ((fhist_floats.f l0_7).bind fun t112 => ((fhist_floats.f l0_8).bind fun t115 => (some (a0_0, a0_1, t104, t105, a0_4, t106, t109, t112, t115, 0))))) = some (r1, r2, r3, r4, r5, r6, r7, r8, r9, r10) := H
  have A6 := Aside0.mk A60
  clear A60
  replace H := Option.bind_eq_some_iff.mp H
  obtain ⟨t109, A70, H⟩ := H
  replace H : ((fhist_floats.f l0_7).bind fun t112 => ((fhist_floats.f l0_8).bind fun t115 => (some (a0_0, a0_1, t104, t105, a0_4, t106, t109, t112, t115, 0)))) = some (r1, r2, r3, r4, r5, r6, r7, r8, r9, r10) := H
  have A7 := Aside0.mk A70
  clear A70
  replace H := Option.bind_eq_some_iff.mp H
  obtain ⟨t112, A80, H⟩ := H
  replace H : ((fhist_floats.f l0_8).bind fun t115 => (some (a0_0, a0_1, t104, t105, a0_4, t106, t109, t112, t115, 0))) = some (r1, r2, r3, r4, r5, r6, r7, r8, r9, r10) := H
  have A8 := Aside0.mk A80
  clear A80
  replace H := Option.bind_eq_some_iff.mp H
  obtain ⟨t115, A90, H⟩ := H
  replace H : (some (a0_0, a0_1, t104, t105, a0_4, t106, t109, t112, t115, 0)) = some (r1, r2, r3, r4, r5, r6, r7, r8, r9, r10) := H
  have A9 := Aside0.mk A90
  clear A90
  simp only [Option.some.injEq, Prod.mk.injEq] at H
  obtain ⟨rfl, rfl, rfl, rfl, rfl, rfl, rfl, rfl, rfl, rfl⟩ := H
  go_enter Try.func11, Try.ntmps11
  try go_wp2_with (first | ((with_reducible refine gate_dst (N := 1) rfl ?_); refine box_event ?hg (N := 1) ?hd (cs := #[.int .i64 a0_0, .int .u64 a0_1, .int .u64 a0_2, .int .u64 a0_3, .int .u64 a0_4, .slice A0_5 l0_5.length c0_5, .slice A0_6 l0_6.length c0_6, .slice A0_7 l0_7.length c0_7, .slice A0_8 l0_8.length c0_8]) (t := 26) ?hr ?_; (case hd => rfl); (case hg => rfl); (case hr => first | (go_simp; done) | (go_simp; rfl)); intro gb101 hg w10 hbox hb; have BK101 := Aside0.mk (hbox); have GW101 := Aside0.mk ((by rw [hg]; exact (below_size (below_u HB.out)) : w.heap.size ≤ gb101)); have GE101 := Aside0.mk ((by rw [hg]; exact (below_size (below_u HB.out)) : w.heap.size ≤ gb101)); replace HB := Aside0.mk (below_step (below_u HB.out) hb); clear hb hbox hg) | ((with_reducible refine gate_dst (N := 2) rfl ?_); refine box_event ?hg (N := 2) ?hd (cs := #[.int .i64 0, .int .u64 0, .int .u64 0, .int .u64 0, .int .u64 0, .slice none 0 0, .slice none 0 0, .slice none 0 0, .slice none 0 0]) (t := 31) ?hr ?_; (case hd => rfl); (case hg => rfl); (case hr => first | (go_simp; done) | (go_simp; rfl)); intro gb102 hg w11 hbox hb; have BK102 := Aside0.mk (hbox); have GW102 := Aside0.mk ((by rw [hg]; exact (below_size (by repeat (first | (with_reducible first | exact HB.out | apply below_alloc | apply pw_below_drewN | apply below_drew1 | refine below_set ?_ GE101.out) | exact HB.out))) : w.heap.size ≤ gb102)); have GE102 := Aside0.mk ((by rw [hg]; exact (below_size (by repeat (first | (with_reducible first | exact HB.out | apply below_alloc | apply pw_below_drewN | apply below_drew1 | refine below_set ?_ GE101.out) | exact HB.out))) : w.heap.size ≤ gb102)); have NB101_102 := Aside0.mk ((by rw [hg]; exact Nat.ne_of_lt (blk_lt (g := gb101) (o := .cells #[.int .i64 a0_0, .int .u64 a0_1, .int .u64 a0_2, .int .u64 a0_3, .int .u64 a0_4, .slice A0_5 l0_5.length c0_5, .slice A0_6 l0_6.length c0_6, .slice A0_7 l0_7.length c0_7, .slice A0_8 l0_8.length c0_8] 26 (0, 0)) (blk_u BK101.out)) : gb101 ≠ gb102)); have NB102_101 := Aside0.mk ((by rw [hg]; exact Nat.ne_of_gt (blk_lt (g := gb101) (o := .cells #[.int .i64 a0_0, .int .u64 a0_1, .int .u64 a0_2, .int .u64 a0_3, .int .u64 a0_4, .slice A0_5 l0_5.length c0_5, .slice A0_6 l0_6.length c0_6, .slice A0_7 l0_7.length c0_7, .slice A0_8 l0_8.length c0_8] 26 (0, 0)) (blk_u BK101.out)) : gb102 ≠ gb101)); replace BK101 := Aside0.mk (blk_ub BK101.out hb); replace HB := Aside0.mk (below_step (by repeat (first | (with_reducible first | exact HB.out | apply below_alloc | apply pw_below_drewN | apply below_drew1 | refine below_set ?_ GE101.out) | exact HB.out)) hb); clear hb hbox hg; have hnb12 := NB101_102.out; have hnc12 := NB102_101.out; have hcz13_0 := blk_cell BK101.out; have hfz13_0 := blk_frozen BK101.out) | ((with_reducible refine gate_callee (f := 50) rfl ?_); refine goesL_ (some 6) rfl rfl Try.func50 (by kernel_rfl) rfl #[.agg #[.int .i64 a0_0, .int .u64 a0_1, .int .u64 a0_2, .int .u64 a0_3, .int .u64 a0_4, .slice A0_5 l0_5.length c0_5, .slice A0_6 l0_6.length c0_6, .slice A0_7 l0_7.length c0_7, .slice A0_8 l0_8.length c0_8]] rfl (by (try simp only [List.map_toArray, List.map_cons, List.map_nil]); first | done | rfl | (simp only [List.length_drop, List.length_take]; rfl)) ?_; (with_reducible refine (hist_Check.calls a0_0 a0_1 a0_2 a0_3 a0_4 _ _ l0_5 _ _ l0_6 _ _ l0_7 _ _ l0_8 t103 _ ?side1 ?side2 ?side3 ?side4 ?side5 ?side6 ?side7 ?side8 A2.out).mono ?_); (case side1 => exact Kd.C_u (Kd.C_below HR0_5.out HB.out)); (case side2 => exact HC0_5.out); (case side3 => exact Kd.C_u (Kd.C_below HR0_6.out HB.out)); (case side4 => exact HC0_6.out); (case side5 => exact Kd.C_u (Kd.C_below HR0_7.out HB.out)); (case side6 => exact HC0_7.out); (case side7 => exact Kd.C_u (Kd.C_below HR0_8.out HB.out)); (case side8 => exact HC0_8.out); rintro e w14 ⟨rfl, hb⟩; refine ⟨_, rfl, ?_⟩; replace BK101 := Aside0.mk (blk_ub BK101.out hb); replace BK102 := Aside0.mk (blk_ub BK102.out hb); replace HB := Aside0.mk (below_step (by repeat (first | (with_reducible first | exact HB.out | apply below_alloc | apply pw_below_drewN | apply below_drew1 | refine below_set ?_ GE101.out | refine below_set ?_ GE102.out) | exact HB.out)) hb); (try clear hb); (try clear hb2); (try clear hk); (try clear hi); clear A2))
  have n0_ := Aside0.mk (blk_drew BK101.out)
  have n1_ := Aside0.mk (blk_drew BK102.out)
  have n2_ := Aside0.mk (below_drew1 HB.out)
  clear BK101
  clear BK102
  clear HB
  have BK101 := n0_
  have BK102 := n1_
  have HB := n2_
  clear n0_ n1_ n2_
  refine start_ (n := 27) (S := fun w' => w'.cell? ⟨gb101, 0, none⟩ = some (.int .i64 a0_0) ∧ w'.cell? ⟨gb101, 1, none⟩ = some (.int .u64 a0_1) ∧ w'.cell? ⟨gb101, 2, none⟩ = some (.int .u64 a0_2) ∧ w'.cell? ⟨gb101, 3, none⟩ = some (.int .u64 a0_3) ∧ w'.cell? ⟨gb101, 4, none⟩ = some (.int .u64 a0_4) ∧ w'.cell? ⟨gb101, 5, none⟩ = some (.slice A0_5 l0_5.length c0_5) ∧ w'.cell? ⟨gb101, 6, none⟩ = some (.slice A0_6 l0_6.length c0_6) ∧ w'.cell? ⟨gb101, 7, none⟩ = some (.slice A0_7 l0_7.length c0_7) ∧ w'.cell? ⟨gb101, 8, none⟩ = some (.slice A0_8 l0_8.length c0_8)) (ds := []) #[false, false, false, false, false, false, false, false, false, false, false, false, false, false, false, false, false, false, false, false, false, false, false, false, false, false, false] (by kernel_rfl) rfl rfl ⟨(blk_cell BK101.out 0).trans rfl, (blk_cell BK101.out 1).trans rfl, (blk_cell BK101.out 2).trans rfl, (blk_cell BK101.out 3).trans rfl, (blk_cell BK101.out 4).trans rfl, (blk_cell BK101.out 5).trans rfl, (blk_cell BK101.out 6).trans rfl, (blk_cell BK101.out 7).trans rfl, (blk_cell BK101.out 8).trans rfl⟩ (fun hHeld => ?_); refine with_tabW fhist_From.tab4 fhist_From.bits4 (fun HT_ HW_ => ?_)
  generalize w14.drew = w15 at BK101 BK102 HB hHeld ⊢
  refine pure_ (i := 0) (N := some 11) (v := ?_) (a' := ?_) #[true, false, false, false, false, false, false, false, false, false, false, false, false, false, false, false, false, false, false, false, false, false, false, false, false, false, false] rfl rfl (any_of HT_.out (by kernel_rfl)) (fun _ _ _ h => h) (Or.inl ⟨by rfl, ?_⟩) ?_ ?_
  rotate_left
  ·intro w'
   go_simp
   with_reducible rfl
  rotate_left
  ·simp only [Act.put, List.setIfInBounds_toArray, List.set_cons_zero, List.set_cons_succ, i64_w, i32_w]
   rfl
  refine pure_ (i := 2) (N := some 13) (v := ?_) (a' := ?_) #[true, false, true, false, false, false, false, false, false, false, false, false, false, false, false, false, false, false, false, false, false, false, false, false, false, false, false] rfl rfl (any_of HT_.out (by kernel_rfl)) (fun _ _ _ h => h) (Or.inl ⟨by rfl, ?_⟩) ?_ ?_
  rotate_left
  ·intro w'
   go_simp
   with_reducible rfl
  rotate_left
  ·simp only [Act.put, List.setIfInBounds_toArray, List.set_cons_zero, List.set_cons_succ, i64_w, i32_w]
   rfl
  refine pure_ (i := 4) (N := some 15) (v := ?_) (a' := ?_) #[true, false, true, false, true, false, false, false, false, false, false, false, false, false, false, false, false, false, false, false, false, false, false, false, false, false, false] rfl rfl (any_of HT_.out (by kernel_rfl)) (fun _ _ _ h => h) (Or.inl ⟨by rfl, ?_⟩) ?_ ?_
  rotate_left
  ·intro w'
   go_simp
   with_reducible rfl
  rotate_left
  ·simp only [Act.put, List.setIfInBounds_toArray, List.set_cons_zero, List.set_cons_succ, i64_w, i32_w]
   rfl
  refine pure_ (i := 7) (N := some 18) (v := ?_) (a' := ?_) #[true, false, true, false, true, false, false, true, false, false, false, false, false, false, false, false, false, false, false, false, false, false, false, false, false, false, false] rfl rfl (any_of HT_.out (by kernel_rfl)) (fun _ _ _ h => h) (Or.inl ⟨by rfl, ?_⟩) ?_ ?_
  rotate_left
  ·intro w'
   go_simp
   with_reducible rfl
  rotate_left
  ·simp only [Act.put, List.setIfInBounds_toArray, List.set_cons_zero, List.set_cons_succ, i64_w, i32_w]
   rfl
  refine pure_ (i := 10) (N := some 21) (v := ?_) (a' := ?_) #[true, false, true, false, true, false, false, true, false, false, true, false, false, false, false, false, false, false, false, false, false, false, false, false, false, false, false] rfl rfl (any_of HT_.out (by kernel_rfl)) (fun _ _ _ h => h) (Or.inl ⟨by rfl, ?_⟩) ?_ ?_
  rotate_left
  ·intro w'
   go_simp
   with_reducible rfl
  rotate_left
  ·simp only [Act.put, List.setIfInBounds_toArray, List.set_cons_zero, List.set_cons_succ, i64_w, i32_w]
   rfl
  refine pure_ (i := 12) (N := some 23) (v := ?_) (a' := ?_) #[true, false, true, false, true, false, false, true, false, false, true, false, true, false, false, false, false, false, false, false, false, false, false, false, false, false, false] rfl rfl (any_of HT_.out (by kernel_rfl)) (fun _ _ _ h => h) (Or.inl ⟨by rfl, ?_⟩) ?_ ?_
  rotate_left
  ·intro w'
   go_simp
   with_reducible rfl
  rotate_left
  ·simp only [Act.put, List.setIfInBounds_toArray, List.set_cons_zero, List.set_cons_succ, i64_w, i32_w]
   rfl
  refine pure_ (i := 15) (N := some 26) (v := ?_) (a' := ?_) #[true, false, true, false, true, false, false, true, false, false, true, false, true, false, false, true, false, false, false, false, false, false, false, false, false, false, false] rfl rfl (any_of HT_.out (by kernel_rfl)) (fun _ _ _ h => h) (Or.inl ⟨by rfl, ?_⟩) ?_ ?_
  rotate_left
  ·intro w'
   go_simp
   with_reducible rfl
  rotate_left
  ·simp only [Act.put, List.setIfInBounds_toArray, List.set_cons_zero, List.set_cons_succ, i64_w, i32_w]
   rfl
  refine pure_ (i := 18) (N := some 29) (v := ?_) (a' := ?_) #[true, false, true, false, true, false, false, true, false, false, true, false, true, false, false, true, false, false, true, false, false, false, false, false, false, false, false] rfl rfl (any_of HT_.out (by kernel_rfl)) (fun _ _ _ h => h) (Or.inl ⟨by rfl, ?_⟩) ?_ ?_
  rotate_left
  ·intro w'
   go_simp
   with_reducible rfl
  rotate_left
  ·simp only [Act.put, List.setIfInBounds_toArray, List.set_cons_zero, List.set_cons_succ, i64_w, i32_w]
   rfl
  refine pure_ (i := 21) (N := some 32) (v := ?_) (a' := ?_) #[true, false, true, false, true, false, false, true, false, false, true, false, true, false, false, true, false, false, true, false, false, true, false, false, false, false, false] rfl rfl (any_of HT_.out (by kernel_rfl)) (fun _ _ _ h => h) (Or.inl ⟨by rfl, ?_⟩) ?_ ?_
  rotate_left
  ·intro w'
   go_simp
   with_reducible rfl
  rotate_left
  ·simp only [Act.put, List.setIfInBounds_toArray, List.set_cons_zero, List.set_cons_succ, i64_w, i32_w]
   rfl
  refine take_ (i := 1) (N := some 12) (v := ?_) (a' := ?_) #[true, true, true, false, true, false, false, true, false, false, true, false, true, false, false, true, false, false, true, false, false, true, false, false, false, false, false] rfl rfl (take_ofW HT_.out HW_.out (by kernel_rfl)) (fun _ _ _ h => h) (Or.inl ⟨by rfl, ?_⟩) hHeld ?_ ?_
  rotate_left
  ·rintro w' ⟨s0, s1, s2, s3, s4, s5, s6, s7, s8⟩
   go_simp
   with_reducible rfl
  rotate_left
  ·simp only [Act.put, List.setIfInBounds_toArray, List.set_cons_zero, List.set_cons_succ, i64_w, i32_w]
   rfl
  refine take_ (i := 3) (N := some 14) (v := ?_) (a' := ?_) #[true, true, true, true, true, false, false, true, false, false, true, false, true, false, false, true, false, false, true, false, false, true, false, false, false, false, false] rfl rfl (take_ofW HT_.out HW_.out (by kernel_rfl)) (fun _ _ _ h => h) (Or.inl ⟨by rfl, ?_⟩) hHeld ?_ ?_
  rotate_left
  ·rintro w' ⟨s0, s1, s2, s3, s4, s5, s6, s7, s8⟩
   go_simp
   with_reducible rfl
  rotate_left
  ·simp only [Act.put, List.setIfInBounds_toArray, List.set_cons_zero, List.set_cons_succ, i64_w, i32_w]
   rfl
  refine take_ (i := 5) (N := some 16) (v := ?_) (a' := ?_) #[true, true, true, true, true, true, false, true, false, false, true, false, true, false, false, true, false, false, true, false, false, true, false, false, false, false, false] rfl rfl (take_ofW HT_.out HW_.out (by kernel_rfl)) (fun _ _ _ h => h) (Or.inl ⟨by rfl, ?_⟩) hHeld ?_ ?_
  rotate_left
  ·rintro w' ⟨s0, s1, s2, s3, s4, s5, s6, s7, s8⟩
   go_simp
   with_reducible rfl
  rotate_left
  ·simp only [Act.put, List.setIfInBounds_toArray, List.set_cons_zero, List.set_cons_succ, i64_w, i32_w]
   rfl
  refine take_ (i := 8) (N := some 19) (v := ?_) (a' := ?_) #[true, true, true, true, true, true, false, true, true, false, true, false, true, false, false, true, false, false, true, false, false, true, false, false, false, false, false] rfl rfl (take_ofW HT_.out HW_.out (by kernel_rfl)) (fun _ _ _ h => h) (Or.inl ⟨by rfl, ?_⟩) hHeld ?_ ?_
  rotate_left
  ·rintro w' ⟨s0, s1, s2, s3, s4, s5, s6, s7, s8⟩
   go_simp
   with_reducible rfl
  rotate_left
  ·simp only [Act.put, List.setIfInBounds_toArray, List.set_cons_zero, List.set_cons_succ, i64_w, i32_w]
   rfl
  refine take_ (i := 11) (N := some 22) (v := ?_) (a' := ?_) #[true, true, true, true, true, true, false, true, true, false, true, true, true, false, false, true, false, false, true, false, false, true, false, false, false, false, false] rfl rfl (take_ofW HT_.out HW_.out (by kernel_rfl)) (fun _ _ _ h => h) (Or.inl ⟨by rfl, ?_⟩) hHeld ?_ ?_
  rotate_left
  ·rintro w' ⟨s0, s1, s2, s3, s4, s5, s6, s7, s8⟩
   go_simp
   with_reducible rfl
  rotate_left
  ·simp only [Act.put, List.setIfInBounds_toArray, List.set_cons_zero, List.set_cons_succ, i64_w, i32_w]
   rfl
  refine take_ (i := 13) (N := some 24) (v := ?_) (a' := ?_) #[true, true, true, true, true, true, false, true, true, false, true, true, true, true, false, true, false, false, true, false, false, true, false, false, false, false, false] rfl rfl (take_ofW HT_.out HW_.out (by kernel_rfl)) (fun _ _ _ h => h) (Or.inl ⟨by rfl, ?_⟩) hHeld ?_ ?_
  rotate_left
  ·rintro w' ⟨s0, s1, s2, s3, s4, s5, s6, s7, s8⟩
   go_simp
   with_reducible rfl
  rotate_left
  ·simp only [Act.put, List.setIfInBounds_toArray, List.set_cons_zero, List.set_cons_succ, i64_w, i32_w]
   rfl
  refine take_ (i := 16) (N := some 27) (v := ?_) (a' := ?_) #[true, true, true, true, true, true, false, true, true, false, true, true, true, true, false, true, true, false, true, false, false, true, false, false, false, false, false] rfl rfl (take_ofW HT_.out HW_.out (by kernel_rfl)) (fun _ _ _ h => h) (Or.inl ⟨by rfl, ?_⟩) hHeld ?_ ?_
  rotate_left
  ·rintro w' ⟨s0, s1, s2, s3, s4, s5, s6, s7, s8⟩
   go_simp
   with_reducible rfl
  rotate_left
  ·simp only [Act.put, List.setIfInBounds_toArray, List.set_cons_zero, List.set_cons_succ, i64_w, i32_w]
   rfl
  refine take_ (i := 19) (N := some 30) (v := ?_) (a' := ?_) #[true, true, true, true, true, true, false, true, true, false, true, true, true, true, false, true, true, false, true, true, false, true, false, false, false, false, false] rfl rfl (take_ofW HT_.out HW_.out (by kernel_rfl)) (fun _ _ _ h => h) (Or.inl ⟨by rfl, ?_⟩) hHeld ?_ ?_
  rotate_left
  ·rintro w' ⟨s0, s1, s2, s3, s4, s5, s6, s7, s8⟩
   go_simp
   with_reducible rfl
  rotate_left
  ·simp only [Act.put, List.setIfInBounds_toArray, List.set_cons_zero, List.set_cons_succ, i64_w, i32_w]
   rfl
  refine take_ (i := 22) (N := some 33) (v := ?_) (a' := ?_) #[true, true, true, true, true, true, false, true, true, false, true, true, true, true, false, true, true, false, true, true, false, true, true, false, false, false, false] rfl rfl (take_ofW HT_.out HW_.out (by kernel_rfl)) (fun _ _ _ h => h) (Or.inl ⟨by rfl, ?_⟩) hHeld ?_ ?_
  rotate_left
  ·rintro w' ⟨s0, s1, s2, s3, s4, s5, s6, s7, s8⟩
   go_simp
   with_reducible rfl
  rotate_left
  ·simp only [Act.put, List.setIfInBounds_toArray, List.set_cons_zero, List.set_cons_succ, i64_w, i32_w]
   rfl
  refine one_ (i := 6) (N := some 17) #[true, true, true, true, true, true, true, true, true, false, true, true, true, true, false, true, true, false, true, true, false, true, true, false, false, false, false] rfl rfl (one_of HT_.out (by kernel_rfl)) (by decide) (fun K hK => ?_)
  refine goes_ Try.func31 (by kernel_rfl) rfl #[.int .u64 a0_2] (by rfl) rfl rfl (by (try simp only [List.map_toArray, List.map_cons, List.map_nil]); first | done | rfl | (simp only [List.length_drop, List.length_take]; rfl)) ?_
  with_reducible refine (fhist_Float.calls a0_2 t104 _ A4.out).mono ?_
  rintro e w' ⟨rfl, ⟨nd, rfl⟩⟩
  refine ⟨_, rfl, ?_⟩
  refine hK.out _ _ ⟨(blk_cell BK101.out 0).trans rfl, (blk_cell BK101.out 1).trans rfl, (blk_cell BK101.out 2).trans rfl, (blk_cell BK101.out 3).trans rfl, (blk_cell BK101.out 4).trans rfl, (blk_cell BK101.out 5).trans rfl, (blk_cell BK101.out 6).trans rfl, (blk_cell BK101.out 7).trans rfl, (blk_cell BK101.out 8).trans rfl⟩ (fun hHeld => ?_)
  clear hK K
  refine norm_ (a' := ?_) ?_ ?_
  rotate_left
  ·show Act.put _ (some 17) _ = _
   simp only [Act.put, List.setIfInBounds_toArray, List.set_cons_zero, List.set_cons_succ, i64_w, i32_w]
   rfl
  refine one_ (i := 9) (N := some 20) #[true, true, true, true, true, true, true, true, true, true, true, true, true, true, false, true, true, false, true, true, false, true, true, false, false, false, false] rfl rfl (one_of HT_.out (by kernel_rfl)) (by decide) (fun K hK => ?_)
  refine goes_ Try.func31 (by kernel_rfl) rfl #[.int .u64 a0_3] (by rfl) rfl rfl (by (try simp only [List.map_toArray, List.map_cons, List.map_nil]); first | done | rfl | (simp only [List.length_drop, List.length_take]; rfl)) ?_
  with_reducible refine (fhist_Float.calls a0_3 t105 _ A5.out).mono ?_
  rintro e w' ⟨rfl, ⟨nd, rfl⟩⟩
  refine ⟨_, rfl, ?_⟩
  refine hK.out _ _ ⟨(blk_cell BK101.out 0).trans rfl, (blk_cell BK101.out 1).trans rfl, (blk_cell BK101.out 2).trans rfl, (blk_cell BK101.out 3).trans rfl, (blk_cell BK101.out 4).trans rfl, (blk_cell BK101.out 5).trans rfl, (blk_cell BK101.out 6).trans rfl, (blk_cell BK101.out 7).trans rfl, (blk_cell BK101.out 8).trans rfl⟩ (fun hHeld => ?_)
  clear hK K
  refine norm_ (a' := ?_) ?_ ?_
  rotate_left
  ·show Act.put _ (some 20) _ = _
   simp only [Act.put, List.setIfInBounds_toArray, List.set_cons_zero, List.set_cons_succ, i64_w, i32_w]
   rfl
  refine one_ (i := 14) (N := some 25) #[true, true, true, true, true, true, true, true, true, true, true, true, true, true, true, true, true, false, true, true, false, true, true, false, false, false, false] rfl rfl (one_of HT_.out (by kernel_rfl)) (by decide) (fun K hK => ?_)
  refine goes_ Try.func51 (by kernel_rfl) rfl #[.slice A0_5 l0_5.length c0_5] (by rfl) rfl rfl (by (try simp only [List.map_toArray, List.map_cons, List.map_nil]); first | done | rfl | (simp only [List.length_drop, List.length_take]; rfl)) ?_
  with_reducible refine (slices_Clone_span.calls _ _ l0_5 t106 _ ?side1 ?side2 A6.out).mono ?_
  (case side1 => repeat (first | exact (Kd.C_below HR0_5.out (by repeat (first | (with_reducible first | exact HB.out | apply below_alloc | apply pw_below_drewN | apply below_drew1 | refine below_set ?_ GE101.out | refine below_set ?_ GE102.out) | exact HB.out))) | (with_reducible refine Kd.C_alloc ?_ _) | (with_reducible refine Kd.C_drewN ?_ _) | (with_reducible refine Kd.C_drew ?_)))
  (case side2 => exact HC0_5.out)
  rintro e w16 ⟨v107, rfl, ho0, hb⟩
  refine ⟨_, rfl, ?_⟩
  have n0_ := Aside0.mk (Kd.R_lower ho0 (below_size (by repeat (first | (with_reducible first | exact HB.out | apply below_alloc | apply pw_below_drewN | apply below_drew1 | refine below_set ?_ GE101.out | refine below_set ?_ GE102.out) | exact HB.out))))
  have n1_ := Aside0.mk (blk_ub BK101.out hb)
  have n2_ := Aside0.mk (blk_ub BK102.out hb)
  have n3_ := Aside0.mk (below_step (by repeat (first | (with_reducible first | exact HB.out | apply below_alloc | apply pw_below_drewN | apply below_drew1 | refine below_set ?_ GE101.out | refine below_set ?_ GE102.out) | exact HB.out)) hb)
  clear BK101
  clear BK102
  clear HB
  have HO108 := n0_
  have BK101 := n1_
  have BK102 := n2_
  have HB := n3_
  clear n0_ n1_ n2_ n3_
  (try clear hb)
  (try clear hb2)
  (try clear hk)
  (try clear hi)
  (try clear ho0)
  refine hK.out _ _ ⟨(blk_cell BK101.out 0).trans rfl, (blk_cell BK101.out 1).trans rfl, (blk_cell BK101.out 2).trans rfl, (blk_cell BK101.out 3).trans rfl, (blk_cell BK101.out 4).trans rfl, (blk_cell BK101.out 5).trans rfl, (blk_cell BK101.out 6).trans rfl, (blk_cell BK101.out 7).trans rfl, (blk_cell BK101.out 8).trans rfl⟩ (fun hHeld => ?_)
  clear hK K
  refine norm_ (a' := ?_) ?_ ?_
  rotate_left
  ·show Act.put _ (some 25) _ = _
   simp only [Act.put, List.setIfInBounds_toArray, List.set_cons_zero, List.set_cons_succ, i64_w, i32_w]
   rfl
  refine one_ (i := 17) (N := some 28) #[true, true, true, true, true, true, true, true, true, true, true, true, true, true, true, true, true, true, true, true, false, true, true, false, false, false, false] rfl rfl (one_of HT_.out (by kernel_rfl)) (by decide) (fun K hK => ?_)
  refine goes_ Try.func51 (by kernel_rfl) rfl #[.slice A0_6 l0_6.length c0_6] (by rfl) rfl rfl (by (try simp only [List.map_toArray, List.map_cons, List.map_nil]); first | done | rfl | (simp only [List.length_drop, List.length_take]; rfl)) ?_
  with_reducible refine (slices_Clone_span.calls _ _ l0_6 t109 _ ?side1 ?side2 A7.out).mono ?_
  (case side1 => exact Kd.C_u (Kd.C_below HR0_6.out HB.out))
  (case side2 => exact HC0_6.out)
  rintro e w17 ⟨v110, rfl, ho0, hb⟩
  refine ⟨_, rfl, ?_⟩
  have n0_ := Aside0.mk (Kd.R_elder' (Kd.R_u HO108.out) (Kd.R_base ho0) hb)
  have n1_ := Aside0.mk (Kd.R_lower (Kd.R_new' ho0 (Kd.R_lt (Kd.R_u HO108.out))) (below_size (by repeat (first | (with_reducible first | exact HB.out | apply below_alloc | apply pw_below_drewN | apply below_drew1 | refine below_set ?_ GE101.out | refine below_set ?_ GE102.out) | exact HB.out))))
  have n2_ := Aside0.mk (blk_ub BK101.out hb)
  have n3_ := Aside0.mk (blk_ub BK102.out hb)
  have n4_ := Aside0.mk (below_step (by repeat (first | (with_reducible first | exact HB.out | apply below_alloc | apply pw_below_drewN | apply below_drew1 | refine below_set ?_ GE101.out | refine below_set ?_ GE102.out) | exact HB.out)) hb)
  clear HO108
  clear BK101
  clear BK102
  clear HB
  have HO108 := n0_
  have HO111 := n1_
  have BK101 := n2_
  have BK102 := n3_
  have HB := n4_
  clear n0_ n1_ n2_ n3_ n4_
  (try clear hb)
  (try clear hb2)
  (try clear hk)
  (try clear hi)
  (try clear ho0)
  refine hK.out _ _ ⟨(blk_cell BK101.out 0).trans rfl, (blk_cell BK101.out 1).trans rfl, (blk_cell BK101.out 2).trans rfl, (blk_cell BK101.out 3).trans rfl, (blk_cell BK101.out 4).trans rfl, (blk_cell BK101.out 5).trans rfl, (blk_cell BK101.out 6).trans rfl, (blk_cell BK101.out 7).trans rfl, (blk_cell BK101.out 8).trans rfl⟩ (fun hHeld => ?_)
  clear hK K
  refine norm_ (a' := ?_) ?_ ?_
  rotate_left
  ·show Act.put _ (some 28) _ = _
   simp only [Act.put, List.setIfInBounds_toArray, List.set_cons_zero, List.set_cons_succ, i64_w, i32_w]
   rfl
  refine one_ (i := 20) (N := some 31) #[true, true, true, true, true, true, true, true, true, true, true, true, true, true, true, true, true, true, true, true, true, true, true, false, false, false, false] rfl rfl (one_of HT_.out (by kernel_rfl)) (by decide) (fun K hK => ?_)
  refine goes_ Try.func52 (by kernel_rfl) rfl #[.slice A0_7 l0_7.length c0_7] (by rfl) rfl rfl (by (try simp only [List.map_toArray, List.map_cons, List.map_nil]); first | done | rfl | (simp only [List.length_drop, List.length_take]; rfl)) ?_
  with_reducible refine (fhist_floats.calls _ _ l0_7 t112 _ ?side1 ?side2 A8.out).mono ?_
  (case side1 => exact Kd.C_u (Kd.C_below HR0_7.out HB.out))
  (case side2 => exact HC0_7.out)
  rintro e w18 ⟨v113, rfl, ho0, hb⟩
  refine ⟨_, rfl, ?_⟩
  have n0_ := Aside0.mk (Kd.R_ub HO108.out hb)
  have n1_ := Aside0.mk (Kd.R_ub HO111.out hb)
  have n2_ := Aside0.mk (Kd.R_lower ho0 (below_size (by repeat (first | (with_reducible first | exact HB.out | apply below_alloc | apply pw_below_drewN | apply below_drew1 | refine below_set ?_ GE101.out | refine below_set ?_ GE102.out) | exact HB.out))))
  have n3_ := Aside0.mk (blk_ub BK101.out hb)
  have n4_ := Aside0.mk (blk_ub BK102.out hb)
  have n5_ := Aside0.mk (below_step (by repeat (first | (with_reducible first | exact HB.out | apply below_alloc | apply pw_below_drewN | apply below_drew1 | refine below_set ?_ GE101.out | refine below_set ?_ GE102.out) | exact HB.out)) hb)
  clear HO108
  clear HO111
  clear BK101
  clear BK102
  clear HB
  have HO108 := n0_
  have HO111 := n1_
  have HO114 := n2_
  have BK101 := n3_
  have BK102 := n4_
  have HB := n5_
  clear n0_ n1_ n2_ n3_ n4_ n5_
  (try clear hb)
  (try clear hb2)
  (try clear hk)
  (try clear hi)
  (try clear ho0)
  refine hK.out _ _ ⟨(blk_cell BK101.out 0).trans rfl, (blk_cell BK101.out 1).trans rfl, (blk_cell BK101.out 2).trans rfl, (blk_cell BK101.out 3).trans rfl, (blk_cell BK101.out 4).trans rfl, (blk_cell BK101.out 5).trans rfl, (blk_cell BK101.out 6).trans rfl, (blk_cell BK101.out 7).trans rfl, (blk_cell BK101.out 8).trans rfl⟩ (fun hHeld => ?_)
  clear hK K
  refine norm_ (a' := ?_) ?_ ?_
  rotate_left
  ·show Act.put _ (some 31) _ = _
   simp only [Act.put, List.setIfInBounds_toArray, List.set_cons_zero, List.set_cons_succ, i64_w, i32_w]
   rfl
  refine one_ (i := 23) (N := some 34) #[true, true, true, true, true, true, true, true, true, true, true, true, true, true, true, true, true, true, true, true, true, true, true, true, false, false, false] rfl rfl (one_of HT_.out (by kernel_rfl)) (by decide) (fun K hK => ?_)
  refine goes_ Try.func52 (by kernel_rfl) rfl #[.slice A0_8 l0_8.length c0_8] (by rfl) rfl rfl (by (try simp only [List.map_toArray, List.map_cons, List.map_nil]); first | done | rfl | (simp only [List.length_drop, List.length_take]; rfl)) ?_
  with_reducible refine (fhist_floats.calls _ _ l0_8 t115 _ ?side1 ?side2 A9.out).mono ?_
  (case side1 => exact Kd.C_u (Kd.C_below HR0_8.out HB.out))
  (case side2 => exact HC0_8.out)
  rintro e w19 ⟨v116, rfl, ho0, hb⟩
  refine ⟨_, rfl, ?_⟩
  have n0_ := Aside0.mk (Kd.R_ub HO108.out hb)
  have n1_ := Aside0.mk (Kd.R_ub HO111.out hb)
  have n2_ := Aside0.mk (Kd.R_elder' (Kd.R_u HO114.out) (Kd.R_base ho0) hb)
  have n3_ := Aside0.mk (Kd.R_lower (Kd.R_new' ho0 (Kd.R_lt (Kd.R_u HO114.out))) (below_size (by repeat (first | (with_reducible first | exact HB.out | apply below_alloc | apply pw_below_drewN | apply below_drew1 | refine below_set ?_ GE101.out | refine below_set ?_ GE102.out) | exact HB.out))))
  have n4_ := Aside0.mk (blk_ub BK101.out hb)
  have n5_ := Aside0.mk (blk_ub BK102.out hb)
  have n6_ := Aside0.mk (below_step (by repeat (first | (with_reducible first | exact HB.out | apply below_alloc | apply pw_below_drewN | apply below_drew1 | refine below_set ?_ GE101.out | refine below_set ?_ GE102.out) | exact HB.out)) hb)
  clear HO108
  clear HO111
  clear HO114
  clear BK101
  clear BK102
  clear HB
  have HO108 := n0_
  have HO111 := n1_
  have HO114 := n2_
  have HO117 := n3_
  have BK101 := n4_
  have BK102 := n5_
  have HB := n6_
  clear n0_ n1_ n2_ n3_ n4_ n5_ n6_
  (try clear hb)
  (try clear hb2)
  (try clear hk)
  (try clear hi)
  (try clear ho0)
  obtain ⟨Ao20, co20, eo20⟩ := Kd.R_slice HO117.out
  (first | subst eo20 | (injection eo20 with f1_ f2_ f3_; have f4_ := f1_.symm; have f5_ := f3_.symm; clear f1_ f2_ f3_; subst f4_; subst f5_))
  obtain ⟨Ao21, co21, eo21⟩ := Kd.R_slice HO114.out
  (first | subst eo21 | (injection eo21 with f1_ f2_ f3_; have f4_ := f1_.symm; have f5_ := f3_.symm; clear f1_ f2_ f3_; subst f4_; subst f5_))
  obtain ⟨Ao22, co22, eo22⟩ := Kd.R_slice HO111.out
  (first | subst eo22 | (injection eo22 with f1_ f2_ f3_; have f4_ := f1_.symm; have f5_ := f3_.symm; clear f1_ f2_ f3_; subst f4_; subst f5_))
  obtain ⟨Ao23, co23, eo23⟩ := Kd.R_slice HO108.out
  (first | subst eo23 | (injection eo23 with f1_ f2_ f3_; have f4_ := f1_.symm; have f5_ := f3_.symm; clear f1_ f2_ f3_; subst f4_; subst f5_))
  refine hK.out _ _ ⟨(blk_cell BK101.out 0).trans rfl, (blk_cell BK101.out 1).trans rfl, (blk_cell BK101.out 2).trans rfl, (blk_cell BK101.out 3).trans rfl, (blk_cell BK101.out 4).trans rfl, (blk_cell BK101.out 5).trans rfl, (blk_cell BK101.out 6).trans rfl, (blk_cell BK101.out 7).trans rfl, (blk_cell BK101.out 8).trans rfl⟩ (fun hHeld => ?_)
  clear hK K
  refine norm_ (a' := ?_) ?_ ?_
  rotate_left
  ·show Act.put _ (some 34) _ = _
   simp only [Act.put, List.setIfInBounds_toArray, List.set_cons_zero, List.set_cons_succ, i64_w, i32_w]
   rfl
  refine pure_ (i := 24) (N := some 35) (v := ?_) (a' := ?_) #[true, true, true, true, true, true, true, true, true, true, true, true, true, true, true, true, true, true, true, true, true, true, true, true, true, false, false] rfl rfl (any_of HT_.out (by kernel_rfl)) (fun _ _ _ h => h) (Or.inl ⟨by rfl, ?_⟩) ?_ ?_
  rotate_left
  ·intro w'
   go_simp
   with_reducible rfl
  rotate_left
  ·simp only [Act.put, List.setIfInBounds_toArray, List.set_cons_zero, List.set_cons_succ, i64_w, i32_w]
   rfl
  refine one_ (i := 25) (N := none) #[true, true, true, true, true, true, true, true, true, true, true, true, true, true, true, true, true, true, true, true, true, true, true, true, true, true, false] rfl rfl (one_of HT_.out (by kernel_rfl)) (by decide) (fun K hK => ?_)
  have hs24 : w19.cell? ⟨gb102, 0, none⟩ = some (.int .i64 0) := (blk_cell BK102.out 0).trans rfl
  have hfs24 := blk_frozen BK102.out 0
  have hns24_0 := NB101_102.out
  have hms24_0 := NB102_101.out
  have hs25 : w19.cell? ⟨gb102, 1, none⟩ = some (.int .u64 0) := (blk_cell BK102.out 1).trans rfl
  have hfs25 := blk_frozen BK102.out 1
  have hns25_0 := NB101_102.out
  have hms25_0 := NB102_101.out
  have hs26 : w19.cell? ⟨gb102, 2, none⟩ = some (.int .u64 0) := (blk_cell BK102.out 2).trans rfl
  have hfs26 := blk_frozen BK102.out 2
  have hns26_0 := NB101_102.out
  have hms26_0 := NB102_101.out
  have hs27 : w19.cell? ⟨gb102, 3, none⟩ = some (.int .u64 0) := (blk_cell BK102.out 3).trans rfl
  have hfs27 := blk_frozen BK102.out 3
  have hns27_0 := NB101_102.out
  have hms27_0 := NB102_101.out
  have hs28 : w19.cell? ⟨gb102, 4, none⟩ = some (.int .u64 0) := (blk_cell BK102.out 4).trans rfl
  have hfs28 := blk_frozen BK102.out 4
  have hns28_0 := NB101_102.out
  have hms28_0 := NB102_101.out
  have hs29 : w19.cell? ⟨gb102, 5, none⟩ = some (.slice none 0 0) := (blk_cell BK102.out 5).trans rfl
  have hfs29 := blk_frozen BK102.out 5
  have hns29_0 := NB101_102.out
  have hms29_0 := NB102_101.out
  have hs30 : w19.cell? ⟨gb102, 6, none⟩ = some (.slice none 0 0) := (blk_cell BK102.out 6).trans rfl
  have hfs30 := blk_frozen BK102.out 6
  have hns30_0 := NB101_102.out
  have hms30_0 := NB102_101.out
  have hs31 : w19.cell? ⟨gb102, 7, none⟩ = some (.slice none 0 0) := (blk_cell BK102.out 7).trans rfl
  have hfs31 := blk_frozen BK102.out 7
  have hns31_0 := NB101_102.out
  have hms31_0 := NB102_101.out
  have hs32 : w19.cell? ⟨gb102, 8, none⟩ = some (.slice none 0 0) := (blk_cell BK102.out 8).trans rfl
  have hfs32 := blk_frozen BK102.out 8
  have hns32_0 := NB101_102.out
  have hms32_0 := NB102_101.out
  refine skip_ (w1 := ?_) (by rfl) rfl ?_ ?_
  rotate_left
  ·go_simp
   rfl
  refine hK.out _ _ ⟨((cell_far (p := ⟨gb102, _, none⟩) NB101_102.out _).trans (((cell_far (p := ⟨gb102, _, none⟩) NB101_102.out _).trans (((cell_far (p := ⟨gb102, _, none⟩) NB101_102.out _).trans (((cell_far (p := ⟨gb102, _, none⟩) NB101_102.out _).trans (((cell_far (p := ⟨gb102, _, none⟩) NB101_102.out _).trans (((cell_far (p := ⟨gb102, _, none⟩) NB101_102.out _).trans (((cell_far (p := ⟨gb102, _, none⟩) NB101_102.out _).trans (((cell_far (p := ⟨gb102, _, none⟩) NB101_102.out _).trans (((cell_far (p := ⟨gb102, _, none⟩) NB101_102.out _).trans (hHeld.1)))))))))))))))))), ((cell_far (p := ⟨gb102, _, none⟩) NB101_102.out _).trans (((cell_far (p := ⟨gb102, _, none⟩) NB101_102.out _).trans (((cell_far (p := ⟨gb102, _, none⟩) NB101_102.out _).trans (((cell_far (p := ⟨gb102, _, none⟩) NB101_102.out _).trans (((cell_far (p := ⟨gb102, _, none⟩) NB101_102.out _).trans (((cell_far (p := ⟨gb102, _, none⟩) NB101_102.out _).trans (((cell_far (p := ⟨gb102, _, none⟩) NB101_102.out _).trans (((cell_far (p := ⟨gb102, _, none⟩) NB101_102.out _).trans (((cell_far (p := ⟨gb102, _, none⟩) NB101_102.out _).trans (hHeld.2.1)))))))))))))))))), ((cell_far (p := ⟨gb102, _, none⟩) NB101_102.out _).trans (((cell_far (p := ⟨gb102, _, none⟩) NB101_102.out _).trans (((cell_far (p := ⟨gb102, _, none⟩) NB101_102.out _).trans (((cell_far (p := ⟨gb102, _, none⟩) NB101_102.out _).trans (((cell_far (p := ⟨gb102, _, none⟩) NB101_102.out _).trans (((cell_far (p := ⟨gb102, _, none⟩) NB101_102.out _).trans (((cell_far (p := ⟨gb102, _, none⟩) NB101_102.out _).trans (((cell_far (p := ⟨gb102, _, none⟩) NB101_102.out _).trans (((cell_far (p := ⟨gb102, _, none⟩) NB101_102.out _).trans (hHeld.2.2.1)))))))))))))))))), ((cell_far (p := ⟨gb102, _, none⟩) NB101_102.out _).trans (((cell_far (p := ⟨gb102, _, none⟩) NB101_102.out _).trans (((cell_far (p := ⟨gb102, _, none⟩) NB101_102.out _).trans (((cell_far (p := ⟨gb102, _, none⟩) NB101_102.out _).trans (((cell_far (p := ⟨gb102, _, none⟩) NB101_102.out _).trans (((cell_far (p := ⟨gb102, _, none⟩) NB101_102.out _).trans (((cell_far (p := ⟨gb102, _, none⟩) NB101_102.out _).trans (((cell_far (p := ⟨gb102, _, none⟩) NB101_102.out _).trans (((cell_far (p := ⟨gb102, _, none⟩) NB101_102.out _).trans (hHeld.2.2.2.1)))))))))))))))))), ((cell_far (p := ⟨gb102, _, none⟩) NB101_102.out _).trans (((cell_far (p := ⟨gb102, _, none⟩) NB101_102.out _).trans (((cell_far (p := ⟨gb102, _, none⟩) NB101_102.out _).trans (((cell_far (p := ⟨gb102, _, none⟩) NB101_102.out _).trans (((cell_far (p := ⟨gb102, _, none⟩) NB101_102.out _).trans (((cell_far (p := ⟨gb102, _, none⟩) NB101_102.out _).trans (((cell_far (p := ⟨gb102, _, none⟩) NB101_102.out _).trans (((cell_far (p := ⟨gb102, _, none⟩) NB101_102.out _).trans (((cell_far (p := ⟨gb102, _, none⟩) NB101_102.out _).trans (hHeld.2.2.2.2.1)))))))))))))))))), ((cell_far (p := ⟨gb102, _, none⟩) NB101_102.out _).trans (((cell_far (p := ⟨gb102, _, none⟩) NB101_102.out _).trans (((cell_far (p := ⟨gb102, _, none⟩) NB101_102.out _).trans (((cell_far (p := ⟨gb102, _, none⟩) NB101_102.out _).trans (((cell_far (p := ⟨gb102, _, none⟩) NB101_102.out _).trans (((cell_far (p := ⟨gb102, _, none⟩) NB101_102.out _).trans (((cell_far (p := ⟨gb102, _, none⟩) NB101_102.out _).trans (((cell_far (p := ⟨gb102, _, none⟩) NB101_102.out _).trans (((cell_far (p := ⟨gb102, _, none⟩) NB101_102.out _).trans (hHeld.2.2.2.2.2.1)))))))))))))))))), ((cell_far (p := ⟨gb102, _, none⟩) NB101_102.out _).trans (((cell_far (p := ⟨gb102, _, none⟩) NB101_102.out _).trans (((cell_far (p := ⟨gb102, _, none⟩) NB101_102.out _).trans (((cell_far (p := ⟨gb102, _, none⟩) NB101_102.out _).trans (((cell_far (p := ⟨gb102, _, none⟩) NB101_102.out _).trans (((cell_far (p := ⟨gb102, _, none⟩) NB101_102.out _).trans (((cell_far (p := ⟨gb102, _, none⟩) NB101_102.out _).trans (((cell_far (p := ⟨gb102, _, none⟩) NB101_102.out _).trans (((cell_far (p := ⟨gb102, _, none⟩) NB101_102.out _).trans (hHeld.2.2.2.2.2.2.1)))))))))))))))))), ((cell_far (p := ⟨gb102, _, none⟩) NB101_102.out _).trans (((cell_far (p := ⟨gb102, _, none⟩) NB101_102.out _).trans (((cell_far (p := ⟨gb102, _, none⟩) NB101_102.out _).trans (((cell_far (p := ⟨gb102, _, none⟩) NB101_102.out _).trans (((cell_far (p := ⟨gb102, _, none⟩) NB101_102.out _).trans (((cell_far (p := ⟨gb102, _, none⟩) NB101_102.out _).trans (((cell_far (p := ⟨gb102, _, none⟩) NB101_102.out _).trans (((cell_far (p := ⟨gb102, _, none⟩) NB101_102.out _).trans (((cell_far (p := ⟨gb102, _, none⟩) NB101_102.out _).trans (hHeld.2.2.2.2.2.2.2.1)))))))))))))))))), ((cell_far (p := ⟨gb102, _, none⟩) NB101_102.out _).trans (((cell_far (p := ⟨gb102, _, none⟩) NB101_102.out _).trans (((cell_far (p := ⟨gb102, _, none⟩) NB101_102.out _).trans (((cell_far (p := ⟨gb102, _, none⟩) NB101_102.out _).trans (((cell_far (p := ⟨gb102, _, none⟩) NB101_102.out _).trans (((cell_far (p := ⟨gb102, _, none⟩) NB101_102.out _).trans (((cell_far (p := ⟨gb102, _, none⟩) NB101_102.out _).trans (((cell_far (p := ⟨gb102, _, none⟩) NB101_102.out _).trans (((cell_far (p := ⟨gb102, _, none⟩) NB101_102.out _).trans (hHeld.2.2.2.2.2.2.2.2))))))))))))))))))⟩ (fun hHeld => ?_)
  clear hK K
  refine pure_ (i := 26) (N := some 3) (v := ?_) (a' := ?_) #[true, true, true, true, true, true, true, true, true, true, true, true, true, true, true, true, true, true, true, true, true, true, true, true, true, true, true] rfl rfl (any_of HT_.out (by kernel_rfl)) (fun _ _ _ h => h) (Or.inl ⟨by rfl, ?_⟩) ?_ ?_
  rotate_left
  ·intro w'
   go_simp
   with_reducible rfl
  rotate_left
  ·simp only [Act.put, List.setIfInBounds_toArray, List.set_cons_zero, List.set_cons_succ, i64_w, i32_w]
   rfl
  refine done_ (done_of HT_.out (by kernel_rfl)) ?_
  try go_wp2
  refine bodyPost_ret (results_ct rfl _ _ gb102 31 #[.int .i64 a0_0, .int .u64 a0_1, .int .u64 t104, .int .u64 t105, .int .u64 a0_4, .slice Ao23 t106.length co23, .slice Ao22 t109.length co22, .slice Ao21 t112.length co21, .slice Ao20 t115.length co20] (0, 0) _ rfl (by (repeat with_reducible refine blk_q ?_); refine blk_put (cs := #[.int .i64 a0_0, .int .u64 a0_1, .int .u64 t104, .int .u64 t105, .int .u64 a0_4, .slice Ao23 t106.length co23, .slice Ao22 t109.length co22, .slice Ao21 t112.length co21, .slice none 0 0]) ?_ 8 _ rfl; (repeat with_reducible refine blk_q ?_); refine blk_put (cs := #[.int .i64 a0_0, .int .u64 a0_1, .int .u64 t104, .int .u64 t105, .int .u64 a0_4, .slice Ao23 t106.length co23, .slice Ao22 t109.length co22, .slice none 0 0, .slice none 0 0]) ?_ 7 _ rfl; (repeat with_reducible refine blk_q ?_); refine blk_put (cs := #[.int .i64 a0_0, .int .u64 a0_1, .int .u64 t104, .int .u64 t105, .int .u64 a0_4, .slice Ao23 t106.length co23, .slice none 0 0, .slice none 0 0, .slice none 0 0]) ?_ 6 _ rfl; (repeat with_reducible refine blk_q ?_); refine blk_put (cs := #[.int .i64 a0_0, .int .u64 a0_1, .int .u64 t104, .int .u64 t105, .int .u64 a0_4, .slice none 0 0, .slice none 0 0, .slice none 0 0, .slice none 0 0]) ?_ 5 _ rfl; (repeat with_reducible refine blk_q ?_); refine blk_put (cs := #[.int .i64 a0_0, .int .u64 a0_1, .int .u64 t104, .int .u64 t105, .int .u64 0, .slice none 0 0, .slice none 0 0, .slice none 0 0, .slice none 0 0]) ?_ 4 _ rfl; (repeat with_reducible refine blk_q ?_); refine blk_put (cs := #[.int .i64 a0_0, .int .u64 a0_1, .int .u64 t104, .int .u64 0, .int .u64 0, .slice none 0 0, .slice none 0 0, .slice none 0 0, .slice none 0 0]) ?_ 3 _ rfl; (repeat with_reducible refine blk_q ?_); refine blk_put (cs := #[.int .i64 a0_0, .int .u64 a0_1, .int .u64 0, .int .u64 0, .int .u64 0, .slice none 0 0, .slice none 0 0, .slice none 0 0, .slice none 0 0]) ?_ 2 _ rfl; (repeat with_reducible refine blk_q ?_); refine blk_put (cs := #[.int .i64 a0_0, .int .u64 0, .int .u64 0, .int .u64 0, .int .u64 0, .slice none 0 0, .slice none 0 0, .slice none 0 0, .slice none 0 0]) ?_ 1 _ rfl; (repeat with_reducible refine blk_q ?_); refine blk_put (cs := #[.int .i64 0, .int .u64 0, .int .u64 0, .int .u64 0, .int .u64 0, .slice none 0 0, .slice none 0 0, .slice none 0 0, .slice none 0 0]) ?_ 0 _ rfl; (repeat with_reducible refine blk_q ?_); exact BK102.out) Try.underlying31 rfl (by kernel_rfl)) rfl ?_
  exact ⟨_, _, _, _, by first | rfl | (simp [errW_none, errW_some] <;> rfl) | (simp [*, errW_none, errW_some] <;> rfl), by (repeat with_reducible refine Kd.R_q ?_); exact Kd.R_mono (Kd.R_far (p := ⟨gb102, 8, none⟩) (Kd.R_far (p := ⟨gb102, 7, none⟩) (Kd.R_far (p := ⟨gb102, 6, none⟩) (Kd.R_far (p := ⟨gb102, 5, none⟩) (Kd.R_far (p := ⟨gb102, 4, none⟩) (Kd.R_far (p := ⟨gb102, 3, none⟩) (Kd.R_far (p := ⟨gb102, 2, none⟩) (Kd.R_far (p := ⟨gb102, 1, none⟩) (Kd.R_far (p := ⟨gb102, 0, none⟩) (Kd.R_types HO108.out BK102.out (by decide)) (fun _ hk => hk.2) (.int .i64 a0_0)) (fun _ hk => hk.2) (.int .u64 a0_1)) (fun _ hk => hk.2) (.int .u64 t104)) (fun _ hk => hk.2) (.int .u64 t105)) (fun _ hk => hk.2) (.int .u64 a0_4)) (fun _ hk => hk.2) (.slice Ao23 t106.length co23)) (fun _ hk => hk.2) (.slice Ao22 t109.length co22)) (fun _ hk => hk.2) (.slice Ao21 t112.length co21)) (fun _ hk => hk.2) (.slice Ao20 t115.length co20)) (fun _ hk => hk.1.2), by (repeat with_reducible refine Kd.R_q ?_); exact Kd.R_mono (Kd.R_far (p := ⟨gb102, 8, none⟩) (Kd.R_far (p := ⟨gb102, 7, none⟩) (Kd.R_far (p := ⟨gb102, 6, none⟩) (Kd.R_far (p := ⟨gb102, 5, none⟩) (Kd.R_far (p := ⟨gb102, 4, none⟩) (Kd.R_far (p := ⟨gb102, 3, none⟩) (Kd.R_far (p := ⟨gb102, 2, none⟩) (Kd.R_far (p := ⟨gb102, 1, none⟩) (Kd.R_far (p := ⟨gb102, 0, none⟩) (Kd.R_types HO111.out BK102.out (by decide)) (fun _ hk => hk.2) (.int .i64 a0_0)) (fun _ hk => hk.2) (.int .u64 a0_1)) (fun _ hk => hk.2) (.int .u64 t104)) (fun _ hk => hk.2) (.int .u64 t105)) (fun _ hk => hk.2) (.int .u64 a0_4)) (fun _ hk => hk.2) (.slice Ao23 t106.length co23)) (fun _ hk => hk.2) (.slice Ao22 t109.length co22)) (fun _ hk => hk.2) (.slice Ao21 t112.length co21)) (fun _ hk => hk.2) (.slice Ao20 t115.length co20)) (fun _ hk => hk.1.2), by (repeat with_reducible refine Kd.R_q ?_); exact Kd.R_mono (Kd.R_far (p := ⟨gb102, 8, none⟩) (Kd.R_far (p := ⟨gb102, 7, none⟩) (Kd.R_far (p := ⟨gb102, 6, none⟩) (Kd.R_far (p := ⟨gb102, 5, none⟩) (Kd.R_far (p := ⟨gb102, 4, none⟩) (Kd.R_far (p := ⟨gb102, 3, none⟩) (Kd.R_far (p := ⟨gb102, 2, none⟩) (Kd.R_far (p := ⟨gb102, 1, none⟩) (Kd.R_far (p := ⟨gb102, 0, none⟩) (Kd.R_types HO114.out BK102.out (by decide)) (fun _ hk => hk.2) (.int .i64 a0_0)) (fun _ hk => hk.2) (.int .u64 a0_1)) (fun _ hk => hk.2) (.int .u64 t104)) (fun _ hk => hk.2) (.int .u64 t105)) (fun _ hk => hk.2) (.int .u64 a0_4)) (fun _ hk => hk.2) (.slice Ao23 t106.length co23)) (fun _ hk => hk.2) (.slice Ao22 t109.length co22)) (fun _ hk => hk.2) (.slice Ao21 t112.length co21)) (fun _ hk => hk.2) (.slice Ao20 t115.length co20)) (fun _ hk => hk.1.2), by (repeat with_reducible refine Kd.R_q ?_); exact Kd.R_mono (Kd.R_far (p := ⟨gb102, 8, none⟩) (Kd.R_far (p := ⟨gb102, 7, none⟩) (Kd.R_far (p := ⟨gb102, 6, none⟩) (Kd.R_far (p := ⟨gb102, 5, none⟩) (Kd.R_far (p := ⟨gb102, 4, none⟩) (Kd.R_far (p := ⟨gb102, 3, none⟩) (Kd.R_far (p := ⟨gb102, 2, none⟩) (Kd.R_far (p := ⟨gb102, 1, none⟩) (Kd.R_far (p := ⟨gb102, 0, none⟩) (Kd.R_types HO117.out BK102.out (by decide)) (fun _ hk => hk.2) (.int .i64 a0_0)) (fun _ hk => hk.2) (.int .u64 a0_1)) (fun _ hk => hk.2) (.int .u64 t104)) (fun _ hk => hk.2) (.int .u64 t105)) (fun _ hk => hk.2) (.int .u64 a0_4)) (fun _ hk => hk.2) (.slice Ao23 t106.length co23)) (fun _ hk => hk.2) (.slice Ao22 t109.length co22)) (fun _ hk => hk.2) (.slice Ao21 t112.length co21)) (fun _ hk => hk.2) (.slice Ao20 t115.length co20)) (fun _ hk => hk.1.2), by repeat (first | (with_reducible first | exact HB.out | apply below_alloc | apply pw_below_drewN | apply below_drew1 | refine below_set ?_ GE101.out | refine below_set ?_ GE102.out) | exact HB.out)⟩
 rw [if_neg c3] at H
 have c3b0 : (t103 == 0) = false := beq_eq_false_iff_ne.mpr c3
 have c3b1 : (t103 != 0) = true := bne_iff_ne.mpr c3
 simp only [Option.some.injEq, Prod.mk.injEq] at H
 obtain ⟨rfl, rfl, rfl, rfl, rfl, rfl, rfl, rfl, rfl, rfl⟩ := H
 go_enter Try.func11, Try.ntmps11
 go_wp2_with (first | ((with_reducible refine gate_dst (N := 1) rfl ?_); refine box_event ?hg (N := 1) ?hd (cs := #[.int .i64 a0_0, .int .u64 a0_1, .int .u64 a0_2, .int .u64 a0_3, .int .u64 a0_4, .slice A0_5 l0_5.length c0_5, .slice A0_6 l0_6.length c0_6, .slice A0_7 l0_7.length c0_7, .slice A0_8 l0_8.length c0_8]) (t := 26) ?hr ?_; (case hd => rfl); (case hg => rfl); (case hr => first | (go_simp; done) | (go_simp; rfl)); intro gb101 hg w33 hbox hb; have BK101 := Aside0.mk (hbox); have GW101 := Aside0.mk ((by rw [hg]; exact (below_size (below_u HB.out)) : w.heap.size ≤ gb101)); have GE101 := Aside0.mk ((by rw [hg]; exact (below_size (below_u HB.out)) : w.heap.size ≤ gb101)); replace HB := Aside0.mk (below_step (below_u HB.out) hb); clear hb hbox hg) | ((with_reducible refine gate_dst (N := 2) rfl ?_); refine box_event ?hg (N := 2) ?hd (cs := #[.int .i64 0, .int .u64 0, .int .u64 0, .int .u64 0, .int .u64 0, .slice none 0 0, .slice none 0 0, .slice none 0 0, .slice none 0 0]) (t := 31) ?hr ?_; (case hd => rfl); (case hg => rfl); (case hr => first | (go_simp; done) | (go_simp; rfl)); intro gb102 hg w34 hbox hb; have BK102 := Aside0.mk (hbox); have GW102 := Aside0.mk ((by rw [hg]; exact (below_size (by repeat (first | (with_reducible first | exact HB.out | apply below_alloc | apply pw_below_drewN | apply below_drew1 | refine below_set ?_ GE101.out) | exact HB.out))) : w.heap.size ≤ gb102)); have GE102 := Aside0.mk ((by rw [hg]; exact (below_size (by repeat (first | (with_reducible first | exact HB.out | apply below_alloc | apply pw_below_drewN | apply below_drew1 | refine below_set ?_ GE101.out) | exact HB.out))) : w.heap.size ≤ gb102)); have NB101_102 := Aside0.mk ((by rw [hg]; exact Nat.ne_of_lt (blk_lt (g := gb101) (o := .cells #[.int .i64 a0_0, .int .u64 a0_1, .int .u64 a0_2, .int .u64 a0_3, .int .u64 a0_4, .slice A0_5 l0_5.length c0_5, .slice A0_6 l0_6.length c0_6, .slice A0_7 l0_7.length c0_7, .slice A0_8 l0_8.length c0_8] 26 (0, 0)) (blk_u BK101.out)) : gb101 ≠ gb102)); have NB102_101 := Aside0.mk ((by rw [hg]; exact Nat.ne_of_gt (blk_lt (g := gb101) (o := .cells #[.int .i64 a0_0, .int .u64 a0_1, .int .u64 a0_2, .int .u64 a0_3, .int .u64 a0_4, .slice A0_5 l0_5.length c0_5, .slice A0_6 l0_6.length c0_6, .slice A0_7 l0_7.length c0_7, .slice A0_8 l0_8.length c0_8] 26 (0, 0)) (blk_u BK101.out)) : gb102 ≠ gb101)); replace BK101 := Aside0.mk (blk_ub BK101.out hb); replace HB := Aside0.mk (below_step (by repeat (first | (with_reducible first | exact HB.out | apply below_alloc | apply pw_below_drewN | apply below_drew1 | refine below_set ?_ GE101.out) | exact HB.out)) hb); clear hb hbox hg; have hnb35 := NB101_102.out; have hnc35 := NB102_101.out; have hcz36_0 := blk_cell BK101.out; have hfz36_0 := blk_frozen BK101.out) | ((with_reducible refine gate_callee (f := 50) rfl ?_); refine goesL_ (some 6) rfl rfl Try.func50 (by kernel_rfl) rfl #[.agg #[.int .i64 a0_0, .int .u64 a0_1, .int .u64 a0_2, .int .u64 a0_3, .int .u64 a0_4, .slice A0_5 l0_5.length c0_5, .slice A0_6 l0_6.length c0_6, .slice A0_7 l0_7.length c0_7, .slice A0_8 l0_8.length c0_8]] rfl (by (try simp only [List.map_toArray, List.map_cons, List.map_nil]); first | done | rfl | (simp only [List.length_drop, List.length_take]; rfl)) ?_; (with_reducible refine (hist_Check.calls a0_0 a0_1 a0_2 a0_3 a0_4 _ _ l0_5 _ _ l0_6 _ _ l0_7 _ _ l0_8 t103 _ ?side1 ?side2 ?side3 ?side4 ?side5 ?side6 ?side7 ?side8 A2.out).mono ?_); (case side1 => exact Kd.C_u (Kd.C_below HR0_5.out HB.out)); (case side2 => exact HC0_5.out); (case side3 => exact Kd.C_u (Kd.C_below HR0_6.out HB.out)); (case side4 => exact HC0_6.out); (case side5 => exact Kd.C_u (Kd.C_below HR0_7.out HB.out)); (case side6 => exact HC0_7.out); (case side7 => exact Kd.C_u (Kd.C_below HR0_8.out HB.out)); (case side8 => exact HC0_8.out); rintro e w37 ⟨rfl, hb⟩; refine ⟨_, rfl, ?_⟩; replace BK101 := Aside0.mk (blk_ub BK101.out hb); replace BK102 := Aside0.mk (blk_ub BK102.out hb); replace HB := Aside0.mk (below_step (by repeat (first | (with_reducible first | exact HB.out | apply below_alloc | apply pw_below_drewN | apply below_drew1 | refine below_set ?_ GE101.out | refine below_set ?_ GE102.out) | exact HB.out)) hb); (try clear hb); (try clear hb2); (try clear hk); (try clear hi); clear A2; have hcz38_0 := blk_cell BK102.out; have hfz38_0 := blk_frozen BK102.out))
 refine bodyPost_ret (results_ct rfl _ _ gb102 31 #[.int .i64 0, .int .u64 0, .int .u64 0, .int .u64 0, .int .u64 0, .slice none 0 0, .slice none 0 0, .slice none 0 0, .slice none 0 0] (0, 0) _ rfl (by (repeat with_reducible refine blk_q ?_); refine blk_put (cs := #[.int .i64 0, .int .u64 0, .int .u64 0, .int .u64 0, .int .u64 0, .slice none 0 0, .slice none 0 0, .slice none 0 0, .slice none 0 0]) ?_ 8 _ rfl; (repeat with_reducible refine blk_q ?_); refine blk_put (cs := #[.int .i64 0, .int .u64 0, .int .u64 0, .int .u64 0, .int .u64 0, .slice none 0 0, .slice none 0 0, .slice none 0 0, .slice none 0 0]) ?_ 7 _ rfl; (repeat with_reducible refine blk_q ?_); refine blk_put (cs := #[.int .i64 0, .int .u64 0, .int .u64 0, .int .u64 0, .int .u64 0, .slice none 0 0, .slice none 0 0, .slice none 0 0, .slice none 0 0]) ?_ 6 _ rfl; (repeat with_reducible refine blk_q ?_); refine blk_put (cs := #[.int .i64 0, .int .u64 0, .int .u64 0, .int .u64 0, .int .u64 0, .slice none 0 0, .slice none 0 0, .slice none 0 0, .slice none 0 0]) ?_ 5 _ rfl; (repeat with_reducible refine blk_q ?_); refine blk_put (cs := #[.int .i64 0, .int .u64 0, .int .u64 0, .int .u64 0, .int .u64 0, .slice none 0 0, .slice none 0 0, .slice none 0 0, .slice none 0 0]) ?_ 4 _ rfl; (repeat with_reducible refine blk_q ?_); refine blk_put (cs := #[.int .i64 0, .int .u64 0, .int .u64 0, .int .u64 0, .int .u64 0, .slice none 0 0, .slice none 0 0, .slice none 0 0, .slice none 0 0]) ?_ 3 _ rfl; (repeat with_reducible refine blk_q ?_); refine blk_put (cs := #[.int .i64 0, .int .u64 0, .int .u64 0, .int .u64 0, .int .u64 0, .slice none 0 0, .slice none 0 0, .slice none 0 0, .slice none 0 0]) ?_ 2 _ rfl; (repeat with_reducible refine blk_q ?_); refine blk_put (cs := #[.int .i64 0, .int .u64 0, .int .u64 0, .int .u64 0, .int .u64 0, .slice none 0 0, .slice none 0 0, .slice none 0 0, .slice none 0 0]) ?_ 1 _ rfl; (repeat with_reducible refine blk_q ?_); refine blk_put (cs := #[.int .i64 0, .int .u64 0, .int .u64 0, .int .u64 0, .int .u64 0, .slice none 0 0, .slice none 0 0, .slice none 0 0, .slice none 0 0]) ?_ 0 _ rfl; (repeat with_reducible refine blk_q ?_); exact BK102.out) Try.underlying31 rfl (by kernel_rfl)) rfl ?_
 exact ⟨_, _, _, _, by first | rfl | (simp [errW_none, errW_some] <;> rfl) | (simp [*, errW_none, errW_some] <;> rfl), by first | exact Kd.R_nil _ _ _ _ _ | exact Kd.N_nil _ _ _ _ _ | exact Kd.V_nil _ _ _ _ _ | exact Kd.Q_nil _ _ _ _ _ | exact Kd.S_nil _ _ _ _ _, by first | exact Kd.R_nil _ _ _ _ _ | exact Kd.N_nil _ _ _ _ _ | exact Kd.V_nil _ _ _ _ _ | exact Kd.Q_nil _ _ _ _ _ | exact Kd.S_nil _ _ _ _ _, by first | exact Kd.R_nil _ _ _ _ _ | exact Kd.N_nil _ _ _ _ _ | exact Kd.V_nil _ _ _ _ _ | exact Kd.Q_nil _ _ _ _ _ | exact Kd.S_nil _ _ _ _ _, by first | exact Kd.R_nil _ _ _ _ _ | exact Kd.N_nil _ _ _ _ _ | exact Kd.V_nil _ _ _ _ _ | exact Kd.Q_nil _ _ _ _ _ | exact Kd.S_nil _ _ _ _ _, by repeat (first | (with_reducible first | exact HB.out | apply below_alloc | apply pw_below_drewN | apply below_drew1 | refine below_set ?_ GE101.out | refine below_set ?_ GE102.out) | exact HB.out)⟩
end Go.Proofs.Ytfbjjbbhnmoolaa.P
namespace Go.Proofs.Ytfbjjbbhnmoolaa.P
open Go.RowKit Go.Shelf Go.Proofs.YtfbjjbbhnmoolaaW.PrintWords Go.Proofs.YtfbjjbbhnmoolaaW.PrintLast Go.Proofs.YtfbjjbbhnmoolaaW.PrintMore
def fromR (a : Hi) : Fh × Int := if checkR a ≠ 0 then (emptyF, checkR a) else (fromF a, 0)
theorem clone_f {l : List Sp} (h : l.length < 8796093022208) : slices_Clone_span.f l = some l := if_pos h
theorem from_f (a : Hi) (hw : wfH a) : fhist_From.f a.f0 a.f1 a.f2 a.f3 a.f4 a.f5 a.f6 a.f7 a.f8 = some ((fromR a).1.f0, (fromR a).1.f1, (fromR a).1.f2, (fromR a).1.f3, (fromR a).1.f4, (fromR a).1.f5, (fromR a).1.f6, (fromR a).1.f7, (fromR a).1.f8, (fromR a).2) := by
  have hch : hist_Check.f a.f0 a.f1 a.f2 a.f3 a.f4 a.f5 a.f6 a.f7 a.f8 = some (checkR a) := by
    unfold hist_Check.f checkR
    rw [show hist_open.f a.f0 a.f1 a.f2 a.f3 a.f4 a.f5 a.f6 a.f7 a.f8 = some (openR a) from if_pos hw]
    rfl
  unfold fhist_From.f fromR
  rw [hch, Option.bind_some]
  by_cases hc : checkR a = 0
  · rw [if_pos hc, if_neg (show ¬ checkR a ≠ 0 from fun h => h hc)]
    obtain ⟨z1, z2, z3, z4⟩ := checkR_zero hc
    have b5 := (spCheck_zero (side_bounds z2).2.2.2).1
    have b6 := (spCheck_zero (side_bounds z3).2.2.2).1
    obtain ⟨_, _, _, k7, k8⟩ := from_open hw hc
    rw [show fhist_Float.f a.f2 = some (nearI a.f2) from rfl, show fhist_Float.f a.f3 = some (nearI a.f3) from rfl, clone_f (by omega), clone_f (by omega), show fhist_floats.f a.f7 = some (floatsCR a.f7) from if_pos k7, show fhist_floats.f a.f8 = some (floatsCR a.f8) from if_pos k8]
    rfl
  · rw [if_neg hc, if_pos hc]
    rfl
theorem from_c (a : Hi) (x : Fh) (e : Int) (hw : wfH a) (hx : fromR a = (x, e)) (w : World) (u : Value) (hu : HI w u a) : Calls Try.prog 11 #[u] w fun r w' => ∃ D5x g5x D6x g6x D7x g7x D8x g8x, r = .returned (.tuple #[.agg #[.int .i64 x.f0, .int .u64 x.f1, .int .u64 x.f2, .int .u64 x.f3, .int .u64 x.f4, .slice D5x x.f5.length g5x, .slice D6x x.f6.length g6x, .slice D7x x.f7.length g7x, .slice D8x x.f8.length g8x], .int .i64 e]) ∧ GI w' (.agg #[.int .i64 x.f0, .int .u64 x.f1, .int .u64 x.f2, .int .u64 x.f3, .int .u64 x.f4, .slice D5x x.f5.length g5x, .slice D6x x.f6.length g6x, .slice D7x x.f7.length g7x, .slice D8x x.f8.length g8x]) x ∧ Below w.heap.size w w' := by
  obtain ⟨A5, c5, A6, c6, A7, c7, A8, c8, rfl, ⟨_, _, e5, h51, h52⟩, ⟨_, _, e6, h61, h62⟩, ⟨_, _, e7, h71, h72⟩, ⟨_, _, e8, h81, h82⟩⟩ := hu.open_
  cases e5; cases e6; cases e7; cases e8
  have hf := from_f a hw
  rw [hx] at hf
  refine (fhist_From.calls a.f0 a.f1 a.f2 a.f3 a.f4 A5 c5 _ A6 c6 _ A7 c7 _ A8 c8 _ _ _ _ _ _ _ _ _ _ _ w h52 h51 h62 h61 h72 h71 h82 h81 hf).mono ?_
  rintro r w1 ⟨v5, v6, v7, v8, rfl, h5, h6, h7, h8, hb⟩
  have hi : GI w1 (.agg #[.int .i64 x.f0, .int .u64 x.f1, .int .u64 x.f2, .int .u64 x.f3, .int .u64 x.f4, v5, v6, v7, v8]) x := GI.mk (.of_R h5) (.of_R h6) (.of_R h7) (.of_R h8)
  obtain ⟨a5, c5, a6, c6, a7, c7, a8, c8, e, -⟩ := hi.open_
  rw [e] at hi ⊢
  exact ⟨a5, c5, a6, c6, a7, c7, a8, c8, rfl, hi, hb⟩
end Go.Proofs.Ytfbjjbbhnmoolaa.P
namespace Go.Proofs.Ytfbjjbbhnmoolaa.P
open Go.RowKit Go.Shelf Go.Proofs.YtfbjjbbhnmoolaaW.PrintWords Go.Proofs.YtfbjjbbhnmoolaaW.PrintLast Go.Proofs.YtfbjjbbhnmoolaaW.PrintMore
def wholesOf (l : List Int) : List Int := l.map (fun v => (wholeI v).1)
def allWhole (l : List Int) : Bool := l.all (fun v => (wholeI v).2)
def noneBig (l : List Int) : Bool := l.all (fun v => decide (v ≤ 9223372036854775807))
def backH (h : Fh) : Hi := ⟨h.f0, h.f1, (wholeI h.f2).1, (wholeI h.f3).1, h.f4, h.f5, h.f6, diffsW 0 (wholesOf h.f7), diffsW 0 (wholesOf h.f8)⟩
def backR (h : Fh) : Hi × Int :=
  if checkF h ≠ 0 then (emptyH, checkF h)
  else if (allWhole [h.f2, h.f3] && allWhole h.f7 && allWhole h.f8) = false then (emptyH, 10)
  else if (noneBig (wholesOf h.f7) && noneBig (wholesOf h.f8)) = false then (emptyH, 28)
  else if checkR (backH h) ≠ 0 then (emptyH, checkR (backH h)) else (backH h, 0)
def tupB (x : Hi × Int) : Int × Int × Int × Int × Int × List Sp × List Sp × List Int × List Int × Int := (x.1.f0, x.1.f1, x.1.f2, x.1.f3, x.1.f4, x.1.f5, x.1.f6, x.1.f7, x.1.f8, x.2)
theorem wholeI_u64 {v : Int} (h : 0 ≤ v) : u64 (wholeI v).1 := by
  obtain ⟨n, rfl⟩ : ∃ n : Nat, v = n := ⟨v.toNat, by omega⟩
  unfold wholeI
  rw [Int.toNat_natCast]
  by_cases c : (wholeN n).2 = true
  · obtain ⟨e1, e2⟩ := wholeN_flt c
    exact ⟨by simp only; omega, by simp only; omega⟩
  · have : (wholeN n).1 = 0 := by
      unfold wholeN at c ⊢
      split at c
      · exact absurd rfl c
      · rename_i c0
        rw [if_neg c0]
        split at c
        · rename_i c1; rw [if_pos c1]
        · rename_i c1
          rw [if_neg c1]
          split at c
          · rename_i c2
            rw [if_pos c2]
            split at c
            · exact absurd rfl c
            · rename_i c3; rw [if_neg c3]
          · exact absurd rfl c
    simp only [this]
    exact ⟨by decide, by decide⟩
theorem diffsW_i64 : ∀ (l : List Int) (a : Int), 0 ≤ a → a ≤ 9223372036854775807 → (∀ x ∈ l, 0 ≤ x ∧ x ≤ 9223372036854775807) → i64s (diffsW a l)
  | [], a, _, _, _ => fun x hx => by simp [diffsW] at hx
  | y :: t, a, h0, h1, h => fun x hx => by
    have hy := h y (by simp)
    simp only [diffsW] at hx
    rcases List.mem_cons.1 hx with e | hx
    · rw [e]; exact ⟨by omega, by omega⟩
    · exact diffsW_i64 t y hy.1 hy.2 (fun z hz => h z (List.mem_cons_of_mem _ hz)) x hx
theorem wholesOf_nonneg {l : List Int} (h : ∀ v ∈ l, 0 ≤ v) : ∀ x ∈ wholesOf l, 0 ≤ x := fun x hx => by
  obtain ⟨v, hv, rfl⟩ := List.mem_map.1 hx
  exact (wholeI_u64 (h v hv)).1
theorem noneBig_le {l : List Int} (h : noneBig l = true) : ∀ x ∈ l, x ≤ 9223372036854775807 := fun x hx => by
  have := List.all_eq_true.1 h x hx
  simpa using this
theorem backH_wf {h : Fh} (hw : wfF h) (h7 : h.f7.length ≤ 4096) (h8 : h.f8.length ≤ 4096) (b7 : noneBig (wholesOf h.f7) = true) (b8 : noneBig (wholesOf h.f8) = true) : wfH (backH h) := by
  obtain ⟨w0, w1, w2, w3, w4, w5, w6, w7, w8, -⟩ := hw
  have k7 := wholesOf_nonneg (fun v hv => (w7 v hv).1)
  have k8 := wholesOf_nonneg (fun v hv => (w8 v hv).1)
  have l7 : (diffsW 0 (wholesOf h.f7)).length = h.f7.length := by rw [diffsW_len]; simp [wholesOf]
  have l8 : (diffsW 0 (wholesOf h.f8)).length = h.f8.length := by rw [diffsW_len]; simp [wholesOf]
  refine ⟨w0, w1, wholeI_u64 w2.1, wholeI_u64 w3.1, w4, w5, w6, diffsW_i64 _ 0 (by decide) (by decide) (fun x hx => ⟨k7 x hx, noneBig_le b7 x hx⟩), diffsW_i64 _ 0 (by decide) (by decide) (fun x hx => ⟨k8 x hx, noneBig_le b8 x hx⟩), ?_, ?_⟩
  · show (diffsW 0 (wholesOf h.f7)).length < _
    omega
  · show (diffsW 0 (wholesOf h.f8)).length < _
    omega
end Go.Proofs.Ytfbjjbbhnmoolaa.P
namespace Go.Proofs.Ytfbjjbbhnmoolaa.P
open Go.RowKit Go.Proofs.YtfbjjbbhnmoolaaW.PrintWords Go.Proofs.YtfbjjbbhnmoolaaW.PrintLast Go.Proofs.YtfbjjbbhnmoolaaW.PrintMore
attribute [local go_sem] max2_int min2_int max_two min_two max_three min_three max_four min_four
mutual
def tidepoleref10_Whole.j0 : Nat → Int → Int → Bool → Option (Int × Int)
 | 0, _, _, _ => none
 | k + 1, x4, x5, x20 => if x20 = true then (some (0, 0)) else (tidepoleref10_Whole.l0 k x4 x5 1075)
def tidepoleref10_Whole.l0 : Nat → Int → Int → Int → Option (Int × Int)
 | 0, _, _, _ => none
 | k + 1, x4, x5, x6 => if x6 > x4 then (if (Int.tmod x5 2) = 1 then (some (0, 0)) else (tidepoleref10_Whole.l0 k x4 (IntKind.u64.wrap (Int.tdiv x5 2)) (IntKind.u64.wrap (x6 - 1)))) else (tidepoleref10_Whole.l1 k x4 x5 1075)
def tidepoleref10_Whole.l1 : Nat → Int → Int → Int → Option (Int × Int)
 | 0, _, _, _ => none
 | k + 1, x4, x5, x7 => if x7 < x4 then (tidepoleref10_Whole.l1 k x4 (IntKind.u64.wrap (x5 * 2)) (IntKind.u64.wrap (x7 + 1))) else (some (x5, 1))
end
def tidepoleref10_Whole.f (k : Nat) (a0 : Int) : Option (Int × Int) := if a0 = 0 then (some (0, 1)) else (if (IntKind.u64.wrap (Int.tdiv a0 4503599627370496)) < 1023 then (tidepoleref10_Whole.j0 k (IntKind.u64.wrap (Int.tdiv a0 4503599627370496)) (IntKind.u64.wrap ((Int.tmod a0 4503599627370496) + 4503599627370496)) true) else (tidepoleref10_Whole.j0 k (IntKind.u64.wrap (Int.tdiv a0 4503599627370496)) (IntKind.u64.wrap ((Int.tmod a0 4503599627370496) + 4503599627370496)) (decide ((IntKind.u64.wrap (Int.tdiv a0 4503599627370496)) > 1086))))
set_option maxHeartbeats 8000000 in
set_option maxRecDepth 100000 in
theorem tidepoleref10_Whole.calls (k : Nat) (a0 : Int) (r1 : Int) (r2 : Int) (w : World) (h : tidepoleref10_Whole.f k a0 = some (r1, r2)) :
  Calls Try.prog 30 #[.int .u64 a0] w fun e w' => e = .returned (.tuple #[.int .u64 r1, .int .i64 r2]) ∧ Drawn0 w w' := by
 have H : (if a0 = 0 then (some (0, 1)) else (if (IntKind.u64.wrap (Int.tdiv a0 4503599627370496)) < 1023 then (tidepoleref10_Whole.j0 k (IntKind.u64.wrap (Int.tdiv a0 4503599627370496)) (IntKind.u64.wrap ((Int.tmod a0 4503599627370496) + 4503599627370496)) true) else (tidepoleref10_Whole.j0 k (IntKind.u64.wrap (Int.tdiv a0 4503599627370496)) (IntKind.u64.wrap ((Int.tmod a0 4503599627370496) + 4503599627370496)) (decide ((IntKind.u64.wrap (Int.tdiv a0 4503599627370496)) > 1086))))) = some (r1, r2) := h
 clear h
 by_cases c2 : a0 = 0
 ·rw [if_pos c2] at H
  have c2b0 : (a0 == 0) = true := beq_iff_eq.mpr c2
  have c2b1 : (a0 != 0) = false := bne_eq_false_iff_eq.mpr c2
  clear c2
  simp only [Option.some.injEq, Prod.mk.injEq] at H
  obtain ⟨rfl, rfl⟩ := H
  go_enter Try.func30, Try.ntmps30
  go_wp2
  go_ret2
  exact ⟨by first | rfl | (simp; done) | (simp [*]; done), by repeat (first | exact Drawn0.refl _ | apply Drawn0.step)⟩
 rw [if_neg c2] at H
 have c2b0 : (a0 == 0) = false := beq_eq_false_iff_ne.mpr c2
 have c2b1 : (a0 != 0) = true := bne_iff_ne.mpr c2
 have HC3 := Aside0.mk H
 clear H
 go_enter Try.func30, Try.ntmps30
 go_upto_region 4 with (fail)
 go_cut [20] (fun v20 wc => ∃ (kq : Nat) (x20_2 : Bool), v20 = .bool x20_2 ∧ Aside0 (tidepoleref10_Whole.j0 kq (IntKind.u64.wrap (Int.tdiv a0 4503599627370496)) (IntKind.u64.wrap ((Int.tmod a0 4503599627370496) + 4503599627370496)) x20_2 = some (r1, r2)) ∧ Aside0 (kq ≤ k) ∧ Drawn0 w wc)
 case first =>
  have H := HC3.out
  clear HC3
  by_cases c4 : (IntKind.u64.wrap (Int.tdiv a0 4503599627370496)) < 1023
  ·rw [if_pos c4] at H
   have c4b0 : decide ((IntKind.u64.wrap (Int.tdiv a0 4503599627370496)) < 1023) = true := decide_eq_true c4
   clear c4
   (first | rw [c4b0] | (simp only [i64_w, i32_w]; rw [c4b0]) | skip)
   have H' := Aside0.mk H
   clear H
   go_wp2
   go_meet
   case rel => exact ⟨_, (true), (by first | rfl | (simp; done) | (simp [*]; done)), H', ⟨by first | omega | exact Nat.le_refl _⟩, by repeat (first | exact Drawn0.refl _ | apply Drawn0.step)⟩
  rw [if_neg c4] at H
  have c4b0 : decide ((IntKind.u64.wrap (Int.tdiv a0 4503599627370496)) < 1023) = false := decide_eq_false c4
  clear c4
  (first | rw [c4b0] | (simp only [i64_w, i32_w]; rw [c4b0]) | skip)
  have H' := Aside0.mk H
  clear H
  go_wp2
  go_meet
  case rel => exact ⟨_, (decide ((IntKind.u64.wrap (Int.tdiv a0 4503599627370496)) > 1086)), (by first | rfl | (simp; done) | (simp [*]; done)), H', ⟨by first | omega | exact Nat.le_refl _⟩, by repeat (first | exact Drawn0.refl _ | apply Drawn0.step)⟩
 case rest =>
  clear HC3
  try clear c2
  try clear c2b0
  try clear c2b1
  try clear p2
  try clear c3
  try clear c4
  try clear c4b0
  obtain ⟨kq, x20_2, rfl, HA, HJ2, ⟨mc2, rfl⟩⟩ := hcut
  cases kq with
  | zero => exact absurd HA.out (by simp [tidepoleref10_Whole.j0])
  | succ kj2 =>
   have H := HA.out
   clear HA
   simp only [tidepoleref10_Whole.j0] at H
   by_cases c5 : x20_2 = true
   ·subst c5
    have H1 : (some (0, 0)) = some (r1, r2) := by rw [if_pos rfl] at H; exact H
    clear H
    have H := H1
    clear H1
    simp only [Option.some.injEq, Prod.mk.injEq] at H
    obtain ⟨rfl, rfl⟩ := H
    go_wp2
    go_ret2
    exact ⟨by first | rfl | (simp; done) | (simp [*]; done), by repeat (first | exact Drawn0.refl _ | apply Drawn0.step)⟩
   replace c5 := Bool.eq_false_iff.mpr c5
   subst c5
   have H1 : (tidepoleref10_Whole.l0 kj2 (IntKind.u64.wrap (Int.tdiv a0 4503599627370496)) (IntKind.u64.wrap ((Int.tmod a0 4503599627370496) + 4503599627370496)) 1075) = some (r1, r2) := by rw [if_neg (show ¬ (false = true) by decide)] at H; exact H
   clear H
   have H := H1
   clear H1
   have H' := Aside0.mk H
   clear H
   go_wp2
   go_loopg [5, 6] kj2 (fun kq v5 v6 w' => ∃ (x5_2 : Int) (x6_2 : Int), v5 = .int .u64 x5_2 ∧ v6 = .int .u64 x6_2 ∧ Aside0 (tidepoleref10_Whole.l0 kq (IntKind.u64.wrap (Int.tdiv a0 4503599627370496)) x5_2 x6_2 = some (r1, r2)) ∧ Aside0 (kq ≤ kj2) ∧ Drawn0 w w')
   case atStart => exact ⟨((IntKind.u64.wrap ((Int.tmod a0 4503599627370496) + 4503599627370496))), (1075), (by first | rfl | (simp; done) | (simp [*]; done)), (by first | rfl | (simp; done) | (simp [*]; done)), H', ⟨Nat.le_refl _⟩, by repeat (first | exact Drawn0.refl _ | apply Drawn0.step)⟩
   case round =>
    clear H'
    try clear c2
    try clear c2b0
    try clear c2b1
    try clear p2
    try clear c3
    try clear c4
    try clear c4b0
    try clear c5
    try clear p2
    obtain ⟨x5_2, x6_2, rfl, rfl, HA, HK2, ⟨m2, rfl⟩⟩ := hrel
    cases gk with
    | zero => exact absurd HA.out (by simp [tidepoleref10_Whole.l0])
    | succ k2 =>
     have H := HA.out
     clear HA
     simp only [tidepoleref10_Whole.l0] at H
     by_cases c6 : x6_2 > (IntKind.u64.wrap (Int.tdiv a0 4503599627370496))
     ·rw [if_pos c6] at H
      have c6b0 : decide ((IntKind.u64.wrap (Int.tdiv a0 4503599627370496)) < x6_2) = true := decide_eq_true c6
      clear c6
      by_cases c7 : (Int.tmod x5_2 2) = 1
      ·rw [if_pos c7] at H
       have c7b0 : ((Int.tmod x5_2 2) == 1) = true := beq_iff_eq.mpr c7
       have c7b1 : ((Int.tmod x5_2 2) != 1) = false := bne_eq_false_iff_eq.mpr c7
       clear c7
       simp only [Option.some.injEq, Prod.mk.injEq] at H
       obtain ⟨rfl, rfl⟩ := H
       go_wp2
       go_ret2
       exact ⟨by first | rfl | (simp; done) | (simp [*]; done), by repeat (first | exact Drawn0.refl _ | apply Drawn0.step)⟩
      rw [if_neg c7] at H
      have c7b0 : ((Int.tmod x5_2 2) == 1) = false := beq_eq_false_iff_ne.mpr c7
      have c7b1 : ((Int.tmod x5_2 2) != 1) = true := bne_iff_ne.mpr c7
      have H' := Aside0.mk H
      clear H
      go_wp2
      go_roundg k2
      case measure => have := HJ2.out; have := HK2.out; omega
      case rel => exact ⟨(IntKind.u64.wrap (Int.tdiv x5_2 2)), (IntKind.u64.wrap (x6_2 - 1)), (by first | rfl | (simp; done) | (simp [*]; done)), (by first | rfl | (simp; done) | (simp [*]; done)), H', ⟨by have := HJ2.out; have := HK2.out; omega⟩, by repeat (first | exact Drawn0.refl _ | apply Drawn0.step)⟩
     rw [if_neg c6] at H
     have c6b0 : decide ((IntKind.u64.wrap (Int.tdiv a0 4503599627370496)) < x6_2) = false := decide_eq_false c6
     clear c6
     have H' := Aside0.mk H
     clear H
     go_wp2
     go_loopg [5, 7] k2 (fun kq v5 v7 w' => ∃ (x5_3 : Int) (x7_3 : Int), v5 = .int .u64 x5_3 ∧ v7 = .int .u64 x7_3 ∧ Aside0 (tidepoleref10_Whole.l1 kq (IntKind.u64.wrap (Int.tdiv a0 4503599627370496)) x5_3 x7_3 = some (r1, r2)) ∧ Aside0 (kq ≤ k2) ∧ Drawn0 w w')
     case atStart => exact ⟨(x5_2), (1075), (by first | rfl | (simp; done) | (simp [*]; done)), (by first | rfl | (simp; done) | (simp [*]; done)), H', ⟨Nat.le_refl _⟩, by repeat (first | exact Drawn0.refl _ | apply Drawn0.step)⟩
     case round =>
      clear H'
      try clear c2
      try clear c2b0
      try clear c2b1
      try clear p2
      try clear c3
      try clear c4
      try clear c4b0
      try clear c5
      try clear c6
      try clear c6b0
      try clear c7
      try clear c7b0
      try clear c7b1
      try clear p2
      obtain ⟨x5_3, x7_3, rfl, rfl, HA, HK3, ⟨m3, rfl⟩⟩ := hrel
      cases gk with
      | zero => exact absurd HA.out (by simp [tidepoleref10_Whole.l1])
      | succ k3 =>
       have H := HA.out
       clear HA
       simp only [tidepoleref10_Whole.l1] at H
       by_cases c8 : x7_3 < (IntKind.u64.wrap (Int.tdiv a0 4503599627370496))
       ·rw [if_pos c8] at H
        have c8b0 : decide (x7_3 < (IntKind.u64.wrap (Int.tdiv a0 4503599627370496))) = true := decide_eq_true c8
        clear c8
        have H' := Aside0.mk H
        clear H
        go_wp2
        go_roundg k3
        case measure => have := HJ2.out; have := HK2.out; have := HK3.out; omega
        case rel => exact ⟨(IntKind.u64.wrap (x5_3 * 2)), (IntKind.u64.wrap (x7_3 + 1)), (by first | rfl | (simp; done) | (simp [*]; done)), (by first | rfl | (simp; done) | (simp [*]; done)), H', ⟨by have := HJ2.out; have := HK2.out; have := HK3.out; omega⟩, by repeat (first | exact Drawn0.refl _ | apply Drawn0.step)⟩
       rw [if_neg c8] at H
       have c8b0 : decide (x7_3 < (IntKind.u64.wrap (Int.tdiv a0 4503599627370496))) = false := decide_eq_false c8
       clear c8
       simp only [Option.some.injEq, Prod.mk.injEq] at H
       obtain ⟨rfl, rfl⟩ := H
       go_wp2
       go_ret2
       exact ⟨by first | rfl | (simp; done) | (simp [*]; done), by repeat (first | exact Drawn0.refl _ | apply Drawn0.step)⟩
def tidepoleref10_Right.f (a0 : Int) : Option (Bool) := some (decide (a0 < 9218868437227405312))
set_option maxHeartbeats 8000000 in
set_option maxRecDepth 100000 in
theorem tidepoleref10_Right.calls (a0 : Int) (r : Bool) (w : World) (h : tidepoleref10_Right.f a0 = some r) :
  Calls Try.prog 93 #[.int .u64 a0] w fun e w' => e = .returned (.bool r) ∧ Drawn0 w w' := by
 have H : (some (decide (a0 < 9218868437227405312))) = some r := h
 clear h
 obtain rfl := Option.some.inj H
 go_enter Try.func93, Try.ntmps93
 go_wp2
 go_ret
 exact ⟨by first | rfl | (simp; done) | (simp [*]; done), by repeat (first | exact Drawn0.refl _ | apply Drawn0.step)⟩
def tidepoleref10_Side.l0 : Nat → List Int → Int → Option (Int)
 | 0, _, _ => none
 | k + 1, x1, x6 => if x6 < (x1.length : Int) then (if 0 ≤ x6 then ((tidepoleref10_Right.f (rd x1 x6)).bind fun t106 => (if t106 = true then (tidepoleref10_Side.l0 k x1 (wrap64 (x6 + 1))) else (some 22))) else (none)) else (some 0)
def tidepoleref10_Side.f (k : Nat) (l0 : List (S117)) (l1 : List Int) : Option (Int) := (tidepoleref06_Check.f k l0).bind fun t101 => (if t101 = 0 then ((tidepoleref06_Places.f k l0).bind fun t102 => (if (t102.length : Int) = (l1.length : Int) then (tidepoleref10_Side.l0 k l1 0) else (some 23))) else (some t101))
set_option maxHeartbeats 8000000 in
set_option maxRecDepth 100000 in
theorem tidepoleref10_Side.calls (k : Nat) (A0 : Option Addr) (c0 : Nat) (l0 : List (S117)) (A1 : Option Addr) (c1 : Nat) (l1 : List Int) (r : Int) (w : World) (hr0 : Kd.C k117 w A0 l0.length l0) (hc0 : l0.length ≤ c0) (hr1 : Kd.C (Kd.int .u64) w A1 l1.length l1) (hc1 : l1.length ≤ c1) (h : tidepoleref10_Side.f k l0 l1 = some r) :
  Calls Try.prog 94 #[.slice A0 l0.length c0, .slice A1 l1.length c1] w fun e w' => e = .returned (.int .i64 r) ∧ Below w.heap.size w w' := by
 have HR0 := Aside0.mk hr0
 have HC0 := Aside0.mk hc0
 clear hr0 hc0
 have HR1 := Aside0.mk hr1
 have HC1 := Aside0.mk hc1
 clear hr1 hc1
 have HB := Aside0.mk (Below.refl w.heap.size w)
 have H : ((tidepoleref06_Check.f k l0).bind fun t101 => (if t101 = 0 then ((tidepoleref06_Places.f k l0).bind fun t102 => (if (t102.length : Int) = (l1.length : Int) then (tidepoleref10_Side.l0 k l1 0) else (some 23))) else (some t101))) = some r := h
 clear h
 replace H := Option.bind_eq_some_iff.mp H
 obtain ⟨t101, A30, H⟩ := H
 replace H : (if t101 = 0 then ((tidepoleref06_Places.f k l0).bind fun t102 => (if (t102.length : Int) = (l1.length : Int) then (tidepoleref10_Side.l0 k l1 0) else (some 23))) else (some t101)) = some r := H
 have A3 := Aside0.mk A30
 clear A30
 by_cases c4 : t101 = 0
 ·rw [if_pos c4] at H
  have c4b0 : (t101 == 0) = true := beq_iff_eq.mpr c4
  have c4b1 : (t101 != 0) = false := bne_eq_false_iff_eq.mpr c4
  clear c4
  replace H := Option.bind_eq_some_iff.mp H
  obtain ⟨t102, A50, H⟩ := H
  replace H : (if (t102.length : Int) = (l1.length : Int) then (tidepoleref10_Side.l0 k l1 0) else (some 23)) = some r := H
  have A5 := Aside0.mk A50
  clear A50
  by_cases c6 : (t102.length : Int) = (l1.length : Int)
  ·rw [if_pos c6] at H
   have c6b0 : ((t102.length : Int) == (l1.length : Int)) = true := beq_iff_eq.mpr c6
   have c6b1 : ((t102.length : Int) != (l1.length : Int)) = false := bne_eq_false_iff_eq.mpr c6
   have c6b2 : (t102.length == l1.length) = true := by first | simpa using c6 | (simp at c6 ⊢; omega)
   clear c6
   have H' := Aside0.mk H
   clear H
   go_enter Try.func94, Try.ntmps94
   go_wp2_with (first | ((with_reducible refine gate_callee (f := 69) rfl ?_); refine goesM_ (some 8) Try.func69 #[.slice A0 l0.length c0] ?_; (with_reducible refine (tidepoleref06_Check.calls k _ _ l0 t101 _ ?side1 ?side2 A3.out).mono ?_); (case side1 => exact Kd.C_u HR0.out); (case side2 => exact HC0.out); rintro e w7 ⟨rfl, hb⟩; refine ⟨_, rfl, ?_⟩; replace HB := Aside0.mk (below_step (below_u HB.out) hb); (try clear hb); (try clear hb2); (try clear hk); (try clear hi); clear A3) | ((with_reducible refine gate_callee (f := 70) rfl ?_); refine goesM_ (some 13) Try.func70 #[.slice A0 l0.length c0] ?_; (with_reducible refine (tidepoleref06_Places.calls k _ _ l0 t102 _ ?side1 ?side2 A5.out).mono ?_); (case side1 => exact Kd.C_u (Kd.C_below HR0.out HB.out)); (case side2 => exact HC0.out); rintro e w8 ⟨v103, rfl, ho0, hb⟩; refine ⟨_, rfl, ?_⟩; have HO104 := Aside0.mk (Kd.R_lower ho0 (below_size (below_u HB.out))); replace HB := Aside0.mk (below_step (below_u HB.out) hb); (try clear hb); (try clear hb2); (try clear hk); (try clear hi); (try clear ho0); clear A5; obtain ⟨Ao9, co9, eo9⟩ := Kd.R_slice HO104.out; subst eo9))
   go_loopg [6] k (fun kq v6 w' => ∃ (x6_1 : Int), v6 = .int .i64 x6_1 ∧ Aside0 (tidepoleref10_Side.l0 kq l1 x6_1 = some r) ∧ Aside0 (kq ≤ k) ∧ Aside0 (Below w.heap.size w w'))
   case atStart => exact ⟨(0), (by first | rfl | (simp; done) | (simp [*]; done)), H', ⟨Nat.le_refl _⟩, ⟨by repeat (first | (with_reducible first | exact HB.out | apply below_alloc | apply pw_below_drewN | apply below_drew1) | exact HB.out)⟩⟩
   case round =>
    clear H'
    try clear c1
    try clear p2
    try clear c4
    try clear c4b0
    try clear c4b1
    try clear c6
    try clear c6b0
    try clear c6b1
    try clear c6b2
    try clear c7
    try clear c9
    obtain ⟨x6_1, rfl, HA, HK1, HB⟩ := hrel
    cases gk with
    | zero => exact absurd HA.out (by simp [tidepoleref10_Side.l0])
    | succ k1 =>
     have H := HA.out
     clear HA
     simp only [tidepoleref10_Side.l0] at H
     by_cases c10 : x6_1 < (l1.length : Int)
     ·rw [if_pos c10] at H
      have c10b0 : decide (x6_1 < (l1.length : Int)) = true := decide_eq_true c10
      clear c10
      by_cases c11 : 0 ≤ x6_1
      ·rw [if_pos c11] at H
       have c11b0 : decide (0 ≤ x6_1) = true := decide_eq_true c11
       clear c11
       replace H := Option.bind_eq_some_iff.mp H
       obtain ⟨t106, A120, H⟩ := H
       replace H : (if t106 = true then (tidepoleref10_Side.l0 k1 l1 (wrap64 (x6_1 + 1))) else (some 22)) = some r := H
       have A12 := Aside0.mk A120
       clear A120
       by_cases c13 : t106 = true
       ·subst c13
        have H1 : (tidepoleref10_Side.l0 k1 l1 (wrap64 (x6_1 + 1))) = some r := by rw [if_pos rfl] at H; exact H
        clear H
        have H := H1
        clear H1
        have H' := Aside0.mk H
        clear H
        have p105 : 0 ≤ (x6_1 : Int) := of_decide_eq_true (by assumption)
        have q105 : x6_1 < (l1.length : Int) := of_decide_eq_true (by assumption)
        obtain ⟨ad105, e105, hx105_0⟩ := Kd.at_int HR1.out x6_1 p105 q105
        cases e105
        replace hx105_0 := (HB.out.cell (World.block_lt_of_cell? w _ hx105_0)).trans hx105_0
        replace p105 := eq_true p105
        replace q105 := eq_true q105
        go_wp2_with (first | ((with_reducible refine gate_callee (f := 93) rfl ?_); refine goesM_ (some 28) Try.func93 #[.int .u64 (rd l1 x6_1)] ?_; (with_reducible refine (tidepoleref10_Right.calls (rd l1 x6_1) true _ A12.out).mono ?_); rintro e w' ⟨rfl, ⟨nd, rfl⟩⟩; refine ⟨_, rfl, ?_⟩; clear A12))
        go_roundg k1
        case measure => have := HK1.out; omega
        case rel => exact ⟨(wrap64 (x6_1 + 1)), (by first | rfl | (simp; done) | (simp [*]; done)), H', ⟨by have := HK1.out; omega⟩, ⟨by repeat (first | (with_reducible first | exact HB.out | apply below_alloc | apply pw_below_drewN | apply below_drew1) | exact HB.out)⟩⟩
       replace c13 := Bool.eq_false_iff.mpr c13
       subst c13
       have H1 : (some 22) = some r := by rw [if_neg (show ¬ (false = true) by decide)] at H; exact H
       clear H
       have H := H1
       clear H1
       obtain rfl := Option.some.inj H
       have p105 : 0 ≤ (x6_1 : Int) := of_decide_eq_true (by assumption)
       have q105 : x6_1 < (l1.length : Int) := of_decide_eq_true (by assumption)
       obtain ⟨ad105, e105, hx105_0⟩ := Kd.at_int HR1.out x6_1 p105 q105
       cases e105
       replace hx105_0 := (HB.out.cell (World.block_lt_of_cell? w _ hx105_0)).trans hx105_0
       replace p105 := eq_true p105
       replace q105 := eq_true q105
       go_wp2_with (first | ((with_reducible refine gate_callee (f := 93) rfl ?_); refine goesM_ (some 28) Try.func93 #[.int .u64 (rd l1 x6_1)] ?_; (with_reducible refine (tidepoleref10_Right.calls (rd l1 x6_1) false _ A12.out).mono ?_); rintro e w' ⟨rfl, ⟨nd, rfl⟩⟩; refine ⟨_, rfl, ?_⟩; clear A12))
       go_ret
       exact ⟨by first | rfl | (simp [errW_none, errW_some] <;> rfl) | (simp [*, errW_none, errW_some] <;> rfl), by repeat (first | (with_reducible first | exact HB.out | apply below_alloc | apply pw_below_drewN | apply below_drew1) | exact HB.out)⟩
      rw [if_neg c11] at H
      exact absurd H (by simp)
     rw [if_neg c10] at H
     have c10b0 : decide (x6_1 < (l1.length : Int)) = false := decide_eq_false c10
     clear c10
     obtain rfl := Option.some.inj H
     go_wp2
     go_ret
     exact ⟨by first | rfl | (simp [errW_none, errW_some] <;> rfl) | (simp [*, errW_none, errW_some] <;> rfl), by repeat (first | (with_reducible first | exact HB.out | apply below_alloc | apply pw_below_drewN | apply below_drew1) | exact HB.out)⟩
  rw [if_neg c6] at H
  have c6b0 : ((t102.length : Int) == (l1.length : Int)) = false := beq_eq_false_iff_ne.mpr c6
  have c6b1 : ((t102.length : Int) != (l1.length : Int)) = true := bne_iff_ne.mpr c6
  have c6b2 : (t102.length == l1.length) = false := by first | simpa using c6 | (simp at c6 ⊢; omega)
  obtain rfl := Option.some.inj H
  go_enter Try.func94, Try.ntmps94
  go_wp2_with (first | ((with_reducible refine gate_callee (f := 69) rfl ?_); refine goesM_ (some 8) Try.func69 #[.slice A0 l0.length c0] ?_; (with_reducible refine (tidepoleref06_Check.calls k _ _ l0 t101 _ ?side1 ?side2 A3.out).mono ?_); (case side1 => exact Kd.C_u HR0.out); (case side2 => exact HC0.out); rintro e w14 ⟨rfl, hb⟩; refine ⟨_, rfl, ?_⟩; replace HB := Aside0.mk (below_step (below_u HB.out) hb); (try clear hb); (try clear hb2); (try clear hk); (try clear hi); clear A3) | ((with_reducible refine gate_callee (f := 70) rfl ?_); refine goesM_ (some 13) Try.func70 #[.slice A0 l0.length c0] ?_; (with_reducible refine (tidepoleref06_Places.calls k _ _ l0 t102 _ ?side1 ?side2 A5.out).mono ?_); (case side1 => exact Kd.C_u (Kd.C_below HR0.out HB.out)); (case side2 => exact HC0.out); rintro e w15 ⟨v103, rfl, ho0, hb⟩; refine ⟨_, rfl, ?_⟩; have HO104 := Aside0.mk (Kd.R_lower ho0 (below_size (below_u HB.out))); replace HB := Aside0.mk (below_step (below_u HB.out) hb); (try clear hb); (try clear hb2); (try clear hk); (try clear hi); (try clear ho0); clear A5; obtain ⟨Ao16, co16, eo16⟩ := Kd.R_slice HO104.out; subst eo16))
  go_ret
  exact ⟨by first | rfl | (simp [errW_none, errW_some] <;> rfl) | (simp [*, errW_none, errW_some] <;> rfl), by repeat (first | (with_reducible first | exact HB.out | apply below_alloc | apply pw_below_drewN | apply below_drew1) | exact HB.out)⟩
 rw [if_neg c4] at H
 have c4b0 : (t101 == 0) = false := beq_eq_false_iff_ne.mpr c4
 have c4b1 : (t101 != 0) = true := bne_iff_ne.mpr c4
 obtain rfl := Option.some.inj H
 go_enter Try.func94, Try.ntmps94
 go_wp2_with (first | ((with_reducible refine gate_callee (f := 69) rfl ?_); refine goesM_ (some 8) Try.func69 #[.slice A0 l0.length c0] ?_; (with_reducible refine (tidepoleref06_Check.calls k _ _ l0 t101 _ ?side1 ?side2 A3.out).mono ?_); (case side1 => exact Kd.C_u HR0.out); (case side2 => exact HC0.out); rintro e w17 ⟨rfl, hb⟩; refine ⟨_, rfl, ?_⟩; replace HB := Aside0.mk (below_step (below_u HB.out) hb); (try clear hb); (try clear hb2); (try clear hk); (try clear hi); clear A3))
 go_ret
 exact ⟨by first | rfl | (simp [errW_none, errW_some] <;> rfl) | (simp [*, errW_none, errW_some] <;> rfl), by repeat (first | (with_reducible first | exact HB.out | apply below_alloc | apply pw_below_drewN | apply below_drew1) | exact HB.out)⟩
mutual
def tidepoleref10_Check.j0 : Nat → Bool → Int → Int → Int → Int → Int → List (S117) → List (S117) → List Int → List Int → Option (Int)
 | 0, _, _, _, _, _, _, _, _, _, _ => none
 | k + 1, x11, x102000, x102001, x102002, x102003, x102004, x102005, x102006, x102007, x102008 => if x11 = true then (some 21) else (if x102001 ≥ 9218868437227405312 then (some 11) else ((tidepoleref10_Right.f x102002).bind fun t102 => (if t102 = true then ((tidepoleref10_Right.f x102003).bind fun t103 => (tidepoleref10_Check.j1 k (!t103) x102000 x102001 x102002 x102003 x102004 x102005 x102006 x102007 x102008)) else (tidepoleref10_Check.j1 k true x102000 x102001 x102002 x102003 x102004 x102005 x102006 x102007 x102008))))
def tidepoleref10_Check.j1 : Nat → Bool → Int → Int → Int → Int → Int → List (S117) → List (S117) → List Int → List Int → Option (Int)
 | 0, _, _, _, _, _, _, _, _, _, _ => none
 | k + 1, x24, x102000, x102001, x102002, x102003, x102004, x102005, x102006, x102007, x102008 => if x24 = true then (some 22) else ((tidepoleref10_Side.f k x102005 x102007).bind fun t104 => (if t104 = 0 then ((tidepoleref10_Side.f k x102006 x102008).bind fun t105 => (some t105)) else (some t104)))
end
def tidepoleref10_Check.f (k : Nat) (a0_0 : Int) (a0_1 : Int) (a0_2 : Int) (a0_3 : Int) (a0_4 : Int) (l0_5 : List (S117)) (l0_6 : List (S117)) (l0_7 : List Int) (l0_8 : List Int) : Option (Int) := if a0_0 < (-4) then (tidepoleref10_Check.j0 k true a0_0 a0_1 a0_2 a0_3 a0_4 l0_5 l0_6 l0_7 l0_8) else (tidepoleref10_Check.j0 k (decide (a0_0 > 8)) a0_0 a0_1 a0_2 a0_3 a0_4 l0_5 l0_6 l0_7 l0_8)
set_option maxHeartbeats 8000000 in
set_option maxRecDepth 100000 in
theorem tidepoleref10_Check.calls (k : Nat) (a0_0 : Int) (a0_1 : Int) (a0_2 : Int) (a0_3 : Int) (a0_4 : Int) (A0_5 : Option Addr) (c0_5 : Nat) (l0_5 : List (S117)) (A0_6 : Option Addr) (c0_6 : Nat) (l0_6 : List (S117)) (A0_7 : Option Addr) (c0_7 : Nat) (l0_7 : List Int) (A0_8 : Option Addr) (c0_8 : Nat) (l0_8 : List Int) (r : Int) (w : World) (hr0_5 : Kd.C k117 w A0_5 l0_5.length l0_5) (hc0_5 : l0_5.length ≤ c0_5) (hr0_6 : Kd.C k117 w A0_6 l0_6.length l0_6) (hc0_6 : l0_6.length ≤ c0_6) (hr0_7 : Kd.C (Kd.int .u64) w A0_7 l0_7.length l0_7) (hc0_7 : l0_7.length ≤ c0_7) (hr0_8 : Kd.C (Kd.int .u64) w A0_8 l0_8.length l0_8) (hc0_8 : l0_8.length ≤ c0_8) (h : tidepoleref10_Check.f k a0_0 a0_1 a0_2 a0_3 a0_4 l0_5 l0_6 l0_7 l0_8 = some r) :
  Calls Try.prog 36 #[.agg #[.int .i64 a0_0, .int .u64 a0_1, .int .u64 a0_2, .int .u64 a0_3, .int .u64 a0_4, .slice A0_5 l0_5.length c0_5, .slice A0_6 l0_6.length c0_6, .slice A0_7 l0_7.length c0_7, .slice A0_8 l0_8.length c0_8]] w fun e w' => e = .returned (.int .i64 r) ∧ Below w.heap.size w w' := by
 have hu76 := Try.underlying76
 have HR0_5 := Aside0.mk hr0_5
 have HC0_5 := Aside0.mk hc0_5
 clear hr0_5 hc0_5
 have HR0_6 := Aside0.mk hr0_6
 have HC0_6 := Aside0.mk hc0_6
 clear hr0_6 hc0_6
 have HR0_7 := Aside0.mk hr0_7
 have HC0_7 := Aside0.mk hc0_7
 clear hr0_7 hc0_7
 have HR0_8 := Aside0.mk hr0_8
 have HC0_8 := Aside0.mk hc0_8
 clear hr0_8 hc0_8
 have HB := Aside0.mk (Below.refl w.heap.size w)
 have H : (if a0_0 < (-4) then (tidepoleref10_Check.j0 k true a0_0 a0_1 a0_2 a0_3 a0_4 l0_5 l0_6 l0_7 l0_8) else (tidepoleref10_Check.j0 k (decide (a0_0 > 8)) a0_0 a0_1 a0_2 a0_3 a0_4 l0_5 l0_6 l0_7 l0_8)) = some r := h
 clear h
 have HC2 := Aside0.mk H
 clear H
 go_enter Try.func36, Try.ntmps36
 go_upto_region 1 with (first | ((with_reducible refine gate_dst (N := 1) rfl ?_); refine box_event ?hg (N := 1) ?hd (cs := #[.int .i64 a0_0, .int .u64 a0_1, .int .u64 a0_2, .int .u64 a0_3, .int .u64 a0_4, .slice A0_5 l0_5.length c0_5, .slice A0_6 l0_6.length c0_6, .slice A0_7 l0_7.length c0_7, .slice A0_8 l0_8.length c0_8]) (t := 76) ?hr ?_; (case hd => rfl); (case hg => rfl); (case hr => first | (go_simp; done) | (go_simp; rfl)); intro gb101 hg w3 hbox hb; have BK101 := Aside0.mk (hbox); have GW101 := Aside0.mk ((by rw [hg]; exact (below_size (below_u HB.out)) : w.heap.size ≤ gb101)); have GE101 := Aside0.mk ((by rw [hg]; exact (below_size (below_u HB.out)) : w.heap.size ≤ gb101)); replace HB := Aside0.mk (below_step (below_u HB.out) hb); clear hb hbox hg))
 (try simp only [Act.put, List.setIfInBounds_toArray, List.set_cons_zero, List.set_cons_succ])
 go_cut [11] (fun v11 wc => ∃ (kq : Nat) (x11_1 : Bool), v11 = .bool x11_1 ∧ Aside0 (tidepoleref10_Check.j0 kq x11_1 a0_0 a0_1 a0_2 a0_3 a0_4 l0_5 l0_6 l0_7 l0_8 = some r) ∧ Aside0 (kq ≤ k) ∧ Aside0 (wc.heap[gb101]? = some (.cells #[.int .i64 a0_0, .int .u64 a0_1, .int .u64 a0_2, .int .u64 a0_3, .int .u64 a0_4, (.slice A0_5 l0_5.length c0_5), (.slice A0_6 l0_6.length c0_6), (.slice A0_7 l0_7.length c0_7), (.slice A0_8 l0_8.length c0_8)] 76 (0, 0))) ∧ Aside0 (Below w.heap.size w wc))
 case first =>
  have H := HC2.out
  clear HC2
  by_cases c4 : a0_0 < (-4)
  ·rw [if_pos c4] at H
   have c4b0 : decide (a0_0 < (-4)) = true := decide_eq_true c4
   clear c4
   (first | rw [c4b0] | (simp only [i64_w, i32_w]; rw [c4b0]) | skip)
   have H' := Aside0.mk H
   clear H
   have hcz5_0 := blk_cell BK101.out
   have hfz5_0 := blk_frozen BK101.out
   go_wp2
   go_meet
   case rel => exact ⟨_, (true), (by first | rfl | (simp; done) | (simp [*]; done)), H', ⟨by first | omega | exact Nat.le_refl _⟩, ⟨by (repeat with_reducible refine blk_q ?_); exact BK101.out⟩, ⟨by repeat (first | (with_reducible first | exact HB.out | apply below_alloc | apply pw_below_drewN | apply below_drew1 | refine below_set ?_ GE101.out) | exact HB.out)⟩⟩
  rw [if_neg c4] at H
  have c4b0 : decide (a0_0 < (-4)) = false := decide_eq_false c4
  clear c4
  (first | rw [c4b0] | (simp only [i64_w, i32_w]; rw [c4b0]) | skip)
  have H' := Aside0.mk H
  clear H
  have hcz6_0 := blk_cell BK101.out
  have hfz6_0 := blk_frozen BK101.out
  go_wp2
  go_meet
  case rel => exact ⟨_, (decide (a0_0 > 8)), (by first | rfl | (simp; done) | (simp [*]; done)), H', ⟨by first | omega | exact Nat.le_refl _⟩, ⟨by (repeat with_reducible refine blk_q ?_); exact BK101.out⟩, ⟨by repeat (first | (with_reducible first | exact HB.out | apply below_alloc | apply pw_below_drewN | apply below_drew1 | refine below_set ?_ GE101.out) | exact HB.out)⟩⟩
 case rest =>
  clear HC2
  try clear p2
  try clear c3
  try clear c4
  try clear c4b0
  try clear hcz5_0
  try clear hcz6_0
  try clear hfz5_0
  try clear hfz6_0
  obtain ⟨kq, x11_1, rfl, HA, HJ1, BK101, HB⟩ := hcut
  cases kq with
  | zero => exact absurd HA.out (by simp [tidepoleref10_Check.j0])
  | succ kj1 =>
   have H := HA.out
   clear HA
   simp only [tidepoleref10_Check.j0] at H
   by_cases c7 : x11_1 = true
   ·subst c7
    have H1 : (some 21) = some r := by rw [if_pos rfl] at H; exact H
    clear H
    have H := H1
    clear H1
    obtain rfl := Option.some.inj H
    go_wp2
    go_ret
    exact ⟨by first | rfl | (simp [errW_none, errW_some] <;> rfl) | (simp [*, errW_none, errW_some] <;> rfl), by repeat (first | (with_reducible first | exact HB.out | apply below_alloc | apply pw_below_drewN | apply below_drew1 | refine below_set ?_ GE101.out) | exact HB.out)⟩
   replace c7 := Bool.eq_false_iff.mpr c7
   subst c7
   have H1 : (if a0_1 ≥ 9218868437227405312 then (some 11) else ((tidepoleref10_Right.f a0_2).bind fun t102 => (if t102 = true then ((tidepoleref10_Right.f a0_3).bind fun t103 => (tidepoleref10_Check.j1 kj1 (!t103) a0_0 a0_1 a0_2 a0_3 a0_4 l0_5 l0_6 l0_7 l0_8)) else (tidepoleref10_Check.j1 kj1 true a0_0 a0_1 a0_2 a0_3 a0_4 l0_5 l0_6 l0_7 l0_8)))) = some r := by rw [if_neg (show ¬ (false = true) by decide)] at H; exact H
   clear H
   have H := H1
   clear H1
   by_cases c8 : a0_1 ≥ 9218868437227405312
   ·rw [if_pos c8] at H
    have c8b0 : decide (9218868437227405312 ≤ a0_1) = true := decide_eq_true c8
    clear c8
    obtain rfl := Option.some.inj H
    have hcz9_0 := blk_cell BK101.out
    have hfz9_0 := blk_frozen BK101.out
    go_wp2
    go_ret
    exact ⟨by first | rfl | (simp [errW_none, errW_some] <;> rfl) | (simp [*, errW_none, errW_some] <;> rfl), by repeat (first | (with_reducible first | exact HB.out | apply below_alloc | apply pw_below_drewN | apply below_drew1 | refine below_set ?_ GE101.out) | exact HB.out)⟩
   rw [if_neg c8] at H
   have c8b0 : decide (9218868437227405312 ≤ a0_1) = false := decide_eq_false c8
   clear c8
   have HC10 := Aside0.mk H
   clear H
   have hcz11_0 := blk_cell BK101.out
   have hfz11_0 := blk_frozen BK101.out
   go_upto_region 5 with (fail)
   go_cut [24] (fun v24 wc => ∃ (kq : Nat) (x24_9 : Bool), v24 = .bool x24_9 ∧ Aside0 (tidepoleref10_Check.j1 kq x24_9 a0_0 a0_1 a0_2 a0_3 a0_4 l0_5 l0_6 l0_7 l0_8 = some r) ∧ Aside0 (kq ≤ kj1) ∧ Aside0 (wc.heap[gb101]? = some (.cells #[.int .i64 a0_0, .int .u64 a0_1, .int .u64 a0_2, .int .u64 a0_3, .int .u64 a0_4, (.slice A0_5 l0_5.length c0_5), (.slice A0_6 l0_6.length c0_6), (.slice A0_7 l0_7.length c0_7), (.slice A0_8 l0_8.length c0_8)] 76 (0, 0))) ∧ Aside0 (Below w.heap.size w wc))
   case first =>
    have H := HC10.out
    clear HC10
    replace H := Option.bind_eq_some_iff.mp H
    obtain ⟨t102, A120, H⟩ := H
    replace H : (if t102 = true then ((tidepoleref10_Right.f a0_3).bind fun t103 => (tidepoleref10_Check.j1 kj1 (!t103) a0_0 a0_1 a0_2 a0_3 a0_4 l0_5 l0_6 l0_7 l0_8)) else (tidepoleref10_Check.j1 kj1 true a0_0 a0_1 a0_2 a0_3 a0_4 l0_5 l0_6 l0_7 l0_8)) = some r := H
    have A12 := Aside0.mk A120
    clear A120
    by_cases c13 : t102 = true
    ·subst c13
     have H1 : ((tidepoleref10_Right.f a0_3).bind fun t103 => (tidepoleref10_Check.j1 kj1 (!t103) a0_0 a0_1 a0_2 a0_3 a0_4 l0_5 l0_6 l0_7 l0_8)) = some r := by rw [if_pos rfl] at H; exact H
     clear H
     have H := H1
     clear H1
     replace H := Option.bind_eq_some_iff.mp H
     obtain ⟨t103, A140, H⟩ := H
     replace H : (tidepoleref10_Check.j1 kj1 (!t103) a0_0 a0_1 a0_2 a0_3 a0_4 l0_5 l0_6 l0_7 l0_8) = some r := H
     have A14 := Aside0.mk A140
     clear A140
     have H' := Aside0.mk H
     clear H
     have hcz15_0 := blk_cell BK101.out
     have hfz15_0 := blk_frozen BK101.out
     go_wp2_with (first | ((with_reducible refine gate_callee (f := 93) rfl ?_); refine goesM_ (some 17) Try.func93 #[.int .u64 a0_2] ?_; (with_reducible refine (tidepoleref10_Right.calls a0_2 true _ A12.out).mono ?_); rintro e w' ⟨rfl, ⟨nd, rfl⟩⟩; refine ⟨_, rfl, ?_⟩; clear A12) | (go_at_call 93; (with_reducible refine (tidepoleref10_Right.calls a0_3 t103 _ A14.out).mono ?_); rintro e w' ⟨rfl, ⟨nd, rfl⟩⟩; clear A14))
     go_meet
     case rel => exact ⟨_, (!t103), (by first | rfl | (simp; done) | (simp [*]; done)), H', ⟨by have := HJ1.out; first | omega | exact Nat.le_refl _⟩, ⟨by (repeat with_reducible refine blk_q ?_); exact BK101.out⟩, ⟨by repeat (first | (with_reducible first | exact HB.out | apply below_alloc | apply pw_below_drewN | apply below_drew1 | refine below_set ?_ GE101.out) | exact HB.out)⟩⟩
    replace c13 := Bool.eq_false_iff.mpr c13
    subst c13
    have H1 : (tidepoleref10_Check.j1 kj1 true a0_0 a0_1 a0_2 a0_3 a0_4 l0_5 l0_6 l0_7 l0_8) = some r := by rw [if_neg (show ¬ (false = true) by decide)] at H; exact H
    clear H
    have H := H1
    clear H1
    have H' := Aside0.mk H
    clear H
    have hcz16_0 := blk_cell BK101.out
    have hfz16_0 := blk_frozen BK101.out
    go_wp2_with (first | ((with_reducible refine gate_callee (f := 93) rfl ?_); refine goesM_ (some 17) Try.func93 #[.int .u64 a0_2] ?_; (with_reducible refine (tidepoleref10_Right.calls a0_2 false _ A12.out).mono ?_); rintro e w' ⟨rfl, ⟨nd, rfl⟩⟩; refine ⟨_, rfl, ?_⟩; clear A12))
    go_meet
    case rel => exact ⟨_, (true), (by first | rfl | (simp; done) | (simp [*]; done)), H', ⟨by have := HJ1.out; first | omega | exact Nat.le_refl _⟩, ⟨by (repeat with_reducible refine blk_q ?_); exact BK101.out⟩, ⟨by repeat (first | (with_reducible first | exact HB.out | apply below_alloc | apply pw_below_drewN | apply below_drew1 | refine below_set ?_ GE101.out) | exact HB.out)⟩⟩
   case rest =>
    clear HC10
    try clear c1
    try clear p2
    try clear c3
    try clear c4
    try clear c4b0
    try clear c7
    try clear c8
    try clear c8b0
    try clear c9
    try clear c13
    try clear hcz11_0
    try clear hcz15_0
    try clear hcz16_0
    try clear hcz5_0
    try clear hcz6_0
    try clear hcz9_0
    try clear hfz11_0
    try clear hfz15_0
    try clear hfz16_0
    try clear hfz5_0
    try clear hfz6_0
    try clear hfz9_0
    try clear p2
    obtain ⟨kq, x24_9, rfl, HA, HJ9, BK101, HB⟩ := hcut
    cases kq with
    | zero => exact absurd HA.out (by simp [tidepoleref10_Check.j1])
    | succ kj9 =>
     have H := HA.out
     clear HA
     simp only [tidepoleref10_Check.j1] at H
     by_cases c17 : x24_9 = true
     ·subst c17
      have H1 : (some 22) = some r := by rw [if_pos rfl] at H; exact H
      clear H
      have H := H1
      clear H1
      obtain rfl := Option.some.inj H
      go_wp2
      go_ret
      exact ⟨by first | rfl | (simp [errW_none, errW_some] <;> rfl) | (simp [*, errW_none, errW_some] <;> rfl), by repeat (first | (with_reducible first | exact HB.out | apply below_alloc | apply pw_below_drewN | apply below_drew1 | refine below_set ?_ GE101.out) | exact HB.out)⟩
     replace c17 := Bool.eq_false_iff.mpr c17
     subst c17
     have H1 : ((tidepoleref10_Side.f kj9 l0_5 l0_7).bind fun t104 => (if t104 = 0 then ((tidepoleref10_Side.f kj9 l0_6 l0_8).bind fun t105 => (some t105)) else (some t104))) = some r := by rw [if_neg (show ¬ (false = true) by decide)] at H; exact H
     clear H
     have H := H1
     clear H1
     replace H := Option.bind_eq_some_iff.mp H
     obtain ⟨t104, A180, H⟩ := H
     replace H : (if t104 = 0 then ((tidepoleref10_Side.f kj9 l0_6 l0_8).bind fun t105 => (some t105)) else (some t104)) = some r := H
     have A18 := Aside0.mk A180
     clear A180
     by_cases c19 : t104 = 0
     ·rw [if_pos c19] at H
      have c19b0 : (t104 == 0) = true := beq_iff_eq.mpr c19
      have c19b1 : (t104 != 0) = false := bne_eq_false_iff_eq.mpr c19
      clear c19
      replace H := Option.bind_eq_some_iff.mp H
      obtain ⟨t105, A200, H⟩ := H
      replace H : (some t105) = some r := H
      have A20 := Aside0.mk A200
      clear A200
      obtain rfl := Option.some.inj H
      have hcz21_0 := blk_cell BK101.out
      have hfz21_0 := blk_frozen BK101.out
      go_wp2_with (first | ((with_reducible refine gate_callee (f := 94) rfl ?_); refine goesM_ (some 29) Try.func94 #[.slice A0_5 l0_5.length c0_5, .slice A0_7 l0_7.length c0_7] ?_; (with_reducible refine (tidepoleref10_Side.calls kj9 _ _ l0_5 _ _ l0_7 t104 _ ?side1 ?side2 ?side3 ?side4 A18.out).mono ?_); (case side1 => exact Kd.C_u (Kd.C_below HR0_5.out HB.out)); (case side2 => exact HC0_5.out); (case side3 => exact Kd.C_u (Kd.C_below HR0_7.out HB.out)); (case side4 => exact HC0_7.out); rintro e w22 ⟨rfl, hb⟩; refine ⟨_, rfl, ?_⟩; replace BK101 := Aside0.mk (blk_ub BK101.out hb); replace HB := Aside0.mk (below_step (by repeat (first | (with_reducible first | exact HB.out | refine below_q ?_ | refine below_set ?_ GE101.out) | exact HB.out)) hb); (try clear hb); (try clear hb2); (try clear hk); (try clear hi); clear A18; have hcz23_0 := blk_cell BK101.out; have hfz23_0 := blk_frozen BK101.out) | ((with_reducible refine gate_callee (f := 94) rfl ?_); refine goesM_ (some 37) Try.func94 #[.slice A0_6 l0_6.length c0_6, .slice A0_8 l0_8.length c0_8] ?_; (with_reducible refine (tidepoleref10_Side.calls kj9 _ _ l0_6 _ _ l0_8 t105 _ ?side1 ?side2 ?side3 ?side4 A20.out).mono ?_); (case side1 => exact Kd.C_u (Kd.C_below HR0_6.out HB.out)); (case side2 => exact HC0_6.out); (case side3 => exact Kd.C_u (Kd.C_below HR0_8.out HB.out)); (case side4 => exact HC0_8.out); rintro e w24 ⟨rfl, hb⟩; refine ⟨_, rfl, ?_⟩; replace BK101 := Aside0.mk (blk_ub BK101.out hb); replace HB := Aside0.mk (below_step (by repeat (first | (with_reducible first | exact HB.out | refine below_q ?_ | refine below_set ?_ GE101.out) | exact HB.out)) hb); (try clear hb); (try clear hb2); (try clear hk); (try clear hi); clear A20))
      go_ret
      exact ⟨by first | rfl | (simp [errW_none, errW_some] <;> rfl) | (simp [*, errW_none, errW_some] <;> rfl), by repeat (first | (with_reducible first | exact HB.out | apply below_alloc | apply pw_below_drewN | apply below_drew1 | refine below_set ?_ GE101.out) | exact HB.out)⟩
     rw [if_neg c19] at H
     have c19b0 : (t104 == 0) = false := beq_eq_false_iff_ne.mpr c19
     have c19b1 : (t104 != 0) = true := bne_iff_ne.mpr c19
     obtain rfl := Option.some.inj H
     have hcz25_0 := blk_cell BK101.out
     have hfz25_0 := blk_frozen BK101.out
     go_wp2_with (first | ((with_reducible refine gate_callee (f := 94) rfl ?_); refine goesM_ (some 29) Try.func94 #[.slice A0_5 l0_5.length c0_5, .slice A0_7 l0_7.length c0_7] ?_; (with_reducible refine (tidepoleref10_Side.calls kj9 _ _ l0_5 _ _ l0_7 t104 _ ?side1 ?side2 ?side3 ?side4 A18.out).mono ?_); (case side1 => exact Kd.C_u (Kd.C_below HR0_5.out HB.out)); (case side2 => exact HC0_5.out); (case side3 => exact Kd.C_u (Kd.C_below HR0_7.out HB.out)); (case side4 => exact HC0_7.out); rintro e w26 ⟨rfl, hb⟩; refine ⟨_, rfl, ?_⟩; replace BK101 := Aside0.mk (blk_ub BK101.out hb); replace HB := Aside0.mk (below_step (by repeat (first | (with_reducible first | exact HB.out | refine below_q ?_ | refine below_set ?_ GE101.out) | exact HB.out)) hb); (try clear hb); (try clear hb2); (try clear hk); (try clear hi); clear A18))
     go_ret
     exact ⟨by first | rfl | (simp [errW_none, errW_some] <;> rfl) | (simp [*, errW_none, errW_some] <;> rfl), by repeat (first | (with_reducible first | exact HB.out | apply below_alloc | apply pw_below_drewN | apply below_drew1 | refine below_set ?_ GE101.out) | exact HB.out)⟩
end Go.Proofs.Ytfbjjbbhnmoolaa.P
namespace Go.Proofs.Ytfbjjbbhnmoolaa.P
open Go.RowKit Go.Shelf Go.Proofs.YtfbjjbbhnmoolaaW.PrintWords Go.Proofs.YtfbjjbbhnmoolaaW.PrintLast Go.Proofs.YtfbjjbbhnmoolaaW.PrintMore
theorem uwrap {x : Int} (h0 : 0 ≤ x) (h1 : x < 18446744073709551616) : IntKind.u64.wrap x = x := by
  show x % 18446744073709551616 = x
  omega
theorem tdiv_nat (a b : Nat) : Int.tdiv (a : Int) (b : Int) = ((a / b : Nat) : Int) := by
  rw [Int.tdiv_eq_ediv_of_nonneg (by omega)]; simp
theorem tmod_nat (a b : Nat) : Int.tmod (a : Int) (b : Int) = ((a % b : Nat) : Int) := by
  rw [Int.tmod_eq_emod_of_nonneg (by omega)]; simp
theorem refWhole_l1 (e : Nat) (he : e ≤ 1086) : ∀ (d k m : Nat), d ≤ e → m * 2 ^ d < 18446744073709551616 → d < k → tidepoleref10_Whole.l1 k (e : Int) (m : Int) ((e - d : Nat) : Int) = some (((m * 2 ^ d : Nat) : Int), 1) := by
  intro d
  induction d with
  | zero =>
    intro k m hd hm hk
    obtain ⟨k, rfl⟩ : ∃ m, k = m + 1 := ⟨k - 1, by omega⟩
    rw [tidepoleref10_Whole.l1, if_neg (by omega)]
    simp
  | succ d ih =>
    intro k m hd hm hk
    obtain ⟨k, rfl⟩ : ∃ m, k = m + 1 := ⟨k - 1, by omega⟩
    have e1 : m * 2 ^ (d + 1) = m * 2 * 2 ^ d := by rw [Nat.pow_succ, Nat.mul_assoc, Nat.mul_comm 2]
    have hp := Nat.two_pow_pos d
    have hm2 : m * 2 ≤ m * 2 * 2 ^ d := Nat.le_mul_of_pos_right _ hp
    rw [tidepoleref10_Whole.l1, if_pos (by omega), uwrap (x := (m : Int) * 2) (by omega) (by omega), uwrap (x := ((e - (d + 1) : Nat) : Int) + 1) (by omega) (by omega)]
    rw [show (m : Int) * 2 = ((m * 2 : Nat) : Int) by simp, show ((e - (d + 1) : Nat) : Int) + 1 = ((e - d : Nat) : Int) by omega, e1]
    exact ih k (m * 2) (by omega) (by omega) (by omega)
theorem refWhole_l0 (e : Nat) (he : e ≤ 1075) : ∀ (d k m : Nat), e + d ≤ 1075 → m < 18446744073709551616 → d + 1 < k → tidepoleref10_Whole.l0 k (e : Int) (m : Int) ((e + d : Nat) : Int) = if m % 2 ^ d = 0 then some (((m / 2 ^ d : Nat) : Int), 1) else some (0, 0) := by
  intro d
  induction d with
  | zero =>
    intro k m hed hm hk
    obtain ⟨k, rfl⟩ : ∃ m, k = m + 1 + 1 := ⟨k - 2, by omega⟩
    rw [tidepoleref10_Whole.l0, if_neg (by omega), tidepoleref10_Whole.l1, if_neg (by omega), if_pos (by simp [Nat.mod_one])]
    simp
  | succ d ih =>
    intro k m hed hm hk
    obtain ⟨k, rfl⟩ : ∃ m, k = m + 1 := ⟨k - 1, by omega⟩
    rw [tidepoleref10_Whole.l0, if_pos (by omega), show Int.tmod (m : Int) 2 = ((m % 2 : Nat) : Int) from tmod_nat m 2, show Int.tdiv (m : Int) 2 = ((m / 2 : Nat) : Int) from tdiv_nat m 2]
    have e1 : m / 2 ^ (d + 1) = m / 2 / 2 ^ d := by rw [Nat.div_div_eq_div_mul, Nat.pow_succ, Nat.mul_comm]
    have e2 : m % 2 ^ (d + 1) = m % 2 + 2 * (m / 2 % 2 ^ d) := by rw [Nat.pow_succ, Nat.mul_comm, Nat.mod_mul]
    by_cases c : m % 2 = 1
    · rw [if_pos (by omega), if_neg (by omega)]
    · rw [if_neg (by omega), uwrap (x := ((m / 2 : Nat) : Int)) (by omega) (by omega), uwrap (x := ((e + (d + 1) : Nat) : Int) - 1) (by omega) (by omega), show ((e + (d + 1) : Nat) : Int) - 1 = ((e + d : Nat) : Int) by omega, ih k (m / 2) (by omega) (by omega) (by omega), e1, e2]
      by_cases c3 : m / 2 % 2 ^ d = 0
      · rw [if_pos c3, if_pos (by omega)]
      · rw [if_neg c3, if_neg (by omega)]
theorem refWhole_eq (v : Int) (h : u64 v) (k : Nat) (hk : 1200 ≤ k) : tidepoleref10_Whole.f k v = some ((wholeI v).1, if (wholeI v).2 = true then 1 else 0) := by
  obtain ⟨n, rfl⟩ : ∃ n : Nat, v = n := ⟨v.toNat, by have := h.1; omega⟩
  have hn : n < 18446744073709551616 := by have := h.2; omega
  unfold tidepoleref10_Whole.f wholeI
  rw [Int.toNat_natCast]
  unfold wholeN
  by_cases c0 : n = 0
  · subst c0
    rw [if_pos (show ((0 : Nat) : Int) = 0 from rfl), if_pos rfl]
    rfl
  obtain ⟨k, rfl⟩ : ∃ m, k = m + 1 := ⟨k - 1, by omega⟩
  rw [if_neg (by omega), if_neg c0, show Int.tdiv (n : Int) 4503599627370496 = ((n / 4503599627370496 : Nat) : Int) from tdiv_nat n 4503599627370496, show Int.tmod (n : Int) 4503599627370496 = ((n % 4503599627370496 : Nat) : Int) from tmod_nat n 4503599627370496]
  have hm := Nat.mod_lt n (show 0 < 4503599627370496 by decide)
  have hle : n / 4503599627370496 ≤ n := Nat.div_le_self _ _
  generalize n / 4503599627370496 = e at *
  generalize n % 4503599627370496 = r at *
  rw [uwrap (x := (e : Int)) (by omega) (by omega), uwrap (x := (r : Int) + 4503599627370496) (by omega) (by omega)]
  rw [show (r : Int) + 4503599627370496 = ((r + 4503599627370496 : Nat) : Int) by omega]
  by_cases c1 : e < 1023
  · rw [if_pos (by omega), tidepoleref10_Whole.j0, if_pos rfl, if_pos (Or.inl c1)]; rfl
  rw [if_neg (by omega), tidepoleref10_Whole.j0]
  by_cases c2 : 1086 < e
  · rw [if_pos (by simp; omega), if_pos (Or.inr c2)]; rfl
  rw [if_neg (by simp; omega), if_neg (by omega)]
  by_cases c3 : e ≤ 1075
  · rw [if_pos c3]
    have := refWhole_l0 e c3 (1075 - e) k (r + 4503599627370496) (by omega) (by omega) (by omega)
    rw [show ((e + (1075 - e) : Nat) : Int) = 1075 by omega] at this
    rw [this]
    by_cases c4 : (r + 4503599627370496) % 2 ^ (1075 - e) = 0
    · rw [if_pos c4, if_pos c4]; rfl
    · rw [if_neg c4, if_neg c4]; rfl
  · rw [if_neg c3]
    obtain ⟨k, rfl⟩ : ∃ m, k = m + 1 := ⟨k - 1, by omega⟩
    rw [tidepoleref10_Whole.l0, if_neg (by omega)]
    have hb : (r + 4503599627370496) * 2 ^ (e - 1075) < 18446744073709551616 := by
      have h1 : 2 ^ (e - 1075) ≤ 2 ^ 11 := Nat.pow_le_pow_right (by decide) (by omega)
      have h2 := Nat.mul_le_mul_left (r + 4503599627370496) h1
      omega
    have := refWhole_l1 e (by omega) (e - 1075) k (r + 4503599627370496) (by omega) hb (by omega)
    rw [show ((e - (e - 1075) : Nat) : Int) = 1075 by omega] at this
    rw [this]; rfl
theorem float_near (v : Int) (h : u64 v) : ((FloatKind.f64.nearest v : Nat) : Int) = ((fltR v.toNat : Nat) : Int) := by
  obtain ⟨n, rfl⟩ : ∃ n : Nat, v = n := ⟨v.toNat, by have := h.1; omega⟩
  rw [Int.toNat_natCast, nearest_eq (by have := h.2; omega)]
end Go.Proofs.Ytfbjjbbhnmoolaa.P
namespace Go.Proofs.Ytfbjjbbhnmoolaa.P
open Go.RowKit Go.Shelf Go.Proofs.YtfbjjbbhnmoolaaW.PrintWords Go.Proofs.YtfbjjbbhnmoolaaW.PrintLast Go.Proofs.YtfbjjbbhnmoolaaW.PrintMore
def GR (w : World) (v : Value) (h : Fh) : Prop :=
  ∃ v5 v6 v7 v8, v = .agg #[.int .i64 h.f0, .int .u64 h.f1, .int .u64 h.f2, .int .u64 h.f3, .int .u64 h.f4, v5, v6, v7, v8] ∧ SI kRsp w v5 (h.f5.map toR) ∧ SI kRsp w v6 (h.f6.map toR) ∧ SI (Kd.int .u64) w v7 h.f7 ∧ SI (Kd.int .u64) w v8 h.f8
theorem GR.below {w w' : World} {v : Value} {h : Fh} (x : GR w v h) (hb : Below w.heap.size w w') : GR w' v h := by
  obtain ⟨v5, v6, v7, v8, e, h5, h6, h7, h8⟩ := x
  exact ⟨v5, v6, v7, v8, e, h5.below hb, h6.below hb, h7.below hb, h8.below hb⟩
theorem GR.open_ {w : World} {v : Value} {h : Fh} (x : GR w v h) : ∃ A5 c5 A6 c6 A7 c7 A8 c8, v = .agg #[.int .i64 h.f0, .int .u64 h.f1, .int .u64 h.f2, .int .u64 h.f3, .int .u64 h.f4, .slice A5 h.f5.length c5, .slice A6 h.f6.length c6, .slice A7 h.f7.length c7, .slice A8 h.f8.length c8] ∧
    SI kRsp w (.slice A5 h.f5.length c5) (h.f5.map toR) ∧ SI kRsp w (.slice A6 h.f6.length c6) (h.f6.map toR) ∧ SI (Kd.int .u64) w (.slice A7 h.f7.length c7) h.f7 ∧ SI (Kd.int .u64) w (.slice A8 h.f8.length c8) h.f8 := by
  obtain ⟨v5, v6, v7, v8, rfl, h5, h6, h7, h8⟩ := x
  obtain ⟨A5, c5, rfl, h51, h52⟩ := h5
  obtain ⟨A6, c6, rfl, h61, h62⟩ := h6
  obtain ⟨A7, c7, rfl, h71, h72⟩ := h7
  obtain ⟨A8, c8, rfl, h81, h82⟩ := h8
  rw [List.length_map]
  rw [List.length_map]
  refine ⟨A5, c5, A6, c6, A7, c7, A8, c8, rfl, ⟨A5, c5, by rw [List.length_map], h51, h52⟩, ⟨A6, c6, by rw [List.length_map], h61, h62⟩, .of h72 h71, .of h82 h81⟩
theorem SI.Vu {w : World} {e : Nat} {A : Option Addr} {c : Nat} {l : List Int} (hc : l.length ≤ c) (hr : (Kd.int .u64).C w A l.length l) : Kd.V (Kd.int .u64) e w w.heap.size (fun k_ => (fun k => k < w.heap.size) k_) (.slice A l.length c) l := ⟨_, _, rfl, hc, Kd.C_F (Kd.heap_int .u64) hr⟩
theorem SI.of_Vu {e : Nat} {w : World} {base : Nat} {ok : Nat → Prop} {v : Value} {l : List Int} (h : Kd.V (Kd.int .u64) e w base ok v l) : SI (Kd.int .u64) w v l := by
  obtain ⟨A, c, rfl, hc, hf⟩ := h
  exact .of (hf w (fun _ _ _ => rfl)) hc
end Go.Proofs.Ytfbjjbbhnmoolaa.P
namespace Go.Proofs.Ytfbjjbbhnmoolaa.P
open Go.RowKit Go.Proofs.YtfbjjbbhnmoolaaW.PrintWords Go.Proofs.YtfbjjbbhnmoolaaW.PrintLast Go.Proofs.YtfbjjbbhnmoolaaW.PrintMore
attribute [local go_sem] max2_int min2_int max_two min_two max_three min_three max_four min_four
attribute [local go_sem high] eqA86
def tidepolelaw10_one.f  : Option (Int × Int × Int × Int × Int × (List (S86)) × (List (S86)) × List Int × List Int) := some (0, 1, 4602678819172646912, 4613937818241073152, 0, (([(⟨3, 2⟩ : S86)] : List (S86))), ([] : List (S86)), (([4613937818241073152, 0] : List Int)), ([] : List Int))
set_option maxHeartbeats 8000000 in
set_option maxRecDepth 100000 in
theorem tidepolelaw10_one.calls  (r1 : Int) (r2 : Int) (r3 : Int) (r4 : Int) (r5 : Int) (r6 : List (S86)) (r7 : List (S86)) (r8 : List Int) (r9 : List Int) (w : World) (h : tidepolelaw10_one.f  = some (r1, r2, r3, r4, r5, r6, r7, r8, r9)) :
  Calls Try.prog 85 #[] w fun e w' => ∃ v5_ v6_ v7_ v8_ : Value, e = .returned (.agg #[.int .i64 r1, .int .u64 r2, .int .u64 r3, .int .u64 r4, .int .u64 r5, v5_, v6_, v7_, v8_]) ∧ Kd.R k86 86 w' w.heap.size (fun k_ => some k_ ≠ (v6_ : Value).ownBlock) v5_ r6 ∧ Kd.R k86 86 w' w.heap.size (fun k_ => some k_ ≠ (v5_ : Value).ownBlock) v6_ r7 ∧ Kd.R (Kd.int .u64) 22 w' w.heap.size (fun k_ => some k_ ≠ (v8_ : Value).ownBlock) v7_ r8 ∧ Kd.R (Kd.int .u64) 22 w' w.heap.size (fun k_ => some k_ ≠ (v7_ : Value).ownBlock) v8_ r9 ∧ Below w.heap.size w w' := by
 have hu31 := Try.underlying31
 have hu86 := Try.underlying86
 have HB := Aside0.mk (Below.refl w.heap.size w)
 have H : (some (0, 1, 4602678819172646912, 4613937818241073152, 0, (([(⟨3, 2⟩ : S86)] : List (S86))), ([] : List (S86)), (([4613937818241073152, 0] : List Int)), ([] : List Int))) = some (r1, r2, r3, r4, r5, r6, r7, r8, r9) := h
 clear h
 obtain ⟨y102, hy102⟩ : ∃ y_ : List (S86), y_ = (([(⟨3, 2⟩ : S86)] : List (S86))) := ⟨_, rfl⟩
 replace H : (some (0, 1, 4602678819172646912, 4613937818241073152, 0, y102, ([] : List (S86)), (([4613937818241073152, 0] : List Int)), ([] : List Int))) = some (r1, r2, r3, r4, r5, r6, r7, r8, r9) := by first | (rw [hy102]; with_reducible exact H) | (have H2_ := (Option.bind_some _ _).symm.trans H; rw [hy102]; with_reducible exact H2_) | (have H2_ := (Option.bind_some _ _).symm.trans H; with_reducible exact H2_) | with_reducible exact H | (rw [hy102]; exact H) | exact H
 have Ny102 := Aside0.mk hy102
 clear hy102
 obtain ⟨y105, hy105⟩ : ∃ y_ : List Int, y_ = (([4613937818241073152, 0] : List Int)) := ⟨_, rfl⟩
 replace H : (some (0, 1, 4602678819172646912, 4613937818241073152, 0, y102, ([] : List (S86)), y105, ([] : List Int))) = some (r1, r2, r3, r4, r5, r6, r7, r8, r9) := by first | (rw [hy105]; with_reducible exact H) | (have H2_ := (Option.bind_some _ _).symm.trans H; rw [hy105]; with_reducible exact H2_) | (have H2_ := (Option.bind_some _ _).symm.trans H; with_reducible exact H2_) | with_reducible exact H | (rw [hy105]; exact H) | exact H
 have Ny105 := Aside0.mk hy105
 clear hy105
 simp only [Option.some.injEq, Prod.mk.injEq] at H
 obtain ⟨rfl, rfl, rfl, rfl, rfl, rfl, rfl, rfl, rfl⟩ := H
 go_enter Try.func85, Try.ntmps85
 go_wp2_with (first | ((with_reducible refine gate_dst (N := 0) rfl ?_); refine box_event ?hg (N := 0) ?hd (cs := #[.int .i64 0, .int .u64 0, .int .u64 0, .int .u64 0, .int .u64 0, .slice none 0 0, .slice none 0 0, .slice none 0 0, .slice none 0 0]) (t := 31) ?hr ?_; (case hd => rfl); (case hg => rfl); (case hr => first | (go_simp; done) | (go_simp; rfl)); intro gb101 hg w1 hbox hb; have BK101 := Aside0.mk (hbox); have GW101 := Aside0.mk ((by rw [hg]; exact (below_size (below_u HB.out)) : w.heap.size ≤ gb101)); have GE101 := Aside0.mk ((by rw [hg]; exact (below_size (below_u HB.out)) : w.heap.size ≤ gb101)); replace HB := Aside0.mk (below_step (below_u HB.out) hb); clear hb hbox hg) | ((with_reducible refine gate_dst (N := 2) rfl ?_); refine Kd.R_lit k86 _ 86 ?hg (N := 2) ?hd (xs := ([(⟨3, 2⟩ : S86)] : List (S86))) (inner := [.int .i64 3, .int .i64 2]) (ok := fun _ => True) (okp := fun _ => True) ?hr ?hp (fun _ hk => hk) trivial (Below.refl _ _) (Nat.le_refl _) (by simp) ?_; (case hd => rfl); (case hg => rfl); (case hr => first | (go_simp; done) | (go_simp; rfl)); (case hp => exact (Reps.c2 (show Kd.M k86 _ _ _ (⟨3, 2⟩ : S86) [.int .i64 3, .int .i64 2] from (k86_mkM _ _ _ (⟨3, 2⟩ : S86) )) (Reps.none _ _))); intro v103 w2 ho3 hb hg_ hnew_; clear hg_ hnew_; (first | rw [← Ny102.out] at ho3 | (simp only [Int.reduceToNat] at ho3; rw [← Ny102.out] at ho3)); have HO104 := Aside0.mk (Kd.R_lower ho3 (below_size (by repeat (first | (with_reducible first | exact HB.out | refine below_q ?_ | refine below_set ?_ GE101.out) | exact HB.out)))); replace BK101 := Aside0.mk (blk_ub BK101.out hb); replace HB := Aside0.mk (below_step (by repeat (first | (with_reducible first | exact HB.out | refine below_q ?_ | refine below_set ?_ GE101.out) | exact HB.out)) hb); clear hb ho3) | ((with_reducible refine gate_dst (N := 3) rfl ?_); refine Kd.R_lit (Kd.int .u64) _ 22 ?hg (N := 3) ?hd (xs := ([4613937818241073152, 0] : List Int)) (inner := [.int .u64 4613937818241073152, .int .u64 0]) (ok := fun _ => True) (okp := fun _ => True) ?hr ?hp (fun _ hk => hk) trivial (Below.refl _ _) (Nat.le_refl _) (by simp) ?_; (case hd => rfl); (case hg => rfl); (case hr => first | (go_simp; done) | (go_simp; rfl)); (case hp => exact (Reps.one (show Kd.M (Kd.int .u64) _ _ _ 4613937818241073152 [.int .u64 4613937818241073152] from rfl) (Reps.one (show Kd.M (Kd.int .u64) _ _ _ 0 [.int .u64 0] from rfl) (Reps.none _ _)))); intro v106 w4 ho5 hb hg_ hnew_; clear hg_ hnew_; (first | rw [← Ny105.out] at ho5 | (simp only [Int.reduceToNat] at ho5; rw [← Ny105.out] at ho5)); have HO107 := Aside0.mk (Kd.R_lower ho5 (below_size (by repeat (first | (with_reducible first | exact HB.out | refine below_q ?_ | refine below_set ?_ GE101.out) | exact HB.out)))); replace HO104 := Aside0.mk (Kd.R_ub HO104.out hb); replace BK101 := Aside0.mk (blk_ub BK101.out hb); replace HB := Aside0.mk (below_step (by repeat (first | (with_reducible first | exact HB.out | refine below_q ?_ | refine below_set ?_ GE101.out) | exact HB.out)) hb); clear hb ho5; obtain ⟨Ao6, co6, eo6⟩ := Kd.R_slice HO107.out; subst eo6; obtain ⟨Ao7, co7, eo7⟩ := Kd.R_slice HO104.out; subst eo7; have hcz8_0 := blk_cell BK101.out; have hfz8_0 := blk_frozen BK101.out))
 refine bodyPost_ret (results_cell_row rfl _ _ gb101 31 #[.int .i64 0, .int .u64 1, .int .u64 4602678819172646912, .int .u64 4613937818241073152, .int .u64 0, .slice Ao7 y102.length co7, .slice none 0 0, .slice Ao6 y105.length co6, .slice none 0 0] (0, 0) _ rfl (by (repeat with_reducible refine blk_q ?_); refine blk_put (cs := #[.int .i64 0, .int .u64 1, .int .u64 4602678819172646912, .int .u64 4613937818241073152, .int .u64 0, .slice Ao7 y102.length co7, .slice none 0 0, .slice Ao6 y105.length co6, .slice none 0 0]) ?_ 8 _ rfl; (repeat with_reducible refine blk_q ?_); refine blk_put (cs := #[.int .i64 0, .int .u64 1, .int .u64 4602678819172646912, .int .u64 4613937818241073152, .int .u64 0, .slice Ao7 y102.length co7, .slice none 0 0, .slice none 0 0, .slice none 0 0]) ?_ 7 _ rfl; (repeat with_reducible refine blk_q ?_); refine blk_put (cs := #[.int .i64 0, .int .u64 1, .int .u64 4602678819172646912, .int .u64 4613937818241073152, .int .u64 0, .slice Ao7 y102.length co7, .slice none 0 0, .slice none 0 0, .slice none 0 0]) ?_ 6 _ rfl; (repeat with_reducible refine blk_q ?_); refine blk_put (cs := #[.int .i64 0, .int .u64 1, .int .u64 4602678819172646912, .int .u64 4613937818241073152, .int .u64 0, .slice none 0 0, .slice none 0 0, .slice none 0 0, .slice none 0 0]) ?_ 5 _ rfl; (repeat with_reducible refine blk_q ?_); refine blk_put (cs := #[.int .i64 0, .int .u64 1, .int .u64 4602678819172646912, .int .u64 4613937818241073152, .int .u64 0, .slice none 0 0, .slice none 0 0, .slice none 0 0, .slice none 0 0]) ?_ 4 _ rfl; (repeat with_reducible refine blk_q ?_); refine blk_put (cs := #[.int .i64 0, .int .u64 1, .int .u64 4602678819172646912, .int .u64 0, .int .u64 0, .slice none 0 0, .slice none 0 0, .slice none 0 0, .slice none 0 0]) ?_ 3 _ rfl; (repeat with_reducible refine blk_q ?_); refine blk_put (cs := #[.int .i64 0, .int .u64 1, .int .u64 0, .int .u64 0, .int .u64 0, .slice none 0 0, .slice none 0 0, .slice none 0 0, .slice none 0 0]) ?_ 2 _ rfl; (repeat with_reducible refine blk_q ?_); refine blk_put (cs := #[.int .i64 0, .int .u64 0, .int .u64 0, .int .u64 0, .int .u64 0, .slice none 0 0, .slice none 0 0, .slice none 0 0, .slice none 0 0]) ?_ 1 _ rfl; (repeat with_reducible refine blk_q ?_); refine blk_put (cs := #[.int .i64 0, .int .u64 0, .int .u64 0, .int .u64 0, .int .u64 0, .slice none 0 0, .slice none 0 0, .slice none 0 0, .slice none 0 0]) ?_ 0 _ rfl; (repeat with_reducible refine blk_q ?_); exact BK101.out) Try.underlying31 rfl (by kernel_rfl)) rfl ?_
 exact ⟨_, _, _, _, by first | rfl | (simp [errW_none, errW_some] <;> rfl) | (simp [*, errW_none, errW_some] <;> rfl), by (repeat with_reducible refine Kd.R_q ?_); exact Kd.R_mono (Kd.R_far (p := ⟨gb101, 8, none⟩) (Kd.R_far (p := ⟨gb101, 7, none⟩) (Kd.R_far (p := ⟨gb101, 6, none⟩) (Kd.R_far (p := ⟨gb101, 5, none⟩) (Kd.R_far (p := ⟨gb101, 4, none⟩) (Kd.R_far (p := ⟨gb101, 3, none⟩) (Kd.R_far (p := ⟨gb101, 2, none⟩) (Kd.R_far (p := ⟨gb101, 1, none⟩) (Kd.R_far (p := ⟨gb101, 0, none⟩) (Kd.R_types HO104.out BK101.out (by decide)) (fun _ hk => hk.2) (.int .i64 0)) (fun _ hk => hk.2) (.int .u64 1)) (fun _ hk => hk.2) (.int .u64 4602678819172646912)) (fun _ hk => hk.2) (.int .u64 4613937818241073152)) (fun _ hk => hk.2) (.int .u64 0)) (fun _ hk => hk.2) (.slice Ao7 y102.length co7)) (fun _ hk => hk.2) (.slice none 0 0)) (fun _ hk => hk.2) (.slice Ao6 y105.length co6)) (fun _ hk => hk.2) (.slice none 0 0)) (fun _ hk => (by simp [Value.ownBlock])), by first | exact Kd.R_nil _ _ _ _ _ | exact Kd.N_nil _ _ _ _ _ | exact Kd.V_nil _ _ _ _ _ | exact Kd.Q_nil _ _ _ _ _ | exact Kd.S_nil _ _ _ _ _, by (repeat with_reducible refine Kd.R_q ?_); exact Kd.R_mono (Kd.R_far (p := ⟨gb101, 8, none⟩) (Kd.R_far (p := ⟨gb101, 7, none⟩) (Kd.R_far (p := ⟨gb101, 6, none⟩) (Kd.R_far (p := ⟨gb101, 5, none⟩) (Kd.R_far (p := ⟨gb101, 4, none⟩) (Kd.R_far (p := ⟨gb101, 3, none⟩) (Kd.R_far (p := ⟨gb101, 2, none⟩) (Kd.R_far (p := ⟨gb101, 1, none⟩) (Kd.R_far (p := ⟨gb101, 0, none⟩) (Kd.R_types HO107.out BK101.out (by decide)) (fun _ hk => hk.2) (.int .i64 0)) (fun _ hk => hk.2) (.int .u64 1)) (fun _ hk => hk.2) (.int .u64 4602678819172646912)) (fun _ hk => hk.2) (.int .u64 4613937818241073152)) (fun _ hk => hk.2) (.int .u64 0)) (fun _ hk => hk.2) (.slice Ao7 y102.length co7)) (fun _ hk => hk.2) (.slice none 0 0)) (fun _ hk => hk.2) (.slice Ao6 y105.length co6)) (fun _ hk => hk.2) (.slice none 0 0)) (fun _ hk => (by simp [Value.ownBlock])), by first | exact Kd.R_nil _ _ _ _ _ | exact Kd.N_nil _ _ _ _ _ | exact Kd.V_nil _ _ _ _ _ | exact Kd.Q_nil _ _ _ _ _ | exact Kd.S_nil _ _ _ _ _, by repeat (first | (with_reducible first | exact HB.out | apply below_alloc | apply pw_below_drewN | apply below_drew1 | refine below_set ?_ GE101.out) | exact HB.out)⟩
def tidepolelaw10_few.l0 : Nat → Int → List (S86) → Int → Int → Option (Bool)
 | 0, _, _, _, _ => none
 | k + 1, x3, x6, x7, x8 => if x8 < x7 then (if 0 ≤ x8 then (if x8 < (x6.length : Int) then (if ((rd_T86 x6 x8).f1) > 0 then (if (wrap64 ((wrap64 (x3 + (wrap64 (1 + (wrap64 (Int.tdiv (mn ((rd_T86 x6 x8).f1) 5000) 10)))))) + 1)) > 400 then (some false) else (tidepolelaw10_few.l0 k (wrap64 ((wrap64 (x3 + (wrap64 (1 + (wrap64 (Int.tdiv (mn ((rd_T86 x6 x8).f1) 5000) 10)))))) + 1)) x6 x7 (wrap64 (x8 + 1)))) else (if (wrap64 (x3 + 1)) > 400 then (some false) else (tidepolelaw10_few.l0 k (wrap64 (x3 + 1)) x6 x7 (wrap64 (x8 + 1))))) else (none)) else (none)) else (some true)
def tidepolelaw10_few.f (k : Nat) (l0 : List (S86)) : Option (Bool) := tidepolelaw10_few.l0 k 0 l0 (l0.length : Int) 0
set_option maxHeartbeats 8000000 in
set_option maxRecDepth 100000 in
theorem tidepolelaw10_few.calls (k : Nat) (A0 : Option Addr) (c0 : Nat) (l0 : List (S86)) (r : Bool) (w : World) (hr0 : Kd.C k86 w A0 l0.length l0) (hc0 : l0.length ≤ c0) (h : tidepolelaw10_few.f k l0 = some r) :
  Calls Try.prog 41 #[.slice A0 l0.length c0] w fun e w' => e = .returned (.bool r) ∧ Below w.heap.size w w' := by
 have hu86 := Try.underlying86
 have HR0 := Aside0.mk hr0
 have HC0 := Aside0.mk hc0
 clear hr0 hc0
 have HB := Aside0.mk (Below.refl w.heap.size w)
 have H : (tidepolelaw10_few.l0 k 0 l0 (l0.length : Int) 0) = some r := h
 clear h
 have H' := Aside0.mk H
 clear H
 go_enter Try.func41, Try.ntmps41
 go_wp2
 go_loopg [3, 8] k (fun kq v3 v8 w' => ∃ (x3_1 : Int) (x8_1 : Int), v3 = .int .i64 x3_1 ∧ v8 = .int .i64 x8_1 ∧ Aside0 (tidepolelaw10_few.l0 kq x3_1 l0 (l0.length : Int) x8_1 = some r) ∧ Aside0 (kq ≤ k) ∧ Aside0 (Below w.heap.size w w'))
 case atStart => exact ⟨(0), (0), (by first | rfl | (simp; done) | (simp [*]; done)), (by first | rfl | (simp; done) | (simp [*]; done)), H', ⟨Nat.le_refl _⟩, ⟨by repeat (first | (with_reducible first | exact HB.out | apply below_alloc | apply pw_below_drewN | apply below_drew1) | exact HB.out)⟩⟩
 case round =>
  clear H'
  obtain ⟨x3_1, x8_1, rfl, rfl, HA, HK1, HB⟩ := hrel
  cases gk with
  | zero => exact absurd HA.out (by simp [tidepolelaw10_few.l0])
  | succ k1 =>
   have H := HA.out
   clear HA
   simp only [tidepolelaw10_few.l0] at H
   by_cases c2 : x8_1 < (l0.length : Int)
   ·rw [if_pos c2] at H
    have c2b0 : decide (x8_1 < (l0.length : Int)) = true := decide_eq_true c2
    clear c2
    by_cases c3 : 0 ≤ x8_1
    ·rw [if_pos c3] at H
     have c3b0 : decide (0 ≤ x8_1) = true := decide_eq_true c3
     clear c3
     by_cases c4 : x8_1 < (l0.length : Int)
     ·rw [if_pos c4] at H
      have c4b0 : decide (x8_1 < (l0.length : Int)) = true := decide_eq_true c4
      clear c4
      by_cases c5 : ((rd_T86 l0 x8_1).f1) > 0
      ·rw [if_pos c5] at H
       have c5b0 : decide (0 < ((rd_T86 l0 x8_1).f1)) = true := decide_eq_true c5
       clear c5
       obtain ⟨ji6, hji6⟩ : ∃ j_ : Int, (mn ((rd_T86 l0 x8_1).f1) 5000) = j_ := ⟨_, rfl⟩
       replace H : (if (wrap64 ((wrap64 (x3_1 + (wrap64 (1 + (wrap64 (Int.tdiv (ji6) 10)))))) + 1)) > 400 then (some false) else (tidepolelaw10_few.l0 k1 (wrap64 ((wrap64 (x3_1 + (wrap64 (1 + (wrap64 (Int.tdiv (ji6) 10)))))) + 1)) l0 (l0.length : Int) (wrap64 (x8_1 + 1)))) = some r := by first | (rw [hji6] at H; exact H) | (simp only [hji6] at H ⊢; exact H)
       have hji6_ : (if 5000 < ((rd_T86 l0 x8_1).f1) then 5000 else ((rd_T86 l0 x8_1).f1)) = ji6 := hji6
       by_cases c7 : (wrap64 ((wrap64 (x3_1 + (wrap64 (1 + (wrap64 (Int.tdiv (ji6) 10)))))) + 1)) > 400
       ·rw [if_pos c7] at H
        have c7b0 : decide (400 < (wrap64 ((wrap64 (x3_1 + (wrap64 (1 + (wrap64 (Int.tdiv (ji6) 10)))))) + 1))) = true := decide_eq_true c7
        clear c7
        obtain rfl := Option.some.inj H
        have p101 : 0 ≤ (x8_1 : Int) := of_decide_eq_true (by assumption)
        have q101 : x8_1 < (l0.length : Int) := of_decide_eq_true (by assumption)
        obtain ⟨ad101, e101, hx101_0, hx101_1⟩ := at_T86 HR0.out x8_1 p101 q101
        cases e101
        replace hx101_0 := (HB.out.cell (World.block_lt_of_cell? w _ hx101_0)).trans hx101_0
        replace hx101_1 := (HB.out.cell (World.block_lt_of_cell? w _ hx101_1)).trans hx101_1
        replace p101 := eq_true p101
        replace q101 := eq_true q101
        go_wp2_with (first | ((with_reducible refine gate_dst (N := 5) rfl ?_); refine box_event ?hg (N := 5) ?hd (cs := #[.int .i64 0, .int .i64 0]) (t := 86) ?hr ?_; (case hd => rfl); (case hg => rfl); (case hr => first | (go_simp; done) | (go_simp; rfl)); intro gb102 hg w8 hbox hb; have BK102 := Aside0.mk (hbox); have GW102 := Aside0.mk ((by rw [hg]; exact (below_size (below_u HB.out)) : w.heap.size ≤ gb102)); have GE102 := Aside0.mk ((by rw [hg]; exact (below_size (below_u HB.out)) : w.heap.size ≤ gb102)); replace HB := Aside0.mk (below_step (below_u HB.out) hb); clear hb hbox hg; have hcz9_0 := blk_cell BK102.out; have hfz9_0 := blk_frozen BK102.out))
        go_ret
        exact ⟨by first | rfl | (simp [errW_none, errW_some] <;> rfl) | (simp only [← hji6]; first | rfl | (simp [errW_none, errW_some] <;> rfl)) | (simp [*, errW_none, errW_some] <;> rfl), by repeat (first | (with_reducible first | exact HB.out | apply below_alloc | apply pw_below_drewN | apply below_drew1 | refine below_set ?_ GE102.out) | exact HB.out)⟩
       rw [if_neg c7] at H
       have c7b0 : decide (400 < (wrap64 ((wrap64 (x3_1 + (wrap64 (1 + (wrap64 (Int.tdiv (ji6) 10)))))) + 1))) = false := decide_eq_false c7
       clear c7
       have H' := Aside0.mk H
       clear H
       have p101 : 0 ≤ (x8_1 : Int) := of_decide_eq_true (by assumption)
       have q101 : x8_1 < (l0.length : Int) := of_decide_eq_true (by assumption)
       obtain ⟨ad101, e101, hx101_0, hx101_1⟩ := at_T86 HR0.out x8_1 p101 q101
       cases e101
       replace hx101_0 := (HB.out.cell (World.block_lt_of_cell? w _ hx101_0)).trans hx101_0
       replace hx101_1 := (HB.out.cell (World.block_lt_of_cell? w _ hx101_1)).trans hx101_1
       replace p101 := eq_true p101
       replace q101 := eq_true q101
       go_wp2_with (first | ((with_reducible refine gate_dst (N := 5) rfl ?_); refine box_event ?hg (N := 5) ?hd (cs := #[.int .i64 0, .int .i64 0]) (t := 86) ?hr ?_; (case hd => rfl); (case hg => rfl); (case hr => first | (go_simp; done) | (go_simp; rfl)); intro gb102 hg w10 hbox hb; have BK102 := Aside0.mk (hbox); have GW102 := Aside0.mk ((by rw [hg]; exact (below_size (below_u HB.out)) : w.heap.size ≤ gb102)); have GE102 := Aside0.mk ((by rw [hg]; exact (below_size (below_u HB.out)) : w.heap.size ≤ gb102)); replace HB := Aside0.mk (below_step (below_u HB.out) hb); clear hb hbox hg; have hcz11_0 := blk_cell BK102.out; have hfz11_0 := blk_frozen BK102.out))
       go_roundg k1
       case measure => have := HK1.out; omega
       case rel => exact ⟨(wrap64 ((wrap64 (x3_1 + (wrap64 (1 + (wrap64 (Int.tdiv (ji6) 10)))))) + 1)), (wrap64 (x8_1 + 1)), (by first | rfl | (simp; done) | (simp only [← hji6] <;> (first | rfl | simp)) | (simp [*]; done)), (by first | rfl | (simp; done) | (simp [*]; done)), H', ⟨by have := HK1.out; omega⟩, ⟨by repeat (first | (with_reducible first | exact HB.out | apply below_alloc | apply pw_below_drewN | apply below_drew1 | refine below_set ?_ GE102.out) | exact HB.out)⟩⟩
      rw [if_neg c5] at H
      have c5b0 : decide (0 < ((rd_T86 l0 x8_1).f1)) = false := decide_eq_false c5
      clear c5
      by_cases c12 : (wrap64 (x3_1 + 1)) > 400
      ·rw [if_pos c12] at H
       have c12b0 : decide (400 < (wrap64 (x3_1 + 1))) = true := decide_eq_true c12
       clear c12
       obtain rfl := Option.some.inj H
       have p101 : 0 ≤ (x8_1 : Int) := of_decide_eq_true (by assumption)
       have q101 : x8_1 < (l0.length : Int) := of_decide_eq_true (by assumption)
       obtain ⟨ad101, e101, hx101_0, hx101_1⟩ := at_T86 HR0.out x8_1 p101 q101
       cases e101
       replace hx101_0 := (HB.out.cell (World.block_lt_of_cell? w _ hx101_0)).trans hx101_0
       replace hx101_1 := (HB.out.cell (World.block_lt_of_cell? w _ hx101_1)).trans hx101_1
       replace p101 := eq_true p101
       replace q101 := eq_true q101
       go_wp2_with (first | ((with_reducible refine gate_dst (N := 5) rfl ?_); refine box_event ?hg (N := 5) ?hd (cs := #[.int .i64 0, .int .i64 0]) (t := 86) ?hr ?_; (case hd => rfl); (case hg => rfl); (case hr => first | (go_simp; done) | (go_simp; rfl)); intro gb102 hg w13 hbox hb; have BK102 := Aside0.mk (hbox); have GW102 := Aside0.mk ((by rw [hg]; exact (below_size (below_u HB.out)) : w.heap.size ≤ gb102)); have GE102 := Aside0.mk ((by rw [hg]; exact (below_size (below_u HB.out)) : w.heap.size ≤ gb102)); replace HB := Aside0.mk (below_step (below_u HB.out) hb); clear hb hbox hg; have hcz14_0 := blk_cell BK102.out; have hfz14_0 := blk_frozen BK102.out))
       go_ret
       exact ⟨by first | rfl | (simp [errW_none, errW_some] <;> rfl) | (simp [*, errW_none, errW_some] <;> rfl), by repeat (first | (with_reducible first | exact HB.out | apply below_alloc | apply pw_below_drewN | apply below_drew1 | refine below_set ?_ GE102.out) | exact HB.out)⟩
      rw [if_neg c12] at H
      have c12b0 : decide (400 < (wrap64 (x3_1 + 1))) = false := decide_eq_false c12
      clear c12
      have H' := Aside0.mk H
      clear H
      have p101 : 0 ≤ (x8_1 : Int) := of_decide_eq_true (by assumption)
      have q101 : x8_1 < (l0.length : Int) := of_decide_eq_true (by assumption)
      obtain ⟨ad101, e101, hx101_0, hx101_1⟩ := at_T86 HR0.out x8_1 p101 q101
      cases e101
      replace hx101_0 := (HB.out.cell (World.block_lt_of_cell? w _ hx101_0)).trans hx101_0
      replace hx101_1 := (HB.out.cell (World.block_lt_of_cell? w _ hx101_1)).trans hx101_1
      replace p101 := eq_true p101
      replace q101 := eq_true q101
      go_wp2_with (first | ((with_reducible refine gate_dst (N := 5) rfl ?_); refine box_event ?hg (N := 5) ?hd (cs := #[.int .i64 0, .int .i64 0]) (t := 86) ?hr ?_; (case hd => rfl); (case hg => rfl); (case hr => first | (go_simp; done) | (go_simp; rfl)); intro gb102 hg w15 hbox hb; have BK102 := Aside0.mk (hbox); have GW102 := Aside0.mk ((by rw [hg]; exact (below_size (below_u HB.out)) : w.heap.size ≤ gb102)); have GE102 := Aside0.mk ((by rw [hg]; exact (below_size (below_u HB.out)) : w.heap.size ≤ gb102)); replace HB := Aside0.mk (below_step (below_u HB.out) hb); clear hb hbox hg; have hcz16_0 := blk_cell BK102.out; have hfz16_0 := blk_frozen BK102.out))
      go_roundg k1
      case measure => have := HK1.out; omega
      case rel => exact ⟨(wrap64 (x3_1 + 1)), (wrap64 (x8_1 + 1)), (by first | rfl | (simp; done) | (simp [*]; done)), (by first | rfl | (simp; done) | (simp [*]; done)), H', ⟨by have := HK1.out; omega⟩, ⟨by repeat (first | (with_reducible first | exact HB.out | apply below_alloc | apply pw_below_drewN | apply below_drew1 | refine below_set ?_ GE102.out) | exact HB.out)⟩⟩
     rw [if_neg c4] at H
     exact absurd H (by simp)
    rw [if_neg c3] at H
    exact absurd H (by simp)
   rw [if_neg c2] at H
   have c2b0 : decide (x8_1 < (l0.length : Int)) = false := decide_eq_false c2
   clear c2
   obtain rfl := Option.some.inj H
   go_wp2
   go_ret
   exact ⟨by first | rfl | (simp [errW_none, errW_some] <;> rfl) | (simp [*, errW_none, errW_some] <;> rfl), by repeat (first | (with_reducible first | exact HB.out | apply below_alloc | apply pw_below_drewN | apply below_drew1) | exact HB.out)⟩
def tidepolelaw10_spans.l0 : Nat → List (S117) → List (S86) → Int → Int → Option ((List (S117)))
 | 0, _, _, _, _ => none
 | k + 1, x3, x6, x7, x8 => if x8 < x7 then (if 0 ≤ x8 then (if x8 < (x6.length : Int) then (if x3.length < 8796093022208 then (tidepolelaw10_spans.l0 k (x3 ++ [(⟨(rd_T86 x6 x8).f0, (rd_T86 x6 x8).f1⟩ : S117)]) x6 x7 (wrap64 (x8 + 1))) else (none)) else (none)) else (none)) else (some x3)
def tidepolelaw10_spans.f (k : Nat) (l0 : List (S86)) : Option ((List (S117))) := tidepolelaw10_spans.l0 k ([] : List (S117)) l0 (l0.length : Int) 0
set_option maxHeartbeats 8000000 in
set_option maxRecDepth 100000 in
theorem tidepolelaw10_spans.calls (k : Nat) (A0 : Option Addr) (c0 : Nat) (l0 : List (S86)) (r : List (S117)) (w : World) (hr0 : Kd.C k86 w A0 l0.length l0) (hc0 : l0.length ≤ c0) (h : tidepolelaw10_spans.f k l0 = some r) :
  Calls Try.prog 95 #[.slice A0 l0.length c0] w fun e w' => ∃ v0_ : Value, e = .returned (v0_) ∧ Kd.R k117 117 w' w.heap.size (fun _ => True) v0_ r ∧ Below w.heap.size w w' := by
 have hu86 := Try.underlying86
 have hu117 := Try.underlying117
 have HR0 := Aside0.mk hr0
 have HC0 := Aside0.mk hc0
 clear hr0 hc0
 have HB := Aside0.mk (Below.refl w.heap.size w)
 have H : (tidepolelaw10_spans.l0 k ([] : List (S117)) l0 (l0.length : Int) 0) = some r := h
 clear h
 have H' := Aside0.mk H
 clear H
 go_enter Try.func95, Try.ntmps95
 go_wp2
 go_loopg [3, 8] k (fun kq v3 v8 w' => ∃ (x3_1 : List (S117)) (x8_1 : Int), v8 = .int .i64 x8_1 ∧ Aside0 (tidepolelaw10_spans.l0 kq x3_1 l0 (l0.length : Int) x8_1 = some r) ∧ Aside0 (kq ≤ k) ∧ Aside0 (Kd.R k117 117 w' w.heap.size (fun _ => True) v3 x3_1) ∧ Aside0 (Below w.heap.size w w'))
 case atStart => exact ⟨(([] : List (S117))), (0), (by first | rfl | (simp; done) | (simp [*]; done)), H', ⟨Nat.le_refl _⟩, ⟨by first | exact Kd.R_nil _ _ _ _ _ | exact Kd.N_nil _ _ _ _ _ | exact Kd.V_nil _ _ _ _ _ | exact Kd.Q_nil _ _ _ _ _ | exact Kd.S_nil _ _ _ _ _⟩, ⟨by repeat (first | (with_reducible first | exact HB.out | apply below_alloc | apply pw_below_drewN | apply below_drew1) | exact HB.out)⟩⟩
 case round =>
  clear H'
  obtain ⟨x3_1, x8_1, rfl, HA, HK1, HO_3, HB⟩ := hrel
  cases gk with
  | zero => exact absurd HA.out (by simp [tidepolelaw10_spans.l0])
  | succ k1 =>
   have H := HA.out
   clear HA
   simp only [tidepolelaw10_spans.l0] at H
   by_cases c2 : x8_1 < (l0.length : Int)
   ·rw [if_pos c2] at H
    have c2b0 : decide (x8_1 < (l0.length : Int)) = true := decide_eq_true c2
    clear c2
    by_cases c3 : 0 ≤ x8_1
    ·rw [if_pos c3] at H
     have c3b0 : decide (0 ≤ x8_1) = true := decide_eq_true c3
     clear c3
     by_cases c4 : x8_1 < (l0.length : Int)
     ·rw [if_pos c4] at H
      have c4b0 : decide (x8_1 < (l0.length : Int)) = true := decide_eq_true c4
      clear c4
      by_cases c5 : x3_1.length < 8796093022208
      ·rw [if_pos c5] at H
       have LMc5 := Aside0.mk c5
       clear c5
       obtain ⟨y103, hy103⟩ : ∃ y_ : List (S117), y_ = (x3_1 ++ [(⟨(rd_T86 l0 x8_1).f0, (rd_T86 l0 x8_1).f1⟩ : S117)]) := ⟨_, rfl⟩
       replace H : (tidepolelaw10_spans.l0 k1 y103 l0 (l0.length : Int) (wrap64 (x8_1 + 1))) = some r := by first | (rw [hy103]; with_reducible exact H) | (have H2_ := (Option.bind_some _ _).symm.trans H; rw [hy103]; with_reducible exact H2_) | (have H2_ := (Option.bind_some _ _).symm.trans H; with_reducible exact H2_) | with_reducible exact H | (rw [hy103]; exact H) | exact H
       have Ny103 := Aside0.mk hy103
       clear hy103
       have H' := Aside0.mk H
       clear H
       have p101 : 0 ≤ (x8_1 : Int) := of_decide_eq_true (by assumption)
       have q101 : x8_1 < (l0.length : Int) := of_decide_eq_true (by assumption)
       obtain ⟨ad101, e101, hx101_0, hx101_1⟩ := at_T86 HR0.out x8_1 p101 q101
       cases e101
       replace hx101_0 := (HB.out.cell (World.block_lt_of_cell? w _ hx101_0)).trans hx101_0
       replace hx101_1 := (HB.out.cell (World.block_lt_of_cell? w _ hx101_1)).trans hx101_1
       replace p101 := eq_true p101
       replace q101 := eq_true q101
       go_wp2_with (first | ((with_reducible refine gate_dst (N := 5) rfl ?_); refine box_event ?hg (N := 5) ?hd (cs := #[.int .i64 0, .int .i64 0]) (t := 86) ?hr ?_; (case hd => rfl); (case hg => rfl); (case hr => first | (go_simp; done) | (go_simp; rfl)); intro gb102 hg w6 hbox hb; have BK102 := Aside0.mk (hbox); have GW102 := Aside0.mk ((by rw [hg]; exact (below_size (below_u HB.out)) : w.heap.size ≤ gb102)); have GE102 := Aside0.mk ((by rw [hg]; exact (below_size (below_u HB.out)) : w.heap.size ≤ gb102)); replace HO_3 := Aside0.mk (Kd.R_ub HO_3.out hb); replace HB := Aside0.mk (below_step (below_u HB.out) hb); clear hb hbox hg; have hcz7_0 := blk_cell BK102.out; have hfz7_0 := blk_frozen BK102.out) | ((with_reducible refine gate_builtin (b := .append) (xs := #[.tmp 12, .tmp 18]) rfl ?_); at_builtin; refine Kd.R_append k117 (w0 := w) w.heap.size rfl (.tmp 12) (.tmp 18) 43 117 (.agg #[(.int .i64 0), (.int .i64 0)]) 16 rfl Try.underlying43 info117 rfl (by decide) (by omega) u3 x3_1 (⟨(rd_T86 l0 x8_1).f0, (rd_T86 l0 x8_1).f1⟩ : S117) [.int .i64 ((rd_T86 l0 x8_1).f0), .int .i64 ((rd_T86 l0 x8_1).f1)] (fun _ => True) (fun _ => False) rfl (by first | (go_simp; done) | (go_simp; rfl)) ?aP (fun _ hk => hk.elim) ?aF ?aO ?aB ?aS ?aL ?_; (case aP => exact k117_mkM _ _ _ (⟨(rd_T86 l0 x8_1).f0, (rd_T86 l0 x8_1).f1⟩ : S117)); (case aB => exact (by repeat (first | (with_reducible first | exact HB.out | refine below_q ?_ | refine below_set ?_ GE102.out) | exact HB.out))); (case aF => exact (fun _ _ => trivial)); (case aO => exact (Kd.R_u (Kd.R_mono (Kd.R_far (p := ⟨gb102, 1, none⟩) (Kd.R_far (p := ⟨gb102, 0, none⟩) (Kd.R_types HO_3.out BK102.out (by decide)) (fun _ hk => hk.2) (.int .i64 ((rd_T86 l0 x8_1).f0))) (fun _ hk => hk.2) (.int .i64 ((rd_T86 l0 x8_1).f1))) (fun _ hk => trivial)))); (case aS => exact (below_size (by repeat (first | (with_reducible first | exact HB.out | refine below_q ?_ | refine below_set ?_ GE102.out) | exact HB.out)))); (case aL => have := LMc5.out; omega); intro v104 w8 ho hb hg hat; rw [← Ny103.out] at ho; have n0_ := Aside0.mk (blk_grown (g := gb102) (o := .cells #[.int .i64 ((rd_T86 l0 x8_1).f0), .int .i64 ((rd_T86 l0 x8_1).f1)] 86 (0, 0)) (by (repeat with_reducible refine blk_q ?_); refine blk_put (cs := #[.int .i64 ((rd_T86 l0 x8_1).f0), .int .i64 0]) ?_ 1 _ rfl; (repeat with_reducible refine blk_q ?_); refine blk_put (cs := #[.int .i64 0, .int .i64 0]) ?_ 0 _ rfl; (repeat with_reducible refine blk_q ?_); exact BK102.out) hg (Kd.R_ne HO_3.out BK102.out (by decide))); have HO105 := Aside0.mk (ho); replace HB := Aside0.mk (hb); clear HO_3; clear BK102; have BK102 := n0_; clear n0_; clear ho hb hg hat))
       go_roundg k1
       case measure => have := HK1.out; omega
       case rel => exact ⟨(y103), (wrap64 (x8_1 + 1)), (by first | rfl | (simp; done) | (simp [*]; done)), H', ⟨by have := HK1.out; omega⟩, ⟨by (repeat with_reducible refine Kd.R_q ?_); exact HO105.out⟩, ⟨by repeat (first | (with_reducible first | exact HB.out | apply below_alloc | apply pw_below_drewN | apply below_drew1 | refine below_set ?_ GE102.out) | exact HB.out)⟩⟩
      rw [if_neg c5] at H
      exact absurd H (by simp)
     rw [if_neg c4] at H
     exact absurd H (by simp)
    rw [if_neg c3] at H
    exact absurd H (by simp)
   rw [if_neg c2] at H
   have c2b0 : decide (x8_1 < (l0.length : Int)) = false := decide_eq_false c2
   clear c2
   obtain rfl := Option.some.inj H
   go_wp2
   go_ret
   exact ⟨_, by first | rfl | (simp [errW_none, errW_some] <;> rfl) | (simp [*, errW_none, errW_some] <;> rfl), by (repeat with_reducible refine Kd.R_q ?_); exact HO_3.out, by repeat (first | (with_reducible first | exact HB.out | apply below_alloc | apply pw_below_drewN | apply below_drew1) | exact HB.out)⟩
def tidepolelaw10_ref.f (k : Nat) (a0_0 : Int) (a0_1 : Int) (a0_2 : Int) (a0_3 : Int) (a0_4 : Int) (l0_5 : List (S86)) (l0_6 : List (S86)) (l0_7 : List Int) (l0_8 : List Int) : Option (Int × Int × Int × Int × Int × (List (S117)) × (List (S117)) × List Int × List Int) := (tidepolelaw10_spans.f k l0_5).bind fun t103 => ((tidepolelaw10_spans.f k l0_6).bind fun t106 => (some (a0_0, a0_1, a0_2, a0_3, a0_4, t103, t106, l0_7, l0_8)))
def tidepolelaw10_ref.T1 : Bool × List (List Nat × List Nat) := (true, [([], []), ([0], [0]), ([], []), ([2], [2]), ([], []), ([4], [4]), ([], []), ([6], [6]), ([], []), ([8], [8]), ([], []), ([10], [10]), ([11], [11]), ([], []), ([13], [13]), ([14, 12], [14]), ([], []), ([16], [16]), ([], []), ([18], [18]), ([1, 3, 5, 7, 9, 12, 15, 17, 19], [1, 3, 5, 7, 9, 12, 15, 17, 19]), ([20, 15, 0, 1, 2, 3, 4, 5, 6, 7, 8, 9, 10, 11, 12, 13, 14, 15, 16, 17, 18, 19, 20], [20])])
def tidepolelaw10_ref.B1 : List Nat := [0, 1, 0, 4, 0, 16, 0, 64, 0, 256, 0, 1024, 3072, 0, 8192, 31744, 0, 65536, 0, 262144, 1048575, 2097151]
theorem tidepolelaw10_ref.tab1 : rtab .any (opsOf Try.f37 1) = tidepolelaw10_ref.T1 := by kernel_rfl
theorem tidepolelaw10_ref.bits1 : waitsOk tidepolelaw10_ref.T1.2 tidepolelaw10_ref.B1 = true := by kernel_rfl
set_option maxHeartbeats 8000000 in
set_option maxRecDepth 100000 in
theorem tidepolelaw10_ref.calls (k : Nat) (a0_0 : Int) (a0_1 : Int) (a0_2 : Int) (a0_3 : Int) (a0_4 : Int) (A0_5 : Option Addr) (c0_5 : Nat) (l0_5 : List (S86)) (A0_6 : Option Addr) (c0_6 : Nat) (l0_6 : List (S86)) (P0_7_ : Nat → Prop) (A0_7 : Option Addr) (c0_7 : Nat) (l0_7 : List Int) (P0_8_ : Nat → Prop) (A0_8 : Option Addr) (c0_8 : Nat) (l0_8 : List Int) (r1 : Int) (r2 : Int) (r3 : Int) (r4 : Int) (r5 : Int) (r6 : List (S117)) (r7 : List (S117)) (r8 : List Int) (r9 : List Int) (w : World) (hr0_5 : Kd.C k86 w A0_5 l0_5.length l0_5) (hc0_5 : l0_5.length ≤ c0_5) (hr0_6 : Kd.C k86 w A0_6 l0_6.length l0_6) (hc0_6 : l0_6.length ≤ c0_6) (hs0_7 : Kd.V (Kd.int .u64) 22 w w.heap.size (fun k_ => P0_7_ k_) (.slice A0_7 l0_7.length c0_7) l0_7) (hs0_8 : Kd.V (Kd.int .u64) 22 w w.heap.size (fun k_ => P0_8_ k_) (.slice A0_8 l0_8.length c0_8) l0_8) (h : tidepolelaw10_ref.f k a0_0 a0_1 a0_2 a0_3 a0_4 l0_5 l0_6 l0_7 l0_8 = some (r1, r2, r3, r4, r5, r6, r7, r8, r9)) :
  Calls Try.prog 37 #[.agg #[.int .i64 a0_0, .int .u64 a0_1, .int .u64 a0_2, .int .u64 a0_3, .int .u64 a0_4, .slice A0_5 l0_5.length c0_5, .slice A0_6 l0_6.length c0_6, .slice A0_7 l0_7.length c0_7, .slice A0_8 l0_8.length c0_8]] w fun e w' => ∃ v5_ v6_ v7_ v8_ : Value, e = .returned (.agg #[.int .i64 r1, .int .u64 r2, .int .u64 r3, .int .u64 r4, .int .u64 r5, v5_, v6_, v7_, v8_]) ∧ Kd.R k117 117 w' w.heap.size (fun k_ => (w.heap.size ≤ k_) ∧ some k_ ≠ (v6_ : Value).ownBlock) v5_ r6 ∧ Kd.R k117 117 w' w.heap.size (fun k_ => (w.heap.size ≤ k_) ∧ some k_ ≠ (v5_ : Value).ownBlock) v6_ r7 ∧ Kd.V (Kd.int .u64) 22 w' w.heap.size (fun k_ => ((P0_7_ k_ ∨ P0_8_ k_) ∨ w.heap.size ≤ k_) ∧ some k_ ≠ (v5_ : Value).ownBlock ∧ some k_ ≠ (v6_ : Value).ownBlock) v7_ r8 ∧ Kd.V (Kd.int .u64) 22 w' w.heap.size (fun k_ => ((P0_7_ k_ ∨ P0_8_ k_) ∨ w.heap.size ≤ k_) ∧ some k_ ≠ (v5_ : Value).ownBlock ∧ some k_ ≠ (v6_ : Value).ownBlock) v8_ r9 ∧ Below w.heap.size w w' := by
 have hu31 := Try.underlying31
 have hu76 := Try.underlying76
 have HR0_5 := Aside0.mk hr0_5
 have HC0_5 := Aside0.mk hc0_5
 clear hr0_5 hc0_5
 have HR0_6 := Aside0.mk hr0_6
 have HC0_6 := Aside0.mk hc0_6
 clear hr0_6 hc0_6
 have HO0_7 := Aside0.mk (show Kd.V (Kd.int .u64) 22 w w.heap.size (fun k_ => ((P0_7_ k_ ∨ P0_8_ k_) ∨ w.heap.size ≤ k_)) (.slice A0_7 l0_7.length c0_7) l0_7 from Kd.V_mono hs0_7 (fun k_ hk => .inl (.inl hk)))
 have HO0_8 := Aside0.mk (show Kd.V (Kd.int .u64) 22 w w.heap.size (fun k_ => ((P0_7_ k_ ∨ P0_8_ k_) ∨ w.heap.size ≤ k_)) (.slice A0_8 l0_8.length c0_8) l0_8 from Kd.V_mono hs0_8 (fun k_ hk => .inl (.inr hk)))
 have HB := Aside0.mk (Below.refl w.heap.size w)
 have H : ((tidepolelaw10_spans.f k l0_5).bind fun t103 => ((tidepolelaw10_spans.f k l0_6).bind fun t106 => (some (a0_0, a0_1, a0_2, a0_3, a0_4, t103, t106, l0_7, l0_8)))) = some (r1, r2, r3, r4, r5, r6, r7, r8, r9) := h
 clear h
 replace H := Option.bind_eq_some_iff.mp H
 obtain ⟨t103, A20, H⟩ := H
 replace H : ((tidepolelaw10_spans.f k l0_6).bind fun t106 => (some (a0_0, a0_1, a0_2, a0_3, a0_4, t103, t106, l0_7, l0_8))) = some (r1, r2, r3, r4, r5, r6, r7, r8, r9) := H
 have A2 := Aside0.mk A20
 clear A20
 replace H := Option.bind_eq_some_iff.mp H
 obtain ⟨t106, A30, H⟩ := H
 replace H : (some (a0_0, a0_1, a0_2, a0_3, a0_4, t103, t106, l0_7, l0_8)) = some (r1, r2, r3, r4, r5, r6, r7, r8, r9) := H
 have A3 := Aside0.mk A30
 clear A30
 simp only [Option.some.injEq, Prod.mk.injEq] at H
 obtain ⟨rfl, rfl, rfl, rfl, rfl, rfl, rfl, rfl, rfl⟩ := H
 go_enter Try.func37, Try.ntmps37
 try go_wp2_with (first | ((with_reducible refine gate_dst (N := 1) rfl ?_); refine box_event ?hg (N := 1) ?hd (cs := #[.int .i64 a0_0, .int .u64 a0_1, .int .u64 a0_2, .int .u64 a0_3, .int .u64 a0_4, .slice A0_5 l0_5.length c0_5, .slice A0_6 l0_6.length c0_6, .slice A0_7 l0_7.length c0_7, .slice A0_8 l0_8.length c0_8]) (t := 31) ?hr ?_; (case hd => rfl); (case hg => rfl); (case hr => first | (go_simp; done) | (go_simp; rfl)); intro gb101 hg w4 hbox hb; have BK101 := Aside0.mk (hbox); have GW101 := Aside0.mk ((by rw [hg]; exact (below_size (below_u HB.out)) : w.heap.size ≤ gb101)); have GE101 := Aside0.mk ((by rw [hg]; exact (below_size (below_u HB.out)) : w.heap.size ≤ gb101)); replace HO0_7 := Aside0.mk (Kd.V_below (Kd.V_elderB (by (with_reducible repeat (first | apply Kd.V_alloc | apply Kd.V_drewN | apply Kd.V_drew)); exact HO0_7.out) gb101 (Nat.le_of_eq hg.symm)) hb); replace HO0_8 := Aside0.mk (Kd.V_below (Kd.V_elderB (by (with_reducible repeat (first | apply Kd.V_alloc | apply Kd.V_drewN | apply Kd.V_drew)); exact HO0_8.out) gb101 (Nat.le_of_eq hg.symm)) hb); replace HB := Aside0.mk (below_step (below_u HB.out) hb); clear hb hbox hg) | ((with_reducible refine gate_dst (N := 2) rfl ?_); refine box_event ?hg (N := 2) ?hd (cs := #[.int .i64 0, .int .u64 0, .int .u64 0, .int .u64 0, .int .u64 0, .slice none 0 0, .slice none 0 0, .slice none 0 0, .slice none 0 0]) (t := 76) ?hr ?_; (case hd => rfl); (case hg => rfl); (case hr => first | (go_simp; done) | (go_simp; rfl)); intro gb102 hg w5 hbox hb; have BK102 := Aside0.mk (hbox); have GW102 := Aside0.mk ((by rw [hg]; exact (below_size (by repeat (first | (with_reducible first | exact HB.out | refine below_q ?_ | refine below_set ?_ GE101.out) | exact HB.out))) : w.heap.size ≤ gb102)); have GE102 := Aside0.mk ((by rw [hg]; exact (below_size (by repeat (first | (with_reducible first | exact HB.out | refine below_q ?_ | refine below_set ?_ GE101.out) | exact HB.out))) : w.heap.size ≤ gb102)); have NB101_102 := Aside0.mk ((by rw [hg]; exact Nat.ne_of_lt (blk_lt (g := gb101) (o := .cells #[.int .i64 a0_0, .int .u64 a0_1, .int .u64 a0_2, .int .u64 a0_3, .int .u64 a0_4, .slice A0_5 l0_5.length c0_5, .slice A0_6 l0_6.length c0_6, .slice A0_7 l0_7.length c0_7, .slice A0_8 l0_8.length c0_8] 31 (0, 0)) (blk_u BK101.out)) : gb101 ≠ gb102)); have NB102_101 := Aside0.mk ((by rw [hg]; exact Nat.ne_of_gt (blk_lt (g := gb101) (o := .cells #[.int .i64 a0_0, .int .u64 a0_1, .int .u64 a0_2, .int .u64 a0_3, .int .u64 a0_4, .slice A0_5 l0_5.length c0_5, .slice A0_6 l0_6.length c0_6, .slice A0_7 l0_7.length c0_7, .slice A0_8 l0_8.length c0_8] 31 (0, 0)) (blk_u BK101.out)) : gb102 ≠ gb101)); replace HO0_7 := Aside0.mk (Kd.V_below (Kd.V_elderB (by (with_reducible repeat (first | apply Kd.V_alloc | apply Kd.V_drewN | apply Kd.V_drew)); exact HO0_7.out) gb102 (Nat.le_of_eq hg.symm)) hb); replace HO0_8 := Aside0.mk (Kd.V_below (Kd.V_elderB (by (with_reducible repeat (first | apply Kd.V_alloc | apply Kd.V_drewN | apply Kd.V_drew)); exact HO0_8.out) gb102 (Nat.le_of_eq hg.symm)) hb); replace BK101 := Aside0.mk (blk_ub BK101.out hb); replace HB := Aside0.mk (below_step (by repeat (first | (with_reducible first | exact HB.out | refine below_q ?_ | refine below_set ?_ GE101.out) | exact HB.out)) hb); clear hb hbox hg))
 have n0_ := Aside0.mk (Kd.V_drew HO0_7.out)
 have n1_ := Aside0.mk (Kd.V_drew HO0_8.out)
 have n2_ := Aside0.mk (blk_drew BK101.out)
 have n3_ := Aside0.mk (blk_drew BK102.out)
 have n4_ := Aside0.mk (below_drew1 HB.out)
 clear HO0_7
 clear HO0_8
 clear BK101
 clear BK102
 clear HB
 have HO0_7 := n0_
 have HO0_8 := n1_
 have BK101 := n2_
 have BK102 := n3_
 have HB := n4_
 clear n0_ n1_ n2_ n3_ n4_
 refine start_ (n := 22) (S := fun w' => w'.cell? ⟨gb101, 0, none⟩ = some (.int .i64 a0_0) ∧ w'.cell? ⟨gb101, 1, none⟩ = some (.int .u64 a0_1) ∧ w'.cell? ⟨gb101, 2, none⟩ = some (.int .u64 a0_2) ∧ w'.cell? ⟨gb101, 3, none⟩ = some (.int .u64 a0_3) ∧ w'.cell? ⟨gb101, 4, none⟩ = some (.int .u64 a0_4) ∧ w'.cell? ⟨gb101, 5, none⟩ = some (.slice A0_5 l0_5.length c0_5) ∧ w'.cell? ⟨gb101, 6, none⟩ = some (.slice A0_6 l0_6.length c0_6) ∧ w'.cell? ⟨gb101, 7, none⟩ = some (.slice A0_7 l0_7.length c0_7) ∧ w'.cell? ⟨gb101, 8, none⟩ = some (.slice A0_8 l0_8.length c0_8)) (ds := []) #[false, false, false, false, false, false, false, false, false, false, false, false, false, false, false, false, false, false, false, false, false, false] (by kernel_rfl) rfl rfl ⟨(blk_cell BK101.out 0).trans rfl, (blk_cell BK101.out 1).trans rfl, (blk_cell BK101.out 2).trans rfl, (blk_cell BK101.out 3).trans rfl, (blk_cell BK101.out 4).trans rfl, (blk_cell BK101.out 5).trans rfl, (blk_cell BK101.out 6).trans rfl, (blk_cell BK101.out 7).trans rfl, (blk_cell BK101.out 8).trans rfl⟩ (fun hHeld => ?_); refine with_tabW tidepolelaw10_ref.tab1 tidepolelaw10_ref.bits1 (fun HT_ HW_ => ?_)
 generalize w5.drew = w6 at HO0_7 HO0_8 BK101 BK102 HB hHeld ⊢
 refine pure_ (i := 0) (N := some 3) (v := ?_) (a' := ?_) #[true, false, false, false, false, false, false, false, false, false, false, false, false, false, false, false, false, false, false, false, false, false] rfl rfl (any_of HT_.out (by kernel_rfl)) (fun _ _ _ h => h) (Or.inl ⟨by rfl, ?_⟩) ?_ ?_
 rotate_left
 ·intro w'
  go_simp
  with_reducible rfl
 rotate_left
 ·simp only [Act.put, List.setIfInBounds_toArray, List.set_cons_zero, List.set_cons_succ, i64_w, i32_w]
  rfl
 refine pure_ (i := 2) (N := some 5) (v := ?_) (a' := ?_) #[true, false, true, false, false, false, false, false, false, false, false, false, false, false, false, false, false, false, false, false, false, false] rfl rfl (any_of HT_.out (by kernel_rfl)) (fun _ _ _ h => h) (Or.inl ⟨by rfl, ?_⟩) ?_ ?_
 rotate_left
 ·intro w'
  go_simp
  with_reducible rfl
 rotate_left
 ·simp only [Act.put, List.setIfInBounds_toArray, List.set_cons_zero, List.set_cons_succ, i64_w, i32_w]
  rfl
 refine pure_ (i := 4) (N := some 7) (v := ?_) (a' := ?_) #[true, false, true, false, true, false, false, false, false, false, false, false, false, false, false, false, false, false, false, false, false, false] rfl rfl (any_of HT_.out (by kernel_rfl)) (fun _ _ _ h => h) (Or.inl ⟨by rfl, ?_⟩) ?_ ?_
 rotate_left
 ·intro w'
  go_simp
  with_reducible rfl
 rotate_left
 ·simp only [Act.put, List.setIfInBounds_toArray, List.set_cons_zero, List.set_cons_succ, i64_w, i32_w]
  rfl
 refine pure_ (i := 6) (N := some 9) (v := ?_) (a' := ?_) #[true, false, true, false, true, false, true, false, false, false, false, false, false, false, false, false, false, false, false, false, false, false] rfl rfl (any_of HT_.out (by kernel_rfl)) (fun _ _ _ h => h) (Or.inl ⟨by rfl, ?_⟩) ?_ ?_
 rotate_left
 ·intro w'
  go_simp
  with_reducible rfl
 rotate_left
 ·simp only [Act.put, List.setIfInBounds_toArray, List.set_cons_zero, List.set_cons_succ, i64_w, i32_w]
  rfl
 refine pure_ (i := 8) (N := some 11) (v := ?_) (a' := ?_) #[true, false, true, false, true, false, true, false, true, false, false, false, false, false, false, false, false, false, false, false, false, false] rfl rfl (any_of HT_.out (by kernel_rfl)) (fun _ _ _ h => h) (Or.inl ⟨by rfl, ?_⟩) ?_ ?_
 rotate_left
 ·intro w'
  go_simp
  with_reducible rfl
 rotate_left
 ·simp only [Act.put, List.setIfInBounds_toArray, List.set_cons_zero, List.set_cons_succ, i64_w, i32_w]
  rfl
 refine pure_ (i := 10) (N := some 13) (v := ?_) (a' := ?_) #[true, false, true, false, true, false, true, false, true, false, true, false, false, false, false, false, false, false, false, false, false, false] rfl rfl (any_of HT_.out (by kernel_rfl)) (fun _ _ _ h => h) (Or.inl ⟨by rfl, ?_⟩) ?_ ?_
 rotate_left
 ·intro w'
  go_simp
  with_reducible rfl
 rotate_left
 ·simp only [Act.put, List.setIfInBounds_toArray, List.set_cons_zero, List.set_cons_succ, i64_w, i32_w]
  rfl
 refine pure_ (i := 13) (N := some 16) (v := ?_) (a' := ?_) #[true, false, true, false, true, false, true, false, true, false, true, false, false, true, false, false, false, false, false, false, false, false] rfl rfl (any_of HT_.out (by kernel_rfl)) (fun _ _ _ h => h) (Or.inl ⟨by rfl, ?_⟩) ?_ ?_
 rotate_left
 ·intro w'
  go_simp
  with_reducible rfl
 rotate_left
 ·simp only [Act.put, List.setIfInBounds_toArray, List.set_cons_zero, List.set_cons_succ, i64_w, i32_w]
  rfl
 refine pure_ (i := 16) (N := some 19) (v := ?_) (a' := ?_) #[true, false, true, false, true, false, true, false, true, false, true, false, false, true, false, false, true, false, false, false, false, false] rfl rfl (any_of HT_.out (by kernel_rfl)) (fun _ _ _ h => h) (Or.inl ⟨by rfl, ?_⟩) ?_ ?_
 rotate_left
 ·intro w'
  go_simp
  with_reducible rfl
 rotate_left
 ·simp only [Act.put, List.setIfInBounds_toArray, List.set_cons_zero, List.set_cons_succ, i64_w, i32_w]
  rfl
 refine pure_ (i := 18) (N := some 21) (v := ?_) (a' := ?_) #[true, false, true, false, true, false, true, false, true, false, true, false, false, true, false, false, true, false, true, false, false, false] rfl rfl (any_of HT_.out (by kernel_rfl)) (fun _ _ _ h => h) (Or.inl ⟨by rfl, ?_⟩) ?_ ?_
 rotate_left
 ·intro w'
  go_simp
  with_reducible rfl
 rotate_left
 ·simp only [Act.put, List.setIfInBounds_toArray, List.set_cons_zero, List.set_cons_succ, i64_w, i32_w]
  rfl
 refine take_ (i := 1) (N := some 4) (v := ?_) (a' := ?_) #[true, true, true, false, true, false, true, false, true, false, true, false, false, true, false, false, true, false, true, false, false, false] rfl rfl (take_ofW HT_.out HW_.out (by kernel_rfl)) (fun _ _ _ h => h) (Or.inl ⟨by rfl, ?_⟩) hHeld ?_ ?_
 rotate_left
 ·rintro w' ⟨s0, s1, s2, s3, s4, s5, s6, s7, s8⟩
  go_simp
  with_reducible rfl
 rotate_left
 ·simp only [Act.put, List.setIfInBounds_toArray, List.set_cons_zero, List.set_cons_succ, i64_w, i32_w]
  rfl
 refine take_ (i := 3) (N := some 6) (v := ?_) (a' := ?_) #[true, true, true, true, true, false, true, false, true, false, true, false, false, true, false, false, true, false, true, false, false, false] rfl rfl (take_ofW HT_.out HW_.out (by kernel_rfl)) (fun _ _ _ h => h) (Or.inl ⟨by rfl, ?_⟩) hHeld ?_ ?_
 rotate_left
 ·rintro w' ⟨s0, s1, s2, s3, s4, s5, s6, s7, s8⟩
  go_simp
  with_reducible rfl
 rotate_left
 ·simp only [Act.put, List.setIfInBounds_toArray, List.set_cons_zero, List.set_cons_succ, i64_w, i32_w]
  rfl
 refine take_ (i := 5) (N := some 8) (v := ?_) (a' := ?_) #[true, true, true, true, true, true, true, false, true, false, true, false, false, true, false, false, true, false, true, false, false, false] rfl rfl (take_ofW HT_.out HW_.out (by kernel_rfl)) (fun _ _ _ h => h) (Or.inl ⟨by rfl, ?_⟩) hHeld ?_ ?_
 rotate_left
 ·rintro w' ⟨s0, s1, s2, s3, s4, s5, s6, s7, s8⟩
  go_simp
  with_reducible rfl
 rotate_left
 ·simp only [Act.put, List.setIfInBounds_toArray, List.set_cons_zero, List.set_cons_succ, i64_w, i32_w]
  rfl
 refine take_ (i := 7) (N := some 10) (v := ?_) (a' := ?_) #[true, true, true, true, true, true, true, true, true, false, true, false, false, true, false, false, true, false, true, false, false, false] rfl rfl (take_ofW HT_.out HW_.out (by kernel_rfl)) (fun _ _ _ h => h) (Or.inl ⟨by rfl, ?_⟩) hHeld ?_ ?_
 rotate_left
 ·rintro w' ⟨s0, s1, s2, s3, s4, s5, s6, s7, s8⟩
  go_simp
  with_reducible rfl
 rotate_left
 ·simp only [Act.put, List.setIfInBounds_toArray, List.set_cons_zero, List.set_cons_succ, i64_w, i32_w]
  rfl
 refine take_ (i := 9) (N := some 12) (v := ?_) (a' := ?_) #[true, true, true, true, true, true, true, true, true, true, true, false, false, true, false, false, true, false, true, false, false, false] rfl rfl (take_ofW HT_.out HW_.out (by kernel_rfl)) (fun _ _ _ h => h) (Or.inl ⟨by rfl, ?_⟩) hHeld ?_ ?_
 rotate_left
 ·rintro w' ⟨s0, s1, s2, s3, s4, s5, s6, s7, s8⟩
  go_simp
  with_reducible rfl
 rotate_left
 ·simp only [Act.put, List.setIfInBounds_toArray, List.set_cons_zero, List.set_cons_succ, i64_w, i32_w]
  rfl
 refine take_ (i := 11) (N := some 14) (v := ?_) (a' := ?_) #[true, true, true, true, true, true, true, true, true, true, true, true, false, true, false, false, true, false, true, false, false, false] rfl rfl (take_ofW HT_.out HW_.out (by kernel_rfl)) (fun _ _ _ h => h) (Or.inl ⟨by rfl, ?_⟩) hHeld ?_ ?_
 rotate_left
 ·rintro w' ⟨s0, s1, s2, s3, s4, s5, s6, s7, s8⟩
  go_simp
  with_reducible rfl
 rotate_left
 ·simp only [Act.put, List.setIfInBounds_toArray, List.set_cons_zero, List.set_cons_succ, i64_w, i32_w]
  rfl
 refine take_ (i := 14) (N := some 17) (v := ?_) (a' := ?_) #[true, true, true, true, true, true, true, true, true, true, true, true, false, true, true, false, true, false, true, false, false, false] rfl rfl (take_ofW HT_.out HW_.out (by kernel_rfl)) (fun _ _ _ h => h) (Or.inl ⟨by rfl, ?_⟩) hHeld ?_ ?_
 rotate_left
 ·rintro w' ⟨s0, s1, s2, s3, s4, s5, s6, s7, s8⟩
  go_simp
  with_reducible rfl
 rotate_left
 ·simp only [Act.put, List.setIfInBounds_toArray, List.set_cons_zero, List.set_cons_succ, i64_w, i32_w]
  rfl
 refine take_ (i := 17) (N := some 20) (v := ?_) (a' := ?_) #[true, true, true, true, true, true, true, true, true, true, true, true, false, true, true, false, true, true, true, false, false, false] rfl rfl (take_ofW HT_.out HW_.out (by kernel_rfl)) (fun _ _ _ h => h) (Or.inl ⟨by rfl, ?_⟩) hHeld ?_ ?_
 rotate_left
 ·rintro w' ⟨s0, s1, s2, s3, s4, s5, s6, s7, s8⟩
  go_simp
  with_reducible rfl
 rotate_left
 ·simp only [Act.put, List.setIfInBounds_toArray, List.set_cons_zero, List.set_cons_succ, i64_w, i32_w]
  rfl
 refine take_ (i := 19) (N := some 22) (v := ?_) (a' := ?_) #[true, true, true, true, true, true, true, true, true, true, true, true, false, true, true, false, true, true, true, true, false, false] rfl rfl (take_ofW HT_.out HW_.out (by kernel_rfl)) (fun _ _ _ h => h) (Or.inl ⟨by rfl, ?_⟩) hHeld ?_ ?_
 rotate_left
 ·rintro w' ⟨s0, s1, s2, s3, s4, s5, s6, s7, s8⟩
  go_simp
  with_reducible rfl
 rotate_left
 ·simp only [Act.put, List.setIfInBounds_toArray, List.set_cons_zero, List.set_cons_succ, i64_w, i32_w]
  rfl
 refine one_ (i := 12) (N := some 15) #[true, true, true, true, true, true, true, true, true, true, true, true, true, true, true, false, true, true, true, true, false, false] rfl rfl (one_of HT_.out (by kernel_rfl)) (by decide) (fun K hK => ?_)
 refine goes_ Try.func95 (by kernel_rfl) rfl #[.slice A0_5 l0_5.length c0_5] (by rfl) rfl rfl (by (try simp only [List.map_toArray, List.map_cons, List.map_nil]); first | done | rfl | (simp only [List.length_drop, List.length_take]; rfl)) ?_
 with_reducible refine (tidepolelaw10_spans.calls k _ _ l0_5 t103 _ ?side1 ?side2 A2.out).mono ?_
 (case side1 => exact Kd.C_u (Kd.C_below HR0_5.out HB.out))
 (case side2 => exact HC0_5.out)
 rintro e w7 ⟨v104, rfl, ho0, hb⟩
 refine ⟨_, rfl, ?_⟩
 have n0_ := Aside0.mk (Kd.V_elder' (by (with_reducible repeat (first | apply Kd.V_alloc | apply Kd.V_drewN | apply Kd.V_drew)); exact HO0_7.out) (Kd.R_base ho0) hb)
 have n1_ := Aside0.mk (Kd.V_elder' (by (with_reducible repeat (first | apply Kd.V_alloc | apply Kd.V_drewN | apply Kd.V_drew)); exact HO0_8.out) (Kd.R_base ho0) hb)
 have n2_ := Aside0.mk (Kd.R_lower (Kd.R_newM (M := fun k_ => (w.heap.size ≤ k_)) ho0 (below_size (by repeat (first | (with_reducible first | exact HB.out | refine below_q ?_ | refine below_set ?_ GE101.out | refine below_set ?_ GE102.out) | exact HB.out))) (fun k_ h_ => h_)) (below_size (by repeat (first | (with_reducible first | exact HB.out | refine below_q ?_ | refine below_set ?_ GE101.out | refine below_set ?_ GE102.out) | exact HB.out))))
 have n3_ := Aside0.mk (blk_ub BK101.out hb)
 have n4_ := Aside0.mk (blk_ub BK102.out hb)
 have n5_ := Aside0.mk (below_step (by repeat (first | (with_reducible first | exact HB.out | refine below_q ?_ | refine below_set ?_ GE101.out | refine below_set ?_ GE102.out) | exact HB.out)) hb)
 clear HO0_7
 clear HO0_8
 clear BK101
 clear BK102
 clear HB
 have HO0_7 := n0_
 have HO0_8 := n1_
 have HO105 := n2_
 have BK101 := n3_
 have BK102 := n4_
 have HB := n5_
 clear n0_ n1_ n2_ n3_ n4_ n5_
 (try clear hb)
 (try clear hb2)
 (try clear hk)
 (try clear hi)
 (try clear ho0)
 refine hK.out _ _ ⟨(blk_cell BK101.out 0).trans rfl, (blk_cell BK101.out 1).trans rfl, (blk_cell BK101.out 2).trans rfl, (blk_cell BK101.out 3).trans rfl, (blk_cell BK101.out 4).trans rfl, (blk_cell BK101.out 5).trans rfl, (blk_cell BK101.out 6).trans rfl, (blk_cell BK101.out 7).trans rfl, (blk_cell BK101.out 8).trans rfl⟩ (fun hHeld => ?_)
 clear hK K
 refine norm_ (a' := ?_) ?_ ?_
 rotate_left
 ·show Act.put _ (some 15) _ = _
  simp only [Act.put, List.setIfInBounds_toArray, List.set_cons_zero, List.set_cons_succ, i64_w, i32_w]
  rfl
 refine one_ (i := 15) (N := some 18) #[true, true, true, true, true, true, true, true, true, true, true, true, true, true, true, true, true, true, true, true, false, false] rfl rfl (one_of HT_.out (by kernel_rfl)) (by decide) (fun K hK => ?_)
 refine goes_ Try.func95 (by kernel_rfl) rfl #[.slice A0_6 l0_6.length c0_6] (by rfl) rfl rfl (by (try simp only [List.map_toArray, List.map_cons, List.map_nil]); first | done | rfl | (simp only [List.length_drop, List.length_take]; rfl)) ?_
 with_reducible refine (tidepolelaw10_spans.calls k _ _ l0_6 t106 _ ?side1 ?side2 A3.out).mono ?_
 (case side1 => exact Kd.C_u (Kd.C_below HR0_6.out HB.out))
 (case side2 => exact HC0_6.out)
 rintro e w8 ⟨v107, rfl, ho0, hb⟩
 refine ⟨_, rfl, ?_⟩
 have n0_ := Aside0.mk (Kd.V_elder' (by (with_reducible repeat (first | apply Kd.V_alloc | apply Kd.V_drewN | apply Kd.V_drew)); exact HO0_7.out) (Kd.R_base ho0) hb)
 have n1_ := Aside0.mk (Kd.V_elder' (by (with_reducible repeat (first | apply Kd.V_alloc | apply Kd.V_drewN | apply Kd.V_drew)); exact HO0_8.out) (Kd.R_base ho0) hb)
 have n2_ := Aside0.mk (Kd.R_elder' (Kd.R_u HO105.out) (Kd.R_base ho0) hb)
 have n3_ := Aside0.mk (Kd.R_lower (Kd.R_new' (Kd.R_newM (M := fun k_ => (w.heap.size ≤ k_)) ho0 (below_size (by repeat (first | (with_reducible first | exact HB.out | refine below_q ?_ | refine below_set ?_ GE101.out | refine below_set ?_ GE102.out) | exact HB.out))) (fun k_ h_ => h_)) (Kd.R_lt (Kd.R_u HO105.out))) (below_size (by repeat (first | (with_reducible first | exact HB.out | refine below_q ?_ | refine below_set ?_ GE101.out | refine below_set ?_ GE102.out) | exact HB.out))))
 have n4_ := Aside0.mk (blk_ub BK101.out hb)
 have n5_ := Aside0.mk (blk_ub BK102.out hb)
 have n6_ := Aside0.mk (below_step (by repeat (first | (with_reducible first | exact HB.out | refine below_q ?_ | refine below_set ?_ GE101.out | refine below_set ?_ GE102.out) | exact HB.out)) hb)
 clear HO0_7
 clear HO0_8
 clear HO105
 clear BK101
 clear BK102
 clear HB
 have HO0_7 := n0_
 have HO0_8 := n1_
 have HO105 := n2_
 have HO108 := n3_
 have BK101 := n4_
 have BK102 := n5_
 have HB := n6_
 clear n0_ n1_ n2_ n3_ n4_ n5_ n6_
 (try clear hb)
 (try clear hb2)
 (try clear hk)
 (try clear hi)
 (try clear ho0)
 obtain ⟨Ao9, co9, eo9⟩ := Kd.R_slice HO108.out
 (first | subst eo9 | (injection eo9 with f1_ f2_ f3_; have f4_ := f1_.symm; have f5_ := f3_.symm; clear f1_ f2_ f3_; subst f4_; subst f5_))
 obtain ⟨Ao10, co10, eo10⟩ := Kd.R_slice HO105.out
 (first | subst eo10 | (injection eo10 with f1_ f2_ f3_; have f4_ := f1_.symm; have f5_ := f3_.symm; clear f1_ f2_ f3_; subst f4_; subst f5_))
 refine hK.out _ _ ⟨(blk_cell BK101.out 0).trans rfl, (blk_cell BK101.out 1).trans rfl, (blk_cell BK101.out 2).trans rfl, (blk_cell BK101.out 3).trans rfl, (blk_cell BK101.out 4).trans rfl, (blk_cell BK101.out 5).trans rfl, (blk_cell BK101.out 6).trans rfl, (blk_cell BK101.out 7).trans rfl, (blk_cell BK101.out 8).trans rfl⟩ (fun hHeld => ?_)
 clear hK K
 refine norm_ (a' := ?_) ?_ ?_
 rotate_left
 ·show Act.put _ (some 18) _ = _
  simp only [Act.put, List.setIfInBounds_toArray, List.set_cons_zero, List.set_cons_succ, i64_w, i32_w]
  rfl
 refine pure_ (i := 20) (N := some 23) (v := ?_) (a' := ?_) #[true, true, true, true, true, true, true, true, true, true, true, true, true, true, true, true, true, true, true, true, true, false] rfl rfl (any_of HT_.out (by kernel_rfl)) (fun _ _ _ h => h) (Or.inl ⟨by rfl, ?_⟩) ?_ ?_
 rotate_left
 ·intro w'
  go_simp
  with_reducible rfl
 rotate_left
 ·simp only [Act.put, List.setIfInBounds_toArray, List.set_cons_zero, List.set_cons_succ, i64_w, i32_w]
  rfl
 refine one_ (i := 21) (N := none) #[true, true, true, true, true, true, true, true, true, true, true, true, true, true, true, true, true, true, true, true, true, true] rfl rfl (one_of HT_.out (by kernel_rfl)) (by decide) (fun K hK => ?_)
 have hs11 : w8.cell? ⟨gb102, 0, none⟩ = some (.int .i64 0) := (blk_cell BK102.out 0).trans rfl
 have hfs11 := blk_frozen BK102.out 0
 have hns11_0 := NB101_102.out
 have hms11_0 := NB102_101.out
 have hs12 : w8.cell? ⟨gb102, 1, none⟩ = some (.int .u64 0) := (blk_cell BK102.out 1).trans rfl
 have hfs12 := blk_frozen BK102.out 1
 have hns12_0 := NB101_102.out
 have hms12_0 := NB102_101.out
 have hs13 : w8.cell? ⟨gb102, 2, none⟩ = some (.int .u64 0) := (blk_cell BK102.out 2).trans rfl
 have hfs13 := blk_frozen BK102.out 2
 have hns13_0 := NB101_102.out
 have hms13_0 := NB102_101.out
 have hs14 : w8.cell? ⟨gb102, 3, none⟩ = some (.int .u64 0) := (blk_cell BK102.out 3).trans rfl
 have hfs14 := blk_frozen BK102.out 3
 have hns14_0 := NB101_102.out
 have hms14_0 := NB102_101.out
 have hs15 : w8.cell? ⟨gb102, 4, none⟩ = some (.int .u64 0) := (blk_cell BK102.out 4).trans rfl
 have hfs15 := blk_frozen BK102.out 4
 have hns15_0 := NB101_102.out
 have hms15_0 := NB102_101.out
 have hs16 : w8.cell? ⟨gb102, 5, none⟩ = some (.slice none 0 0) := (blk_cell BK102.out 5).trans rfl
 have hfs16 := blk_frozen BK102.out 5
 have hns16_0 := NB101_102.out
 have hms16_0 := NB102_101.out
 have hs17 : w8.cell? ⟨gb102, 6, none⟩ = some (.slice none 0 0) := (blk_cell BK102.out 6).trans rfl
 have hfs17 := blk_frozen BK102.out 6
 have hns17_0 := NB101_102.out
 have hms17_0 := NB102_101.out
 have hs18 : w8.cell? ⟨gb102, 7, none⟩ = some (.slice none 0 0) := (blk_cell BK102.out 7).trans rfl
 have hfs18 := blk_frozen BK102.out 7
 have hns18_0 := NB101_102.out
 have hms18_0 := NB102_101.out
 have hs19 : w8.cell? ⟨gb102, 8, none⟩ = some (.slice none 0 0) := (blk_cell BK102.out 8).trans rfl
 have hfs19 := blk_frozen BK102.out 8
 have hns19_0 := NB101_102.out
 have hms19_0 := NB102_101.out
 refine skip_ (w1 := ?_) (by rfl) rfl ?_ ?_
 rotate_left
 ·go_simp
  rfl
 refine hK.out _ _ ⟨((cell_far (p := ⟨gb102, _, none⟩) NB101_102.out _).trans (((cell_far (p := ⟨gb102, _, none⟩) NB101_102.out _).trans (((cell_far (p := ⟨gb102, _, none⟩) NB101_102.out _).trans (((cell_far (p := ⟨gb102, _, none⟩) NB101_102.out _).trans (((cell_far (p := ⟨gb102, _, none⟩) NB101_102.out _).trans (((cell_far (p := ⟨gb102, _, none⟩) NB101_102.out _).trans (((cell_far (p := ⟨gb102, _, none⟩) NB101_102.out _).trans (((cell_far (p := ⟨gb102, _, none⟩) NB101_102.out _).trans (((cell_far (p := ⟨gb102, _, none⟩) NB101_102.out _).trans (hHeld.1)))))))))))))))))), ((cell_far (p := ⟨gb102, _, none⟩) NB101_102.out _).trans (((cell_far (p := ⟨gb102, _, none⟩) NB101_102.out _).trans (((cell_far (p := ⟨gb102, _, none⟩) NB101_102.out _).trans (((cell_far (p := ⟨gb102, _, none⟩) NB101_102.out _).trans (((cell_far (p := ⟨gb102, _, none⟩) NB101_102.out _).trans (((cell_far (p := ⟨gb102, _, none⟩) NB101_102.out _).trans (((cell_far (p := ⟨gb102, _, none⟩) NB101_102.out _).trans (((cell_far (p := ⟨gb102, _, none⟩) NB101_102.out _).trans (((cell_far (p := ⟨gb102, _, none⟩) NB101_102.out _).trans (hHeld.2.1)))))))))))))))))), ((cell_far (p := ⟨gb102, _, none⟩) NB101_102.out _).trans (((cell_far (p := ⟨gb102, _, none⟩) NB101_102.out _).trans (((cell_far (p := ⟨gb102, _, none⟩) NB101_102.out _).trans (((cell_far (p := ⟨gb102, _, none⟩) NB101_102.out _).trans (((cell_far (p := ⟨gb102, _, none⟩) NB101_102.out _).trans (((cell_far (p := ⟨gb102, _, none⟩) NB101_102.out _).trans (((cell_far (p := ⟨gb102, _, none⟩) NB101_102.out _).trans (((cell_far (p := ⟨gb102, _, none⟩) NB101_102.out _).trans (((cell_far (p := ⟨gb102, _, none⟩) NB101_102.out _).trans (hHeld.2.2.1)))))))))))))))))), ((cell_far (p := ⟨gb102, _, none⟩) NB101_102.out _).trans (((cell_far (p := ⟨gb102, _, none⟩) NB101_102.out _).trans (((cell_far (p := ⟨gb102, _, none⟩) NB101_102.out _).trans (((cell_far (p := ⟨gb102, _, none⟩) NB101_102.out _).trans (((cell_far (p := ⟨gb102, _, none⟩) NB101_102.out _).trans (((cell_far (p := ⟨gb102, _, none⟩) NB101_102.out _).trans (((cell_far (p := ⟨gb102, _, none⟩) NB101_102.out _).trans (((cell_far (p := ⟨gb102, _, none⟩) NB101_102.out _).trans (((cell_far (p := ⟨gb102, _, none⟩) NB101_102.out _).trans (hHeld.2.2.2.1)))))))))))))))))), ((cell_far (p := ⟨gb102, _, none⟩) NB101_102.out _).trans (((cell_far (p := ⟨gb102, _, none⟩) NB101_102.out _).trans (((cell_far (p := ⟨gb102, _, none⟩) NB101_102.out _).trans (((cell_far (p := ⟨gb102, _, none⟩) NB101_102.out _).trans (((cell_far (p := ⟨gb102, _, none⟩) NB101_102.out _).trans (((cell_far (p := ⟨gb102, _, none⟩) NB101_102.out _).trans (((cell_far (p := ⟨gb102, _, none⟩) NB101_102.out _).trans (((cell_far (p := ⟨gb102, _, none⟩) NB101_102.out _).trans (((cell_far (p := ⟨gb102, _, none⟩) NB101_102.out _).trans (hHeld.2.2.2.2.1)))))))))))))))))), ((cell_far (p := ⟨gb102, _, none⟩) NB101_102.out _).trans (((cell_far (p := ⟨gb102, _, none⟩) NB101_102.out _).trans (((cell_far (p := ⟨gb102, _, none⟩) NB101_102.out _).trans (((cell_far (p := ⟨gb102, _, none⟩) NB101_102.out _).trans (((cell_far (p := ⟨gb102, _, none⟩) NB101_102.out _).trans (((cell_far (p := ⟨gb102, _, none⟩) NB101_102.out _).trans (((cell_far (p := ⟨gb102, _, none⟩) NB101_102.out _).trans (((cell_far (p := ⟨gb102, _, none⟩) NB101_102.out _).trans (((cell_far (p := ⟨gb102, _, none⟩) NB101_102.out _).trans (hHeld.2.2.2.2.2.1)))))))))))))))))), ((cell_far (p := ⟨gb102, _, none⟩) NB101_102.out _).trans (((cell_far (p := ⟨gb102, _, none⟩) NB101_102.out _).trans (((cell_far (p := ⟨gb102, _, none⟩) NB101_102.out _).trans (((cell_far (p := ⟨gb102, _, none⟩) NB101_102.out _).trans (((cell_far (p := ⟨gb102, _, none⟩) NB101_102.out _).trans (((cell_far (p := ⟨gb102, _, none⟩) NB101_102.out _).trans (((cell_far (p := ⟨gb102, _, none⟩) NB101_102.out _).trans (((cell_far (p := ⟨gb102, _, none⟩) NB101_102.out _).trans (((cell_far (p := ⟨gb102, _, none⟩) NB101_102.out _).trans (hHeld.2.2.2.2.2.2.1)))))))))))))))))), ((cell_far (p := ⟨gb102, _, none⟩) NB101_102.out _).trans (((cell_far (p := ⟨gb102, _, none⟩) NB101_102.out _).trans (((cell_far (p := ⟨gb102, _, none⟩) NB101_102.out _).trans (((cell_far (p := ⟨gb102, _, none⟩) NB101_102.out _).trans (((cell_far (p := ⟨gb102, _, none⟩) NB101_102.out _).trans (((cell_far (p := ⟨gb102, _, none⟩) NB101_102.out _).trans (((cell_far (p := ⟨gb102, _, none⟩) NB101_102.out _).trans (((cell_far (p := ⟨gb102, _, none⟩) NB101_102.out _).trans (((cell_far (p := ⟨gb102, _, none⟩) NB101_102.out _).trans (hHeld.2.2.2.2.2.2.2.1)))))))))))))))))), ((cell_far (p := ⟨gb102, _, none⟩) NB101_102.out _).trans (((cell_far (p := ⟨gb102, _, none⟩) NB101_102.out _).trans (((cell_far (p := ⟨gb102, _, none⟩) NB101_102.out _).trans (((cell_far (p := ⟨gb102, _, none⟩) NB101_102.out _).trans (((cell_far (p := ⟨gb102, _, none⟩) NB101_102.out _).trans (((cell_far (p := ⟨gb102, _, none⟩) NB101_102.out _).trans (((cell_far (p := ⟨gb102, _, none⟩) NB101_102.out _).trans (((cell_far (p := ⟨gb102, _, none⟩) NB101_102.out _).trans (((cell_far (p := ⟨gb102, _, none⟩) NB101_102.out _).trans (hHeld.2.2.2.2.2.2.2.2))))))))))))))))))⟩ (fun hHeld => ?_)
 clear hK K
 refine done_ (done_of HT_.out (by kernel_rfl)) ?_
 try go_wp2
 refine bodyPost_ret (results_cell_row rfl _ _ gb102 76 #[.int .i64 a0_0, .int .u64 a0_1, .int .u64 a0_2, .int .u64 a0_3, .int .u64 a0_4, .slice Ao10 t103.length co10, .slice Ao9 t106.length co9, .slice A0_7 l0_7.length c0_7, .slice A0_8 l0_8.length c0_8] (0, 0) _ rfl (by (repeat with_reducible refine blk_q ?_); refine blk_put (cs := #[.int .i64 a0_0, .int .u64 a0_1, .int .u64 a0_2, .int .u64 a0_3, .int .u64 a0_4, .slice Ao10 t103.length co10, .slice Ao9 t106.length co9, .slice A0_7 l0_7.length c0_7, .slice none 0 0]) ?_ 8 _ rfl; (repeat with_reducible refine blk_q ?_); refine blk_put (cs := #[.int .i64 a0_0, .int .u64 a0_1, .int .u64 a0_2, .int .u64 a0_3, .int .u64 a0_4, .slice Ao10 t103.length co10, .slice Ao9 t106.length co9, .slice none 0 0, .slice none 0 0]) ?_ 7 _ rfl; (repeat with_reducible refine blk_q ?_); refine blk_put (cs := #[.int .i64 a0_0, .int .u64 a0_1, .int .u64 a0_2, .int .u64 a0_3, .int .u64 a0_4, .slice Ao10 t103.length co10, .slice none 0 0, .slice none 0 0, .slice none 0 0]) ?_ 6 _ rfl; (repeat with_reducible refine blk_q ?_); refine blk_put (cs := #[.int .i64 a0_0, .int .u64 a0_1, .int .u64 a0_2, .int .u64 a0_3, .int .u64 a0_4, .slice none 0 0, .slice none 0 0, .slice none 0 0, .slice none 0 0]) ?_ 5 _ rfl; (repeat with_reducible refine blk_q ?_); refine blk_put (cs := #[.int .i64 a0_0, .int .u64 a0_1, .int .u64 a0_2, .int .u64 a0_3, .int .u64 0, .slice none 0 0, .slice none 0 0, .slice none 0 0, .slice none 0 0]) ?_ 4 _ rfl; (repeat with_reducible refine blk_q ?_); refine blk_put (cs := #[.int .i64 a0_0, .int .u64 a0_1, .int .u64 a0_2, .int .u64 0, .int .u64 0, .slice none 0 0, .slice none 0 0, .slice none 0 0, .slice none 0 0]) ?_ 3 _ rfl; (repeat with_reducible refine blk_q ?_); refine blk_put (cs := #[.int .i64 a0_0, .int .u64 a0_1, .int .u64 0, .int .u64 0, .int .u64 0, .slice none 0 0, .slice none 0 0, .slice none 0 0, .slice none 0 0]) ?_ 2 _ rfl; (repeat with_reducible refine blk_q ?_); refine blk_put (cs := #[.int .i64 a0_0, .int .u64 0, .int .u64 0, .int .u64 0, .int .u64 0, .slice none 0 0, .slice none 0 0, .slice none 0 0, .slice none 0 0]) ?_ 1 _ rfl; (repeat with_reducible refine blk_q ?_); refine blk_put (cs := #[.int .i64 0, .int .u64 0, .int .u64 0, .int .u64 0, .int .u64 0, .slice none 0 0, .slice none 0 0, .slice none 0 0, .slice none 0 0]) ?_ 0 _ rfl; (repeat with_reducible refine blk_q ?_); exact BK102.out) Try.underlying76 rfl (by kernel_rfl)) rfl ?_
 exact ⟨_, _, _, _, by first | rfl | (simp [errW_none, errW_some] <;> rfl) | (simp [*, errW_none, errW_some] <;> rfl), by (repeat with_reducible refine Kd.R_q ?_); exact Kd.R_mono (Kd.R_far (p := ⟨gb102, 8, none⟩) (Kd.R_far (p := ⟨gb102, 7, none⟩) (Kd.R_far (p := ⟨gb102, 6, none⟩) (Kd.R_far (p := ⟨gb102, 5, none⟩) (Kd.R_far (p := ⟨gb102, 4, none⟩) (Kd.R_far (p := ⟨gb102, 3, none⟩) (Kd.R_far (p := ⟨gb102, 2, none⟩) (Kd.R_far (p := ⟨gb102, 1, none⟩) (Kd.R_far (p := ⟨gb102, 0, none⟩) (Kd.R_types HO105.out BK102.out (by decide)) (fun _ hk => hk.2) (.int .i64 a0_0)) (fun _ hk => hk.2) (.int .u64 a0_1)) (fun _ hk => hk.2) (.int .u64 a0_2)) (fun _ hk => hk.2) (.int .u64 a0_3)) (fun _ hk => hk.2) (.int .u64 a0_4)) (fun _ hk => hk.2) (.slice Ao10 t103.length co10)) (fun _ hk => hk.2) (.slice Ao9 t106.length co9)) (fun _ hk => hk.2) (.slice A0_7 l0_7.length c0_7)) (fun _ hk => hk.2) (.slice A0_8 l0_8.length c0_8)) (fun _ hk => ⟨hk.1.1.1, hk.1.2⟩), by (repeat with_reducible refine Kd.R_q ?_); exact Kd.R_mono (Kd.R_far (p := ⟨gb102, 8, none⟩) (Kd.R_far (p := ⟨gb102, 7, none⟩) (Kd.R_far (p := ⟨gb102, 6, none⟩) (Kd.R_far (p := ⟨gb102, 5, none⟩) (Kd.R_far (p := ⟨gb102, 4, none⟩) (Kd.R_far (p := ⟨gb102, 3, none⟩) (Kd.R_far (p := ⟨gb102, 2, none⟩) (Kd.R_far (p := ⟨gb102, 1, none⟩) (Kd.R_far (p := ⟨gb102, 0, none⟩) (Kd.R_types HO108.out BK102.out (by decide)) (fun _ hk => hk.2) (.int .i64 a0_0)) (fun _ hk => hk.2) (.int .u64 a0_1)) (fun _ hk => hk.2) (.int .u64 a0_2)) (fun _ hk => hk.2) (.int .u64 a0_3)) (fun _ hk => hk.2) (.int .u64 a0_4)) (fun _ hk => hk.2) (.slice Ao10 t103.length co10)) (fun _ hk => hk.2) (.slice Ao9 t106.length co9)) (fun _ hk => hk.2) (.slice A0_7 l0_7.length c0_7)) (fun _ hk => hk.2) (.slice A0_8 l0_8.length c0_8)) (fun _ hk => ⟨hk.1.1.1, hk.1.2⟩), by (with_reducible repeat (first | apply Kd.V_alloc | apply Kd.V_drewN | apply Kd.V_drew)); exact Kd.V_mono (Kd.V_far (p := ⟨gb102, 8, none⟩) (Kd.V_far (p := ⟨gb102, 7, none⟩) (Kd.V_far (p := ⟨gb102, 6, none⟩) (Kd.V_far (p := ⟨gb102, 5, none⟩) (Kd.V_far (p := ⟨gb102, 4, none⟩) (Kd.V_far (p := ⟨gb102, 3, none⟩) (Kd.V_far (p := ⟨gb102, 2, none⟩) (Kd.V_far (p := ⟨gb102, 1, none⟩) (Kd.V_far (p := ⟨gb102, 0, none⟩) (Kd.V_mono HO0_7.out (fun k_ hk => (⟨hk, hk.1.1.2⟩ : _ ∧ k_ ≠ gb102))) (fun _ hk => hk.2) (.int .i64 a0_0)) (fun _ hk => hk.2) (.int .u64 a0_1)) (fun _ hk => hk.2) (.int .u64 a0_2)) (fun _ hk => hk.2) (.int .u64 a0_3)) (fun _ hk => hk.2) (.int .u64 a0_4)) (fun _ hk => hk.2) (.slice Ao10 t103.length co10)) (fun _ hk => hk.2) (.slice Ao9 t106.length co9)) (fun _ hk => hk.2) (.slice A0_7 l0_7.length c0_7)) (fun _ hk => hk.2) (.slice A0_8 l0_8.length c0_8)) (fun _ hk => ⟨hk.1.1.1.1.1, ⟨hk.1.1.2, hk.1.2⟩⟩), by (with_reducible repeat (first | apply Kd.V_alloc | apply Kd.V_drewN | apply Kd.V_drew)); exact Kd.V_mono (Kd.V_far (p := ⟨gb102, 8, none⟩) (Kd.V_far (p := ⟨gb102, 7, none⟩) (Kd.V_far (p := ⟨gb102, 6, none⟩) (Kd.V_far (p := ⟨gb102, 5, none⟩) (Kd.V_far (p := ⟨gb102, 4, none⟩) (Kd.V_far (p := ⟨gb102, 3, none⟩) (Kd.V_far (p := ⟨gb102, 2, none⟩) (Kd.V_far (p := ⟨gb102, 1, none⟩) (Kd.V_far (p := ⟨gb102, 0, none⟩) (Kd.V_mono HO0_8.out (fun k_ hk => (⟨hk, hk.1.1.2⟩ : _ ∧ k_ ≠ gb102))) (fun _ hk => hk.2) (.int .i64 a0_0)) (fun _ hk => hk.2) (.int .u64 a0_1)) (fun _ hk => hk.2) (.int .u64 a0_2)) (fun _ hk => hk.2) (.int .u64 a0_3)) (fun _ hk => hk.2) (.int .u64 a0_4)) (fun _ hk => hk.2) (.slice Ao10 t103.length co10)) (fun _ hk => hk.2) (.slice Ao9 t106.length co9)) (fun _ hk => hk.2) (.slice A0_7 l0_7.length c0_7)) (fun _ hk => hk.2) (.slice A0_8 l0_8.length c0_8)) (fun _ hk => ⟨hk.1.1.1.1.1, ⟨hk.1.1.2, hk.1.2⟩⟩), by repeat (first | (with_reducible first | exact HB.out | apply below_alloc | apply pw_below_drewN | apply below_drew1 | refine below_set ?_ GE101.out | refine below_set ?_ GE102.out) | exact HB.out)⟩
def tidepolelaw10_same.l0 : Nat → List Int → List Int → Int → Int → Option (Bool)
 | 0, _, _, _, _ => none
 | k + 1, x0, x1, x12, x13 => if x13 < x12 then (if 0 ≤ x13 then (if x13 < (x0.length : Int) then (if x13 < (x1.length : Int) then (if (rd x0 x13) = (rd x1 x13) then (tidepolelaw10_same.l0 k x0 x1 x12 (wrap64 (x13 + 1))) else (some false)) else (none)) else (none)) else (none)) else (some true)
def tidepolelaw10_same.f (k : Nat) (l0 : List Int) (l1 : List Int) : Option (Bool) := if (l0.length : Int) = (l1.length : Int) then (tidepolelaw10_same.l0 k l0 l1 (l0.length : Int) 0) else (some false)
set_option maxHeartbeats 8000000 in
set_option maxRecDepth 100000 in
theorem tidepolelaw10_same.calls (k : Nat) (A0 : Option Addr) (c0 : Nat) (l0 : List Int) (A1 : Option Addr) (c1 : Nat) (l1 : List Int) (r : Bool) (w : World) (hr0 : Kd.C (Kd.int .u64) w A0 l0.length l0) (hc0 : l0.length ≤ c0) (hr1 : Kd.C (Kd.int .u64) w A1 l1.length l1) (hc1 : l1.length ≤ c1) (h : tidepolelaw10_same.f k l0 l1 = some r) :
  Calls Try.prog 39 #[.slice A0 l0.length c0, .slice A1 l1.length c1] w fun e w' => e = .returned (.bool r) ∧ Drawn0 w w' := by
 have HR0 := Aside0.mk hr0
 have HC0 := Aside0.mk hc0
 clear hr0 hc0
 have HR1 := Aside0.mk hr1
 have HC1 := Aside0.mk hc1
 clear hr1 hc1
 have H : (if (l0.length : Int) = (l1.length : Int) then (tidepolelaw10_same.l0 k l0 l1 (l0.length : Int) 0) else (some false)) = some r := h
 clear h
 by_cases c3 : (l0.length : Int) = (l1.length : Int)
 ·rw [if_pos c3] at H
  have c3b0 : ((l0.length : Int) == (l1.length : Int)) = true := beq_iff_eq.mpr c3
  have c3b1 : ((l0.length : Int) != (l1.length : Int)) = false := bne_eq_false_iff_eq.mpr c3
  have c3b2 : (l0.length == l1.length) = true := by first | simpa using c3 | (simp at c3 ⊢; omega)
  clear c3
  have H' := Aside0.mk H
  clear H
  go_enter Try.func39, Try.ntmps39
  go_wp2
  repeat (go_quiet (fail); try go_wp2)
  go_loopg [13] k (fun kq v13 w' => ∃ (x13_1 : Int), v13 = .int .i64 x13_1 ∧ Aside0 (tidepolelaw10_same.l0 kq l0 l1 (l0.length : Int) x13_1 = some r) ∧ Aside0 (kq ≤ k) ∧ Drawn0 w w')
  case atStart => exact ⟨(0), (by first | rfl | (simp; done) | (simp [*]; done)), H', ⟨Nat.le_refl _⟩, by repeat (first | exact Drawn0.refl _ | apply Drawn0.step)⟩
  case round =>
   clear H'
   try clear c1
   try clear p2
   try clear c3
   try clear c3b0
   try clear c3b1
   try clear c3b2
   obtain ⟨x13_1, rfl, HA, HK1, ⟨m1, rfl⟩⟩ := hrel
   cases gk with
   | zero => exact absurd HA.out (by simp [tidepolelaw10_same.l0])
   | succ k1 =>
    have H := HA.out
    clear HA
    simp only [tidepolelaw10_same.l0] at H
    by_cases c4 : x13_1 < (l0.length : Int)
    ·rw [if_pos c4] at H
     have c4b0 : decide (x13_1 < (l0.length : Int)) = true := decide_eq_true c4
     clear c4
     by_cases c5 : 0 ≤ x13_1
     ·rw [if_pos c5] at H
      have c5b0 : decide (0 ≤ x13_1) = true := decide_eq_true c5
      clear c5
      by_cases c6 : x13_1 < (l0.length : Int)
      ·rw [if_pos c6] at H
       have c6b0 : decide (x13_1 < (l0.length : Int)) = true := decide_eq_true c6
       clear c6
       by_cases c7 : x13_1 < (l1.length : Int)
       ·rw [if_pos c7] at H
        have c7b0 : decide (x13_1 < (l1.length : Int)) = true := decide_eq_true c7
        clear c7
        by_cases c8 : (rd l0 x13_1) = (rd l1 x13_1)
        ·rw [if_pos c8] at H
         have c8b0 : ((rd l0 x13_1) == (rd l1 x13_1)) = true := beq_iff_eq.mpr c8
         have c8b1 : ((rd l0 x13_1) != (rd l1 x13_1)) = false := bne_eq_false_iff_eq.mpr c8
         clear c8
         have H' := Aside0.mk H
         clear H
         have p101 : 0 ≤ (x13_1 : Int) := of_decide_eq_true (by assumption)
         have q101 : x13_1 < (l0.length : Int) := of_decide_eq_true (by assumption)
         obtain ⟨ad101, e101, hx101_0⟩ := Kd.at_int HR0.out x13_1 p101 q101
         cases e101
         replace p101 := eq_true p101
         replace q101 := eq_true q101
         have p102 : 0 ≤ (x13_1 : Int) := of_decide_eq_true (by assumption)
         have q102 : x13_1 < (l1.length : Int) := of_decide_eq_true (by assumption)
         obtain ⟨ad102, e102, hx102_0⟩ := Kd.at_int HR1.out x13_1 p102 q102
         cases e102
         replace p102 := eq_true p102
         replace q102 := eq_true q102
         go_wp2
         repeat (go_quiet (fail); try go_wp2)
         go_roundg k1
         case measure => have := HK1.out; omega
         case rel => exact ⟨(wrap64 (x13_1 + 1)), (by first | rfl | (simp; done) | (simp [*]; done)), H', ⟨by have := HK1.out; omega⟩, by repeat (first | exact Drawn0.refl _ | apply Drawn0.step)⟩
        rw [if_neg c8] at H
        have c8b0 : ((rd l0 x13_1) == (rd l1 x13_1)) = false := beq_eq_false_iff_ne.mpr c8
        have c8b1 : ((rd l0 x13_1) != (rd l1 x13_1)) = true := bne_iff_ne.mpr c8
        obtain rfl := Option.some.inj H
        have p101 : 0 ≤ (x13_1 : Int) := of_decide_eq_true (by assumption)
        have q101 : x13_1 < (l0.length : Int) := of_decide_eq_true (by assumption)
        obtain ⟨ad101, e101, hx101_0⟩ := Kd.at_int HR0.out x13_1 p101 q101
        cases e101
        replace p101 := eq_true p101
        replace q101 := eq_true q101
        have p102 : 0 ≤ (x13_1 : Int) := of_decide_eq_true (by assumption)
        have q102 : x13_1 < (l1.length : Int) := of_decide_eq_true (by assumption)
        obtain ⟨ad102, e102, hx102_0⟩ := Kd.at_int HR1.out x13_1 p102 q102
        cases e102
        replace p102 := eq_true p102
        replace q102 := eq_true q102
        go_wp2
        repeat (go_quiet (fail); try go_wp2)
        go_ret
        exact ⟨by first | rfl | (simp; done) | (simp [*]; done), by repeat (first | exact Drawn0.refl _ | apply Drawn0.step)⟩
       rw [if_neg c7] at H
       exact absurd H (by simp)
      rw [if_neg c6] at H
      exact absurd H (by simp)
     rw [if_neg c5] at H
     exact absurd H (by simp)
    rw [if_neg c4] at H
    have c4b0 : decide (x13_1 < (l0.length : Int)) = false := decide_eq_false c4
    clear c4
    obtain rfl := Option.some.inj H
    go_wp2
    repeat (go_quiet (fail); try go_wp2)
    go_ret
    exact ⟨by first | rfl | (simp; done) | (simp [*]; done), by repeat (first | exact Drawn0.refl _ | apply Drawn0.step)⟩
 rw [if_neg c3] at H
 have c3b0 : ((l0.length : Int) == (l1.length : Int)) = false := beq_eq_false_iff_ne.mpr c3
 have c3b1 : ((l0.length : Int) != (l1.length : Int)) = true := bne_iff_ne.mpr c3
 have c3b2 : (l0.length == l1.length) = false := by first | simpa using c3 | (simp at c3 ⊢; omega)
 obtain rfl := Option.some.inj H
 go_enter Try.func39, Try.ntmps39
 go_wp2
 repeat (go_quiet (fail); try go_wp2)
 go_ret
 exact ⟨by first | rfl | (simp; done) | (simp [*]; done), by repeat (first | exact Drawn0.refl _ | apply Drawn0.step)⟩
def tidepolelaw10_alike.l0 : Nat → List (S86) → List (S86) → Int → Int → Option (Bool)
 | 0, _, _, _, _ => none
 | k + 1, x0, x1, x12, x13 => if x13 < x12 then (if 0 ≤ x13 then (if x13 < (x0.length : Int) then (if x13 < (x1.length : Int) then (if (!(((rd_T86 x0 x13).f0) == ((rd_T86 x1 x13).f0)) || (!(((rd_T86 x0 x13).f1) == ((rd_T86 x1 x13).f1)))) = true then (some false) else (tidepolelaw10_alike.l0 k x0 x1 x12 (wrap64 (x13 + 1)))) else (none)) else (none)) else (none)) else (some true)
def tidepolelaw10_alike.f (k : Nat) (l0 : List (S86)) (l1 : List (S86)) : Option (Bool) := if (l0.length : Int) = (l1.length : Int) then (tidepolelaw10_alike.l0 k l0 l1 (l0.length : Int) 0) else (some false)
set_option maxHeartbeats 8000000 in
set_option maxRecDepth 100000 in
theorem tidepolelaw10_alike.calls (k : Nat) (A0 : Option Addr) (c0 : Nat) (l0 : List (S86)) (A1 : Option Addr) (c1 : Nat) (l1 : List (S86)) (r : Bool) (w : World) (hr0 : Kd.C k86 w A0 l0.length l0) (hc0 : l0.length ≤ c0) (hr1 : Kd.C k86 w A1 l1.length l1) (hc1 : l1.length ≤ c1) (h : tidepolelaw10_alike.f k l0 l1 = some r) :
  Calls Try.prog 40 #[.slice A0 l0.length c0, .slice A1 l1.length c1] w fun e w' => e = .returned (.bool r) ∧ Drawn0 w w' := by
 have hu86 := Try.underlying86
 have HR0 := Aside0.mk hr0
 have HC0 := Aside0.mk hc0
 clear hr0 hc0
 have HR1 := Aside0.mk hr1
 have HC1 := Aside0.mk hc1
 clear hr1 hc1
 have H : (if (l0.length : Int) = (l1.length : Int) then (tidepolelaw10_alike.l0 k l0 l1 (l0.length : Int) 0) else (some false)) = some r := h
 clear h
 by_cases c3 : (l0.length : Int) = (l1.length : Int)
 ·rw [if_pos c3] at H
  have c3b0 : ((l0.length : Int) == (l1.length : Int)) = true := beq_iff_eq.mpr c3
  have c3b1 : ((l0.length : Int) != (l1.length : Int)) = false := bne_eq_false_iff_eq.mpr c3
  have c3b2 : (l0.length == l1.length) = true := by first | simpa using c3 | (simp at c3 ⊢; omega)
  clear c3
  have H' := Aside0.mk H
  clear H
  go_enter Try.func40, Try.ntmps40
  go_wp2
  repeat (go_quiet (fail); try go_wp2)
  go_loopg [13] k (fun kq v13 w' => ∃ (x13_1 : Int), v13 = .int .i64 x13_1 ∧ Aside0 (tidepolelaw10_alike.l0 kq l0 l1 (l0.length : Int) x13_1 = some r) ∧ Aside0 (kq ≤ k) ∧ Drawn0 w w')
  case atStart => exact ⟨(0), (by first | rfl | (simp; done) | (simp [*]; done)), H', ⟨Nat.le_refl _⟩, by repeat (first | exact Drawn0.refl _ | apply Drawn0.step)⟩
  case round =>
   clear H'
   try clear c1
   try clear p2
   try clear c3
   try clear c3b0
   try clear c3b1
   try clear c3b2
   obtain ⟨x13_1, rfl, HA, HK1, ⟨m1, rfl⟩⟩ := hrel
   cases gk with
   | zero => exact absurd HA.out (by simp [tidepolelaw10_alike.l0])
   | succ k1 =>
    have H := HA.out
    clear HA
    simp only [tidepolelaw10_alike.l0] at H
    by_cases c4 : x13_1 < (l0.length : Int)
    ·rw [if_pos c4] at H
     have c4b0 : decide (x13_1 < (l0.length : Int)) = true := decide_eq_true c4
     clear c4
     by_cases c5 : 0 ≤ x13_1
     ·rw [if_pos c5] at H
      have c5b0 : decide (0 ≤ x13_1) = true := decide_eq_true c5
      clear c5
      by_cases c6 : x13_1 < (l0.length : Int)
      ·rw [if_pos c6] at H
       have c6b0 : decide (x13_1 < (l0.length : Int)) = true := decide_eq_true c6
       clear c6
       by_cases c7 : x13_1 < (l1.length : Int)
       ·rw [if_pos c7] at H
        have c7b0 : decide (x13_1 < (l1.length : Int)) = true := decide_eq_true c7
        clear c7
        by_cases c8 : (!(((rd_T86 l0 x13_1).f0) == ((rd_T86 l1 x13_1).f0)) || (!(((rd_T86 l0 x13_1).f1) == ((rd_T86 l1 x13_1).f1)))) = true
        ·rw [if_pos c8] at H
         have c8b0 : (!(((rd_T86 l0 x13_1).f0) == ((rd_T86 l1 x13_1).f0)) || (!(((rd_T86 l0 x13_1).f1) == ((rd_T86 l1 x13_1).f1)))) = true := c8
         clear c8
         obtain rfl := Option.some.inj H
         have p101 : 0 ≤ (x13_1 : Int) := of_decide_eq_true (by assumption)
         have q101 : x13_1 < (l0.length : Int) := of_decide_eq_true (by assumption)
         obtain ⟨ad101, e101, hx101_0, hx101_1⟩ := at_T86 HR0.out x13_1 p101 q101
         cases e101
         replace p101 := eq_true p101
         replace q101 := eq_true q101
         have p102 : 0 ≤ (x13_1 : Int) := of_decide_eq_true (by assumption)
         have q102 : x13_1 < (l1.length : Int) := of_decide_eq_true (by assumption)
         obtain ⟨ad102, e102, hx102_0, hx102_1⟩ := at_T86 HR1.out x13_1 p102 q102
         cases e102
         replace p102 := eq_true p102
         replace q102 := eq_true q102
         go_wp2
         repeat (go_quiet (fail); try go_wp2)
         go_ret
         exact ⟨by first | rfl | (simp; done) | (simp [*]; done), by repeat (first | exact Drawn0.refl _ | apply Drawn0.step)⟩
        rw [if_neg c8] at H
        have c8b0 : (!(((rd_T86 l0 x13_1).f0) == ((rd_T86 l1 x13_1).f0)) || (!(((rd_T86 l0 x13_1).f1) == ((rd_T86 l1 x13_1).f1)))) = false := by simpa using c8
        clear c8
        have H' := Aside0.mk H
        clear H
        have p101 : 0 ≤ (x13_1 : Int) := of_decide_eq_true (by assumption)
        have q101 : x13_1 < (l0.length : Int) := of_decide_eq_true (by assumption)
        obtain ⟨ad101, e101, hx101_0, hx101_1⟩ := at_T86 HR0.out x13_1 p101 q101
        cases e101
        replace p101 := eq_true p101
        replace q101 := eq_true q101
        have p102 : 0 ≤ (x13_1 : Int) := of_decide_eq_true (by assumption)
        have q102 : x13_1 < (l1.length : Int) := of_decide_eq_true (by assumption)
        obtain ⟨ad102, e102, hx102_0, hx102_1⟩ := at_T86 HR1.out x13_1 p102 q102
        cases e102
        replace p102 := eq_true p102
        replace q102 := eq_true q102
        go_wp2
        repeat (go_quiet (fail); try go_wp2)
        go_roundg k1
        case measure => have := HK1.out; omega
        case rel => exact ⟨(wrap64 (x13_1 + 1)), (by first | rfl | (simp; done) | (simp [*]; done)), H', ⟨by have := HK1.out; omega⟩, by repeat (first | exact Drawn0.refl _ | apply Drawn0.step)⟩
       rw [if_neg c7] at H
       exact absurd H (by simp)
      rw [if_neg c6] at H
      exact absurd H (by simp)
     rw [if_neg c5] at H
     exact absurd H (by simp)
    rw [if_neg c4] at H
    have c4b0 : decide (x13_1 < (l0.length : Int)) = false := decide_eq_false c4
    clear c4
    obtain rfl := Option.some.inj H
    go_wp2
    repeat (go_quiet (fail); try go_wp2)
    go_ret
    exact ⟨by first | rfl | (simp; done) | (simp [*]; done), by repeat (first | exact Drawn0.refl _ | apply Drawn0.step)⟩
 rw [if_neg c3] at H
 have c3b0 : ((l0.length : Int) == (l1.length : Int)) = false := beq_eq_false_iff_ne.mpr c3
 have c3b1 : ((l0.length : Int) != (l1.length : Int)) = true := bne_iff_ne.mpr c3
 have c3b2 : (l0.length == l1.length) = false := by first | simpa using c3 | (simp at c3 ⊢; omega)
 obtain rfl := Option.some.inj H
 go_enter Try.func40, Try.ntmps40
 go_wp2
 repeat (go_quiet (fail); try go_wp2)
 go_ret
 exact ⟨by first | rfl | (simp; done) | (simp [*]; done), by repeat (first | exact Drawn0.refl _ | apply Drawn0.step)⟩
end Go.Proofs.Ytfbjjbbhnmoolaa.P
namespace Go.Proofs.Ytfbjjbbhnmoolaa.P
open Go.RowKit Go.Shelf Go.Proofs.YtfbjjbbhnmoolaaW.PrintWords Go.Proofs.YtfbjjbbhnmoolaaW.PrintLast Go.Proofs.YtfbjjbbhnmoolaaW.PrintMore
theorem spans10_eq (l : List Sp) (hm : l.length < 8796093022208) (k : Nat) (hk : l.length < k) : tidepolelaw10_spans.f k l = some (l.map toR) := by
  unfold tidepolelaw10_spans.f
  have : ∀ (d k i : Nat), l.length - i = d → d < k → i ≤ l.length → tidepolelaw10_spans.l0 k ((l.take i).map toR) l (l.length : Int) (i : Int) = some (l.map toR) := by
    intro d
    induction d with
    | zero =>
      intro k i hd hk hi
      obtain ⟨k, rfl⟩ : ∃ m, k = m + 1 := ⟨k - 1, by omega⟩
      rw [tidepolelaw10_spans.l0, if_neg (by omega), List.take_of_length_le (by omega)]
    | succ d ih =>
      intro k i hd hk hi
      obtain ⟨k, rfl⟩ : ∃ m, k = m + 1 := ⟨k - 1, by omega⟩
      have hlt : i < l.length := by omega
      have hl1 : ((l.take i).map toR).length = i := by simp; omega
      rw [tidepolelaw10_spans.l0, if_pos (by omega), if_pos (by omega), if_pos (by omega), hl1, rdSp_at hlt, if_pos (by omega), wrap_succ (by omega), ← ih k (i + 1) (by omega) (by omega) (by omega), take_at hlt]
      simp only [List.map_append, List.map_cons, List.map_nil]
      rfl
  exact this l.length k 0 (by omega) hk (by omega)
theorem few10_c (l : List Sp) (hw : wfSps l) : ∃ b : Bool, (b = true → l.length ≤ 400) ∧ ∀ (w : World) (v : Value), SI kSp w v l → Calls Try.prog 41 #[v] w fun e w' => e = .returned (.bool b) ∧ Below w.heap.size w w' := by
  have hl : ∀ (d k i : Nat) (n : Int), 401 - i = d → d < k → i ≤ l.length → (i : Int) ≤ n → n ≤ 400 → ∃ b, tidepolelaw10_few.l0 k n l (l.length : Int) (i : Int) = some b ∧ (b = true → l.length ≤ 400) := by
    intro d
    induction d with
    | zero => intro k i n hd hk hi h0 h1; omega
    | succ d ih =>
      intro k i n hd hk hi h0 h1
      obtain ⟨k, rfl⟩ : ∃ m, k = m + 1 := ⟨k - 1, by omega⟩
      simp only [tidepolelaw10_few.l0]
      by_cases hlt : i < l.length
      · rw [if_pos (by omega), if_pos (by omega), if_pos (by omega), rdSp_at hlt, wrap_succ (by omega)]
        generalize l[i] = s
        have hrec : ∀ m : Int, n + 1 ≤ m → ∃ b, (if m > 400 then some false else tidepolelaw10_few.l0 k m l (l.length : Int) ((i + 1 : Nat) : Int)) = some b ∧ (b = true → l.length ≤ 400) := by
          intro m hm
          by_cases c : m > 400
          · rw [if_pos c]; exact ⟨false, rfl, fun h => by cases h⟩
          · rw [if_neg c]; exact ih k (i + 1) m (by omega) (by omega) (by omega) (by omega) (by omega)
        by_cases c : s.f1 > 0
        · rw [if_pos c]
          have hmn : 0 ≤ mn s.f1 5000 ∧ mn s.f1 5000 ≤ 5000 := by unfold mn; omega
          have ht := Int.tdiv_eq_ediv_of_nonneg (b := 10) hmn.1
          rw [ht]
          refine hrec _ ?_
          rw [wrap_id (x := mn s.f1 5000 / 10) (by omega) (by omega), wrap_id (x := 1 + mn s.f1 5000 / 10) (by omega) (by omega), wrap_id (x := n + (1 + mn s.f1 5000 / 10)) (by omega) (by omega), wrap_id (by omega) (by omega)]
          omega
        · rw [if_neg c]
          refine hrec _ ?_
          rw [wrap_id (by omega) (by omega)]; omega
      · rw [if_neg (by omega)]; exact ⟨true, rfl, fun _ => by omega⟩
  obtain ⟨b, h1, h2⟩ := hl 401 402 0 0 (by omega) (by omega) (by omega) (by omega) (by omega)
  refine ⟨b, h2, fun w v hv => ?_⟩
  obtain ⟨A, c, rfl, hc, hr⟩ := hv
  exact (tidepolelaw10_few.calls 402 A c l b w hr hc h1).mono fun e w1 h => ⟨h.1, h.2⟩
set_option maxHeartbeats 8000000 in
set_option maxRecDepth 100000 in
theorem small10_c (h : Fh) (hw5 : wfSps h.f5) (hw6 : wfSps h.f6) : ∃ b : Bool, (b = true → h.f5.length ≤ 400 ∧ h.f6.length ≤ 400 ∧ h.f7.length ≤ 300 ∧ h.f8.length ≤ 300) ∧ ∀ (w : World) (v : Value), GI w v h → Calls Try.prog 34 #[v] w fun e w' => e = .returned (.bool b) ∧ Below w.heap.size w w' := by
  obtain ⟨b1, hb1, c1⟩ := few10_c h.f5 hw5
  obtain ⟨b2, hb2, c2⟩ := few10_c h.f6 hw6
  have C1 := Aside0.mk c1
  have C2 := Aside0.mk c2
  have hu := Try.underlying31
  clear c1 c2
  cases b1 with
  | false =>
    refine ⟨false, (fun h => nomatch h), fun w v hv => ?_⟩
    obtain ⟨A5, c5, A6, c6, A7, c7, A8, c8, e, h5, h6, h7, h8⟩ := hv.open_
    subst e
    have B := Aside0.mk (below_alloc (Below.refl w.heap.size w) (.cells #[.int .i64 h.f0, .int .u64 h.f1, .int .u64 h.f2, .int .u64 h.f3, .int .u64 h.f4, .slice A5 h.f5.length c5, .slice A6 h.f6.length c6, .slice A7 h.f7.length c7, .slice A8 h.f8.length c8] 31))
    have X := Aside0.mk (Blk.new w #[.int .i64 h.f0, .int .u64 h.f1, .int .u64 h.f2, .int .u64 h.f3, .int .u64 h.f4, .slice A5 h.f5.length c5, .slice A6 h.f6.length c6, .slice A7 h.f7.length c7, .slice A8 h.f8.length c8] 31)
    have hx := fun i => X.out.cell i
    have H5 := Aside0.mk (h5.below B.out)
    have H6 := Aside0.mk (h6.below B.out)
    clear hv h5 h6 h7 h8
    go_enter Try.func34, Try.ntmps34
    go_wp2_with (first | (go_at_call 41; (with_reducible refine (C1.out _ _ H5.out).mono ?_); rintro e W ⟨rfl, hb⟩; replace B := Aside0.mk (below_then B.out B.out.size hb); replace H5 := Aside0.mk (H5.out.below hb); replace H6 := Aside0.mk (H6.out.below hb); replace X := Aside0.mk (X.out.below hb); replace hx := fun i => X.out.cell i; clear  hb))
    go_ret
    exact ⟨rfl, B.out⟩
  | true =>
    have n1 := hb1 rfl
    cases b2 with
    | false =>
      refine ⟨false, (fun h => nomatch h), fun w v hv => ?_⟩
      obtain ⟨A5, c5, A6, c6, A7, c7, A8, c8, e, h5, h6, h7, h8⟩ := hv.open_
      subst e
      have B := Aside0.mk (below_alloc (Below.refl w.heap.size w) (.cells #[.int .i64 h.f0, .int .u64 h.f1, .int .u64 h.f2, .int .u64 h.f3, .int .u64 h.f4, .slice A5 h.f5.length c5, .slice A6 h.f6.length c6, .slice A7 h.f7.length c7, .slice A8 h.f8.length c8] 31))
      have X := Aside0.mk (Blk.new w #[.int .i64 h.f0, .int .u64 h.f1, .int .u64 h.f2, .int .u64 h.f3, .int .u64 h.f4, .slice A5 h.f5.length c5, .slice A6 h.f6.length c6, .slice A7 h.f7.length c7, .slice A8 h.f8.length c8] 31)
      have hx := fun i => X.out.cell i
      have H5 := Aside0.mk (h5.below B.out)
      have H6 := Aside0.mk (h6.below B.out)
      clear hv h5 h6 h7 h8
      go_enter Try.func34, Try.ntmps34
      go_wp2_with (first | (go_at_call 41; (with_reducible refine (C1.out _ _ H5.out).mono ?_); rintro e W ⟨rfl, hb⟩; replace B := Aside0.mk (below_then B.out B.out.size hb); replace H5 := Aside0.mk (H5.out.below hb); replace H6 := Aside0.mk (H6.out.below hb); replace X := Aside0.mk (X.out.below hb); replace hx := fun i => X.out.cell i; clear  hb) | (go_at_call 41; (with_reducible refine (C2.out _ _ H6.out).mono ?_); rintro e W ⟨rfl, hb⟩; replace B := Aside0.mk (below_then B.out B.out.size hb); replace H5 := Aside0.mk (H5.out.below hb); replace H6 := Aside0.mk (H6.out.below hb); replace X := Aside0.mk (X.out.below hb); replace hx := fun i => X.out.cell i; clear  hb))
      go_ret
      exact ⟨rfl, B.out⟩
    | true =>
      have n2 := hb2 rfl
      by_cases c3 : h.f7.length ≤ 300
      · by_cases c4 : h.f8.length ≤ 300
        · refine ⟨true, fun _ => ⟨n1, n2, c3, c4⟩, fun w v hv => ?_⟩
          have d3 : decide ((h.f7.length : Int) ≤ 300) = true := decide_eq_true (by omega)
          have d4 : decide ((h.f8.length : Int) ≤ 300) = true := decide_eq_true (by omega)
          clear n1 n2 hb1 hb2
          obtain ⟨A5, c5, A6, c6, A7, c7, A8, c8, e, h5, h6, h7, h8⟩ := hv.open_
          subst e
          have B := Aside0.mk (below_alloc (Below.refl w.heap.size w) (.cells #[.int .i64 h.f0, .int .u64 h.f1, .int .u64 h.f2, .int .u64 h.f3, .int .u64 h.f4, .slice A5 h.f5.length c5, .slice A6 h.f6.length c6, .slice A7 h.f7.length c7, .slice A8 h.f8.length c8] 31))
          have X := Aside0.mk (Blk.new w #[.int .i64 h.f0, .int .u64 h.f1, .int .u64 h.f2, .int .u64 h.f3, .int .u64 h.f4, .slice A5 h.f5.length c5, .slice A6 h.f6.length c6, .slice A7 h.f7.length c7, .slice A8 h.f8.length c8] 31)
          have hx := fun i => X.out.cell i
          have H5 := Aside0.mk (h5.below B.out)
          have H6 := Aside0.mk (h6.below B.out)
          clear hv h5 h6 h7 h8
          go_enter Try.func34, Try.ntmps34
          go_wp2_with (first | (go_at_call 41; (with_reducible refine (C1.out _ _ H5.out).mono ?_); rintro e W ⟨rfl, hb⟩; replace B := Aside0.mk (below_then B.out B.out.size hb); replace H5 := Aside0.mk (H5.out.below hb); replace H6 := Aside0.mk (H6.out.below hb); replace X := Aside0.mk (X.out.below hb); replace hx := fun i => X.out.cell i; clear  hb) | (go_at_call 41; (with_reducible refine (C2.out _ _ H6.out).mono ?_); rintro e W ⟨rfl, hb⟩; replace B := Aside0.mk (below_then B.out B.out.size hb); replace H5 := Aside0.mk (H5.out.below hb); replace H6 := Aside0.mk (H6.out.below hb); replace X := Aside0.mk (X.out.below hb); replace hx := fun i => X.out.cell i; clear  hb))
          go_ret
          exact ⟨rfl, B.out⟩
        · refine ⟨false, (fun h => nomatch h), fun w v hv => ?_⟩
          have d3 : decide ((h.f7.length : Int) ≤ 300) = true := decide_eq_true (by omega)
          have d4 : decide ((h.f8.length : Int) ≤ 300) = false := decide_eq_false (by omega)
          clear n1 n2 hb1 hb2
          obtain ⟨A5, c5, A6, c6, A7, c7, A8, c8, e, h5, h6, h7, h8⟩ := hv.open_
          subst e
          have B := Aside0.mk (below_alloc (Below.refl w.heap.size w) (.cells #[.int .i64 h.f0, .int .u64 h.f1, .int .u64 h.f2, .int .u64 h.f3, .int .u64 h.f4, .slice A5 h.f5.length c5, .slice A6 h.f6.length c6, .slice A7 h.f7.length c7, .slice A8 h.f8.length c8] 31))
          have X := Aside0.mk (Blk.new w #[.int .i64 h.f0, .int .u64 h.f1, .int .u64 h.f2, .int .u64 h.f3, .int .u64 h.f4, .slice A5 h.f5.length c5, .slice A6 h.f6.length c6, .slice A7 h.f7.length c7, .slice A8 h.f8.length c8] 31)
          have hx := fun i => X.out.cell i
          have H5 := Aside0.mk (h5.below B.out)
          have H6 := Aside0.mk (h6.below B.out)
          clear hv h5 h6 h7 h8
          go_enter Try.func34, Try.ntmps34
          go_wp2_with (first | (go_at_call 41; (with_reducible refine (C1.out _ _ H5.out).mono ?_); rintro e W ⟨rfl, hb⟩; replace B := Aside0.mk (below_then B.out B.out.size hb); replace H5 := Aside0.mk (H5.out.below hb); replace H6 := Aside0.mk (H6.out.below hb); replace X := Aside0.mk (X.out.below hb); replace hx := fun i => X.out.cell i; clear  hb) | (go_at_call 41; (with_reducible refine (C2.out _ _ H6.out).mono ?_); rintro e W ⟨rfl, hb⟩; replace B := Aside0.mk (below_then B.out B.out.size hb); replace H5 := Aside0.mk (H5.out.below hb); replace H6 := Aside0.mk (H6.out.below hb); replace X := Aside0.mk (X.out.below hb); replace hx := fun i => X.out.cell i; clear  hb))
          go_ret
          exact ⟨rfl, B.out⟩
      · refine ⟨false, (fun h => nomatch h), fun w v hv => ?_⟩
        have d3 : decide ((h.f7.length : Int) ≤ 300) = false := decide_eq_false (by omega)
        clear n1 n2 hb1 hb2
        obtain ⟨A5, c5, A6, c6, A7, c7, A8, c8, e, h5, h6, h7, h8⟩ := hv.open_
        subst e
        have B := Aside0.mk (below_alloc (Below.refl w.heap.size w) (.cells #[.int .i64 h.f0, .int .u64 h.f1, .int .u64 h.f2, .int .u64 h.f3, .int .u64 h.f4, .slice A5 h.f5.length c5, .slice A6 h.f6.length c6, .slice A7 h.f7.length c7, .slice A8 h.f8.length c8] 31))
        have X := Aside0.mk (Blk.new w #[.int .i64 h.f0, .int .u64 h.f1, .int .u64 h.f2, .int .u64 h.f3, .int .u64 h.f4, .slice A5 h.f5.length c5, .slice A6 h.f6.length c6, .slice A7 h.f7.length c7, .slice A8 h.f8.length c8] 31)
        have hx := fun i => X.out.cell i
        have H5 := Aside0.mk (h5.below B.out)
        have H6 := Aside0.mk (h6.below B.out)
        clear hv h5 h6 h7 h8
        go_enter Try.func34, Try.ntmps34
        go_wp2_with (first | (go_at_call 41; (with_reducible refine (C1.out _ _ H5.out).mono ?_); rintro e W ⟨rfl, hb⟩; replace B := Aside0.mk (below_then B.out B.out.size hb); replace H5 := Aside0.mk (H5.out.below hb); replace H6 := Aside0.mk (H6.out.below hb); replace X := Aside0.mk (X.out.below hb); replace hx := fun i => X.out.cell i; clear  hb) | (go_at_call 41; (with_reducible refine (C2.out _ _ H6.out).mono ?_); rintro e W ⟨rfl, hb⟩; replace B := Aside0.mk (below_then B.out B.out.size hb); replace H5 := Aside0.mk (H5.out.below hb); replace H6 := Aside0.mk (H6.out.below hb); replace X := Aside0.mk (X.out.below hb); replace hx := fun i => X.out.cell i; clear  hb))
        go_ret
        exact ⟨rfl, B.out⟩
theorem ref10_c (h : Fh) (h5 : h.f5.length < 8796093022208) (h6 : h.f6.length < 8796093022208) (w : World) (v : Value) (hv : GI w v h) : Calls Try.prog 37 #[v] w fun e w' =>
    ∃ v', e = .returned v' ∧ GR w' v' h ∧ Below w.heap.size w w' := by
  obtain ⟨A5, c5, A6, c6, A7, c7, A8, c8, rfl, ⟨_, _, e5, h51, h52⟩, ⟨_, _, e6, h61, h62⟩, ⟨_, _, e7, h71, h72⟩, ⟨_, _, e8, h81, h82⟩⟩ := hv.open_
  cases e5; cases e6; cases e7; cases e8
  obtain ⟨k, hk⟩ : ∃ k, k = h.f5.length + h.f6.length + 1 := ⟨_, rfl⟩
  refine (tidepolelaw10_ref.calls k h.f0 h.f1 h.f2 h.f3 h.f4 A5 c5 h.f5 A6 c6 h.f6 _ A7 c7 h.f7 _ A8 c8 h.f8 h.f0 h.f1 h.f2 h.f3 h.f4 (h.f5.map toR) (h.f6.map toR) h.f7 h.f8 w h52 h51 h62 h61 (SI.Vu h71 h72) (SI.Vu h81 h82) ?_).mono ?_
  · unfold tidepolelaw10_ref.f
    rw [spans10_eq _ h5 k (by omega), Option.bind_some, spans10_eq _ h6 k (by omega), Option.bind_some]
  · rintro e w1 ⟨v5, v6, v7, v8, rfl, i5, i6, i7, i8, hb⟩
    exact ⟨_, rfl, ⟨v5, v6, v7, v8, rfl, .of_R i5, .of_R i6, SI.of_Vu i7, SI.of_Vu i8⟩, hb⟩
end Go.Proofs.Ytfbjjbbhnmoolaa.P
namespace Go.Proofs.Ytfbjjbbhnmoolaa.P
open Go.RowKit Go.Shelf Go.Proofs.YtfbjjbbhnmoolaaW.PrintWords Go.Proofs.YtfbjjbbhnmoolaaW.PrintLast Go.Proofs.YtfbjjbbhnmoolaaW.PrintMore
theorem wrapU_inj {x y : Int} (hx : i64 x) (hy : i64 y) (h : IntKind.u64.wrap x = IntKind.u64.wrap y) : x = y := by
  simp only [IntKind.wrap_u64] at h
  obtain ⟨h1, h2⟩ := hx
  obtain ⟨h3, h4⟩ := hy
  omega
theorem run_eqItems_one {P : Program} (d : Nat) (e : TypeId) (hu : P.underlying e = some (.int .u64)) (hc : P.cellsOf e = 1) (xs ys : List Int) (W : World) : ∀ (is : List Nat), (∀ i ∈ is, i < xs.length ∧ i < ys.length) →
    (Op.eqItems (d + 1) e 1 (xs.map (Value.int .u64)).toArray (ys.map (Value.int .u64)).toArray is).run P W = .ok (is.all fun i => xs.getD i 0 == ys.getD i 0) W
  | [], _ => by simp [Op.eqItems]
  | i :: is, h => by
    have hi := h i (List.mem_cons_self ..)
    have ih := run_eqItems_one d e hu hc xs ys W is (fun j hj => h j (List.mem_cons_of_mem _ hj))
    have hp : ∀ (zs : List Int), i < zs.length → (part e (zs.map (Value.int .u64)).toArray (i * 1)).run P W = .ok (.int .u64 (zs.getD i 0)) W := fun zs hz => by
      rw [Nat.mul_one]
      have ha : (isAgg e).run P W = .ok false W := by simp [isAgg, run_underlying hu]
      simp [part, ha, hz, List.getD]
    simp only [Op.eqItems, Sem.run_bind, hp xs hi.1, hp ys hi.2, Result.andThen_ok, run_equalIn_int W d e .u64 .u64 _ _ hu, List.all_cons]
    cases hq : (xs.getD i 0 == ys.getD i 0) with
    | true => simp [ih]
    | false => simp
set_option maxRecDepth 100000 in
theorem eq5_run (a b : Fh) (ia : i64 a.f0) (ib : i64 b.f0) (W : World) : (Op.equalIn 10000 172 (.agg #[.int .u64 (IntKind.u64.wrap a.f0), .int .u64 a.f1, .int .u64 a.f2, .int .u64 a.f3, .int .u64 a.f4]) (.agg #[.int .u64 (IntKind.u64.wrap b.f0), .int .u64 b.f1, .int .u64 b.f2, .int .u64 b.f3, .int .u64 b.f4])).run Try.prog W = .ok (decide (sameNumsF a b)) W := by
  have hie : (Try.prog.info? 22).isSome = true := by kernel_rfl
  obtain ⟨i0, hi⟩ := Option.isSome_iff_exists.1 hie
  have hc : Try.prog.cellsOf 22 = 1 := by kernel_rfl
  rw [run_equalIn_array W 9999 _ _ Try.underlying172 hi, hc]
  have := run_eqItems_one (P := Try.prog) 9998 22 Try.underlying22 hc [IntKind.u64.wrap a.f0, a.f1, a.f2, a.f3, a.f4] [IntKind.u64.wrap b.f0, b.f1, b.f2, b.f3, b.f4] W (List.range 5) (by intro i hi; rw [List.mem_range] at hi; exact ⟨hi, hi⟩)
  refine this.trans ?_
  congr 1
  rw [Bool.eq_iff_iff, decide_eq_true_eq]
  rw [show List.range 5 = [0, 1, 2, 3, 4] from rfl]
  simp only [List.all_cons, List.all_nil, Bool.and_true, Bool.and_eq_true, beq_iff_eq, List.getD_cons_zero, List.getD_cons_succ]
  unfold sameNumsF
  constructor
  · rintro ⟨h0, h1, h2, h3, h4⟩; exact ⟨wrapU_inj ia ib h0, h1, h2, h3, h4⟩
  · rintro ⟨h0, h1, h2, h3, h4⟩; exact ⟨by rw [h0], h1, h2, h3, h4⟩
theorem numbersF_c (h : Fh) (w : World) (v : Value) (hv : GI w v h) : Calls Try.prog 117 #[v] w fun e w' => e = .returned (.agg #[.int .u64 (IntKind.u64.wrap h.f0), .int .u64 h.f1, .int .u64 h.f2, .int .u64 h.f3, .int .u64 h.f4]) ∧ Below w.heap.size w w' := by
  have hud := Try.underlying31
  have hut := Try.underlying172
  obtain ⟨A5, c5, A6, c6, A7, c7, A8, c8, e, -⟩ := hv.open_
  subst e
  have X := Aside0.mk ((Blk.new w #[.int .i64 h.f0, .int .u64 h.f1, .int .u64 h.f2, .int .u64 h.f3, .int .u64 h.f4, .slice A5 h.f5.length c5, .slice A6 h.f6.length c6, .slice A7 h.f7.length c7, .slice A8 h.f8.length c8] 31).alloc (.cells #[.int .u64 0, .int .u64 0, .int .u64 0, .int .u64 0, .int .u64 0] 172))
  have hx := fun i => X.out.cell i
  clear hv
  go_enter Try.func117, Try.ntmps117
  go_wp2
  refine bodyPost_ret (results_cell_row rfl _ _ (w.heap.size + 1) 172 #[.int .u64 (IntKind.u64.wrap h.f0), .int .u64 h.f1, .int .u64 h.f2, .int .u64 h.f3, .int .u64 h.f4] (0, 0) _ rfl (Blk.at1 (w := w) (.cells #[.int .i64 h.f0, .int .u64 h.f1, .int .u64 h.f2, .int .u64 h.f3, .int .u64 h.f4, .slice A5 h.f5.length c5, .slice A6 h.f6.length c6, .slice A7 h.f7.length c7, .slice A8 h.f8.length c8] 31) #[.int .u64 (IntKind.u64.wrap h.f0), .int .u64 h.f1, .int .u64 h.f2, .int .u64 h.f3, .int .u64 h.f4] 172) Try.underlying172 rfl (by kernel_rfl)) rfl ?_
  exact ⟨rfl, below_alloc (below_alloc (Below.refl _ _) _) _⟩
theorem equalPu_c (a b : List Pu) (hm : a.length < 17592186044416) (w : World) (u v : Value) (hu : SI kPu w u a) (hv : SI kPu w v b) : Calls Try.prog 118 #[u, v] w fun e w' => e = .returned (.bool (decide (a = b))) ∧ Below w.heap.size w w' := by
  obtain ⟨A, c, rfl, hc, hr⟩ := hu
  obtain ⟨B, d, rfl, hd, hs⟩ := hv
  exact (pairs_Equal_uint64.calls (a.length + 1) A c a B d b _ w hr hc hs hd (equalPu_eq a b hm _ (by omega))).mono fun e w1 h => ⟨h.1, h.2.below⟩
set_option maxHeartbeats 32000000 in
set_option maxRecDepth 100000 in
theorem fequal_c (a b : Fh) (hwa : wfF a) (hwb : wfF b) (w : World) (u v : Value) (hu : GI w u a) (hv : GI w v b) : Calls Try.prog 90 #[u, v] w fun e w' =>
    e = .returned (.bool (equalF a b)) ∧ Below w.heap.size w w' := by
  have hud := Try.underlying31
  have hut := Try.underlying172
  have ia := hwa.1
  have ib := hwb.1
  have oa := fopen_c a hwa
  have ob := fopen_c b hwb
  have na := numbersF_c a
  have nb := numbersF_c b
  have ra := openF_row hwa
  have rb := openF_row hwb
  have wp := withoutU_c (openF a).1 (by have := ra.1.len; omega)
  have wn := withoutU_c (openF a).2.1 (by have := ra.2.len; omega)
  have wq := withoutU_c (openF b).1 (by have := rb.1.len; omega)
  have wm := withoutU_c (openF b).2.1 (by have := rb.2.len; omega)
  have ep := equalPu_c (some0U (openF a).1) (some0U (openF b).1) (by have := ra.1.len; have := List.length_filter_le (fun x : Pu => !(x.f1 == 0)) (openF a).1; unfold some0U; omega)
  have en := equalPu_c (some0U (openF a).2.1) (some0U (openF b).2.1) (by have := ra.2.len; have := List.length_filter_le (fun x : Pu => !(x.f1 == 0)) (openF a).2.1; unfold some0U; omega)
  clear hwa hwb ra rb
  obtain ⟨r, hr⟩ : ∃ r, r = equalF a b := ⟨_, rfl⟩
  rw [← hr]
  unfold equalF checkF at hr
  generalize decide (some0U (openF a).1 = some0U (openF b).1) = b1 at *
  generalize decide (some0U (openF a).2.1 = some0U (openF b).2.1) = b2 at *
  generalize some0U (openF a).1 = sp at *
  generalize some0U (openF a).2.1 = sn at *
  generalize some0U (openF b).1 = sq at *
  generalize some0U (openF b).2.1 = sm at *
  generalize openF a = o1 at *
  generalize openF b = o2 at *
  obtain ⟨p, n, ea⟩ := o1
  obtain ⟨q, m, eb⟩ := o2
  simp only at oa ob wp wn wq wm hr
  have HR := Aside0.mk hr
  have OA := Aside0.mk oa
  have OB := Aside0.mk ob
  have NA := Aside0.mk na
  have NB := Aside0.mk nb
  have WP := Aside0.mk wp
  have WN := Aside0.mk wn
  have WQ := Aside0.mk wq
  have WM := Aside0.mk wm
  have EP := Aside0.mk ep
  have EN := Aside0.mk en
  clear hr oa ob na nb wp wn wq wm ep en
  obtain ⟨A5a, c5a, A6a, c6a, A7a, c7a, A8a, c8a, e, -⟩ := hu.open_
  subst e
  obtain ⟨A5b, c5b, A6b, c6b, A7b, c7b, A8b, c8b, e, -⟩ := hv.open_
  subst e
  have B := Aside0.mk (below_alloc (below_alloc (Below.refl w.heap.size w) (.cells #[.int .i64 a.f0, .int .u64 a.f1, .int .u64 a.f2, .int .u64 a.f3, .int .u64 a.f4, .slice A5a a.f5.length c5a, .slice A6a a.f6.length c6a, .slice A7a a.f7.length c7a, .slice A8a a.f8.length c8a] 31)) (.cells #[.int .i64 b.f0, .int .u64 b.f1, .int .u64 b.f2, .int .u64 b.f3, .int .u64 b.f4, .slice A5b b.f5.length c5b, .slice A6b b.f6.length c6b, .slice A7b b.f7.length c7b, .slice A8b b.f8.length c8b] 31))
  have X := Aside0.mk ((Blk.new w #[.int .i64 a.f0, .int .u64 a.f1, .int .u64 a.f2, .int .u64 a.f3, .int .u64 a.f4, .slice A5a a.f5.length c5a, .slice A6a a.f6.length c6a, .slice A7a a.f7.length c7a, .slice A8a a.f8.length c8a] 31).alloc (.cells #[.int .i64 b.f0, .int .u64 b.f1, .int .u64 b.f2, .int .u64 b.f3, .int .u64 b.f4, .slice A5b b.f5.length c5b, .slice A6b b.f6.length c6b, .slice A7b b.f7.length c7b, .slice A8b b.f8.length c8b] 31))
  have Y := Aside0.mk (Blk.at1 (w := w) (.cells #[.int .i64 a.f0, .int .u64 a.f1, .int .u64 a.f2, .int .u64 a.f3, .int .u64 a.f4, .slice A5a a.f5.length c5a, .slice A6a a.f6.length c6a, .slice A7a a.f7.length c7a, .slice A8a a.f8.length c8a] 31) #[.int .i64 b.f0, .int .u64 b.f1, .int .u64 b.f2, .int .u64 b.f3, .int .u64 b.f4, .slice A5b b.f5.length c5b, .slice A6b b.f6.length c6b, .slice A7b b.f7.length c7b, .slice A8b b.f8.length c8b] 31)
  have hx := fun i => X.out.cell i
  have hy := fun i => Y.out.cell i
  have HA := Aside0.mk (hu.below B.out)
  have HC := Aside0.mk (hv.below B.out)
  clear hu hv
  by_cases c1 : ea = 0
  rotate_left
  · have hr : r = false := by rw [HR.out, decide_eq_false c1]; simp
    subst hr
    have d1 : (ea != 0) = true := bne_iff_ne.2 c1
    clear c1
    go_enter Try.func90, Try.ntmps90
    go_wp2_with (first | (go_at_call 101; (with_reducible refine (OA.out _ _ HA.out).mono ?_); rintro e W1 ⟨v0, v1, rfl, h0, h1, hb⟩; replace B := Aside0.mk (below_then B.out B.out.size hb); replace HA := Aside0.mk (HA.out.below hb); replace HC := Aside0.mk (HC.out.below hb); replace X := Aside0.mk (X.out.below hb); replace hx := fun i => X.out.cell i; replace Y := Aside0.mk (Y.out.below hb); replace hy := fun i => Y.out.cell i; have P := Aside0.mk h0; have N := Aside0.mk h1; clear h0 h1 hb) | (go_at_call 101; (with_reducible refine (OB.out _ _ HC.out).mono ?_); rintro e W2 ⟨v2, v3, rfl, h0, h1, hb⟩; replace B := Aside0.mk (below_then B.out B.out.size hb); replace HA := Aside0.mk (HA.out.below hb); replace HC := Aside0.mk (HC.out.below hb); replace P := Aside0.mk (P.out.below hb); replace N := Aside0.mk (N.out.below hb); replace X := Aside0.mk (X.out.below hb); replace hx := fun i => X.out.cell i; replace Y := Aside0.mk (Y.out.below hb); replace hy := fun i => Y.out.cell i; have Q := Aside0.mk h0; have M := Aside0.mk h1; clear h0 h1 hb))
    replace HA := Aside0.mk (HA.out.below (below_drew (Below.refl _ _)))
    replace HC := Aside0.mk (HC.out.below (below_drew (Below.refl _ _)))
    replace P := Aside0.mk (P.out.below (below_drew (Below.refl _ _)))
    replace N := Aside0.mk (N.out.below (below_drew (Below.refl _ _)))
    replace Q := Aside0.mk (Q.out.below (below_drew (Below.refl _ _)))
    replace M := Aside0.mk (M.out.below (below_drew (Below.refl _ _)))
    replace X := Aside0.mk (X.out.below (below_drew (Below.refl _ _)))
    replace Y := Aside0.mk (Y.out.below (below_drew (Below.refl _ _)))
    replace B := Aside0.mk (below_drew B.out)
    go_region
    all_goals go_wp2
    all_goals go_ret
    all_goals exact ⟨rfl, B.out⟩
  subst c1
  by_cases c2 : eb = 0
  rotate_left
  · have hr : r = false := by rw [HR.out, decide_eq_false c2]; simp
    subst hr
    have d1 : (eb != 0) = true := bne_iff_ne.2 c2
    clear c2
    go_enter Try.func90, Try.ntmps90
    go_wp2_with (first | (go_at_call 101; (with_reducible refine (OA.out _ _ HA.out).mono ?_); rintro e W1 ⟨v0, v1, rfl, h0, h1, hb⟩; replace B := Aside0.mk (below_then B.out B.out.size hb); replace HA := Aside0.mk (HA.out.below hb); replace HC := Aside0.mk (HC.out.below hb); replace X := Aside0.mk (X.out.below hb); replace hx := fun i => X.out.cell i; replace Y := Aside0.mk (Y.out.below hb); replace hy := fun i => Y.out.cell i; have P := Aside0.mk h0; have N := Aside0.mk h1; clear h0 h1 hb) | (go_at_call 101; (with_reducible refine (OB.out _ _ HC.out).mono ?_); rintro e W2 ⟨v2, v3, rfl, h0, h1, hb⟩; replace B := Aside0.mk (below_then B.out B.out.size hb); replace HA := Aside0.mk (HA.out.below hb); replace HC := Aside0.mk (HC.out.below hb); replace P := Aside0.mk (P.out.below hb); replace N := Aside0.mk (N.out.below hb); replace X := Aside0.mk (X.out.below hb); replace hx := fun i => X.out.cell i; replace Y := Aside0.mk (Y.out.below hb); replace hy := fun i => Y.out.cell i; have Q := Aside0.mk h0; have M := Aside0.mk h1; clear h0 h1 hb))
    replace HA := Aside0.mk (HA.out.below (below_drew (Below.refl _ _)))
    replace HC := Aside0.mk (HC.out.below (below_drew (Below.refl _ _)))
    replace P := Aside0.mk (P.out.below (below_drew (Below.refl _ _)))
    replace N := Aside0.mk (N.out.below (below_drew (Below.refl _ _)))
    replace Q := Aside0.mk (Q.out.below (below_drew (Below.refl _ _)))
    replace M := Aside0.mk (M.out.below (below_drew (Below.refl _ _)))
    replace X := Aside0.mk (X.out.below (below_drew (Below.refl _ _)))
    replace Y := Aside0.mk (Y.out.below (below_drew (Below.refl _ _)))
    replace B := Aside0.mk (below_drew B.out)
    go_region
    all_goals go_wp2
    all_goals go_ret
    all_goals exact ⟨rfl, B.out⟩
  subst c2
  have hq := eq5_run a b ia ib
  by_cases hs : sameNumsF a b
  rotate_left
  · have hr : r = false := by rw [HR.out, decide_eq_false hs]; simp
    subst hr
    rw [decide_eq_false hs] at hq
    clear hs
    go_enter Try.func90, Try.ntmps90
    go_wp2_with (first | (go_at_call 101; (with_reducible refine (OA.out _ _ HA.out).mono ?_); rintro e W1 ⟨v0, v1, rfl, h0, h1, hb⟩; replace B := Aside0.mk (below_then B.out B.out.size hb); replace HA := Aside0.mk (HA.out.below hb); replace HC := Aside0.mk (HC.out.below hb); replace X := Aside0.mk (X.out.below hb); replace hx := fun i => X.out.cell i; replace Y := Aside0.mk (Y.out.below hb); replace hy := fun i => Y.out.cell i; have P := Aside0.mk h0; have N := Aside0.mk h1; clear h0 h1 hb) | (go_at_call 101; (with_reducible refine (OB.out _ _ HC.out).mono ?_); rintro e W2 ⟨v2, v3, rfl, h0, h1, hb⟩; replace B := Aside0.mk (below_then B.out B.out.size hb); replace HA := Aside0.mk (HA.out.below hb); replace HC := Aside0.mk (HC.out.below hb); replace P := Aside0.mk (P.out.below hb); replace N := Aside0.mk (N.out.below hb); replace X := Aside0.mk (X.out.below hb); replace hx := fun i => X.out.cell i; replace Y := Aside0.mk (Y.out.below hb); replace hy := fun i => Y.out.cell i; have Q := Aside0.mk h0; have M := Aside0.mk h1; clear h0 h1 hb))
    replace HA := Aside0.mk (HA.out.below (below_drew (Below.refl _ _)))
    replace HC := Aside0.mk (HC.out.below (below_drew (Below.refl _ _)))
    replace P := Aside0.mk (P.out.below (below_drew (Below.refl _ _)))
    replace N := Aside0.mk (N.out.below (below_drew (Below.refl _ _)))
    replace Q := Aside0.mk (Q.out.below (below_drew (Below.refl _ _)))
    replace M := Aside0.mk (M.out.below (below_drew (Below.refl _ _)))
    replace X := Aside0.mk (X.out.below (below_drew (Below.refl _ _)))
    replace Y := Aside0.mk (Y.out.below (below_drew (Below.refl _ _)))
    replace B := Aside0.mk (below_drew B.out)
    go_region_held3 (fun W => (∀ i, W.cell? ⟨w.heap.size, i, none⟩ = (#[.int .i64 a.f0, .int .u64 a.f1, .int .u64 a.f2, .int .u64 a.f3, .int .u64 a.f4, .slice A5a a.f5.length c5a, .slice A6a a.f6.length c6a, .slice A7a a.f7.length c7a, .slice A8a a.f8.length c8a] : Array Value)[i]?) ∧ (∀ i, W.cell? ⟨w.heap.size + 1, i, none⟩ = (#[.int .i64 b.f0, .int .u64 b.f1, .int .u64 b.f2, .int .u64 b.f3, .int .u64 b.f4, .slice A5b b.f5.length c5b, .slice A6b b.f6.length c6b, .slice A7b b.f7.length c7b, .slice A8b b.f8.length c8b] : Array Value)[i]?)) (exact ⟨fun i => X.out.cell i, fun i => Y.out.cell i⟩) (first | (go_at_call 117; (with_reducible refine (NA.out _ _ HA.out).mono ?_); rintro e W3 ⟨rfl, hb⟩; replace B := Aside0.mk (below_then B.out B.out.size hb); replace HA := Aside0.mk (HA.out.below hb); replace HC := Aside0.mk (HC.out.below hb); replace P := Aside0.mk (P.out.below hb); replace N := Aside0.mk (N.out.below hb); replace Q := Aside0.mk (Q.out.below hb); replace M := Aside0.mk (M.out.below hb); replace X := Aside0.mk (X.out.below hb); replace hx := fun i => X.out.cell i; replace Y := Aside0.mk (Y.out.below hb); replace hy := fun i => Y.out.cell i; clear  hb) | (go_at_call 117; (with_reducible refine (NB.out _ _ HC.out).mono ?_); rintro e W4 ⟨rfl, hb⟩; replace B := Aside0.mk (below_then B.out B.out.size hb); replace HA := Aside0.mk (HA.out.below hb); replace HC := Aside0.mk (HC.out.below hb); replace P := Aside0.mk (P.out.below hb); replace N := Aside0.mk (N.out.below hb); replace Q := Aside0.mk (Q.out.below hb); replace M := Aside0.mk (M.out.below hb); replace X := Aside0.mk (X.out.below hb); replace hx := fun i => X.out.cell i; replace Y := Aside0.mk (Y.out.below hb); replace hy := fun i => Y.out.cell i; clear  hb))
    all_goals go_wp2
    all_goals go_ret
    all_goals exact ⟨rfl, B.out⟩
  have HS := Aside0.mk hs
  rw [decide_eq_true hs] at hq
  clear hs
  have hr : r = (b1 && b2) := by rw [HR.out, decide_eq_true HS.out]; simp
  cases b1 with
  | false =>
    rw [Bool.false_and] at hr
    subst hr
    go_enter Try.func90, Try.ntmps90
    go_wp2_with (first | (go_at_call 101; (with_reducible refine (OA.out _ _ HA.out).mono ?_); rintro e W1 ⟨v0, v1, rfl, h0, h1, hb⟩; replace B := Aside0.mk (below_then B.out B.out.size hb); replace HA := Aside0.mk (HA.out.below hb); replace HC := Aside0.mk (HC.out.below hb); replace X := Aside0.mk (X.out.below hb); replace hx := fun i => X.out.cell i; replace Y := Aside0.mk (Y.out.below hb); replace hy := fun i => Y.out.cell i; have P := Aside0.mk h0; have N := Aside0.mk h1; clear h0 h1 hb) | (go_at_call 101; (with_reducible refine (OB.out _ _ HC.out).mono ?_); rintro e W2 ⟨v2, v3, rfl, h0, h1, hb⟩; replace B := Aside0.mk (below_then B.out B.out.size hb); replace HA := Aside0.mk (HA.out.below hb); replace HC := Aside0.mk (HC.out.below hb); replace P := Aside0.mk (P.out.below hb); replace N := Aside0.mk (N.out.below hb); replace X := Aside0.mk (X.out.below hb); replace hx := fun i => X.out.cell i; replace Y := Aside0.mk (Y.out.below hb); replace hy := fun i => Y.out.cell i; have Q := Aside0.mk h0; have M := Aside0.mk h1; clear h0 h1 hb))
    replace HA := Aside0.mk (HA.out.below (below_drew (Below.refl _ _)))
    replace HC := Aside0.mk (HC.out.below (below_drew (Below.refl _ _)))
    replace P := Aside0.mk (P.out.below (below_drew (Below.refl _ _)))
    replace N := Aside0.mk (N.out.below (below_drew (Below.refl _ _)))
    replace Q := Aside0.mk (Q.out.below (below_drew (Below.refl _ _)))
    replace M := Aside0.mk (M.out.below (below_drew (Below.refl _ _)))
    replace X := Aside0.mk (X.out.below (below_drew (Below.refl _ _)))
    replace Y := Aside0.mk (Y.out.below (below_drew (Below.refl _ _)))
    replace B := Aside0.mk (below_drew B.out)
    go_region_held3 (fun W => (∀ i, W.cell? ⟨w.heap.size, i, none⟩ = (#[.int .i64 a.f0, .int .u64 a.f1, .int .u64 a.f2, .int .u64 a.f3, .int .u64 a.f4, .slice A5a a.f5.length c5a, .slice A6a a.f6.length c6a, .slice A7a a.f7.length c7a, .slice A8a a.f8.length c8a] : Array Value)[i]?) ∧ (∀ i, W.cell? ⟨w.heap.size + 1, i, none⟩ = (#[.int .i64 b.f0, .int .u64 b.f1, .int .u64 b.f2, .int .u64 b.f3, .int .u64 b.f4, .slice A5b b.f5.length c5b, .slice A6b b.f6.length c6b, .slice A7b b.f7.length c7b, .slice A8b b.f8.length c8b] : Array Value)[i]?)) (exact ⟨fun i => X.out.cell i, fun i => Y.out.cell i⟩) (first | (go_at_call 117; (with_reducible refine (NA.out _ _ HA.out).mono ?_); rintro e W3 ⟨rfl, hb⟩; replace B := Aside0.mk (below_then B.out B.out.size hb); replace HA := Aside0.mk (HA.out.below hb); replace HC := Aside0.mk (HC.out.below hb); replace P := Aside0.mk (P.out.below hb); replace N := Aside0.mk (N.out.below hb); replace Q := Aside0.mk (Q.out.below hb); replace M := Aside0.mk (M.out.below hb); replace X := Aside0.mk (X.out.below hb); replace hx := fun i => X.out.cell i; replace Y := Aside0.mk (Y.out.below hb); replace hy := fun i => Y.out.cell i; clear  hb) | (go_at_call 117; (with_reducible refine (NB.out _ _ HC.out).mono ?_); rintro e W4 ⟨rfl, hb⟩; replace B := Aside0.mk (below_then B.out B.out.size hb); replace HA := Aside0.mk (HA.out.below hb); replace HC := Aside0.mk (HC.out.below hb); replace P := Aside0.mk (P.out.below hb); replace N := Aside0.mk (N.out.below hb); replace Q := Aside0.mk (Q.out.below hb); replace M := Aside0.mk (M.out.below hb); replace X := Aside0.mk (X.out.below hb); replace hx := fun i => X.out.cell i; replace Y := Aside0.mk (Y.out.below hb); replace hy := fun i => Y.out.cell i; clear  hb))
    all_goals go_wp2_with (first | (go_at_call 114; (with_reducible refine (WP.out _ _ P.out).mono ?_); rintro e W5 ⟨x0, rfl, hs, hb⟩; replace B := Aside0.mk (below_then B.out B.out.size hb); replace HA := Aside0.mk (HA.out.below hb); replace HC := Aside0.mk (HC.out.below hb); replace P := Aside0.mk (P.out.below hb); replace N := Aside0.mk (N.out.below hb); replace Q := Aside0.mk (Q.out.below hb); replace M := Aside0.mk (M.out.below hb); replace X := Aside0.mk (X.out.below hb); replace hx := fun i => X.out.cell i; replace Y := Aside0.mk (Y.out.below hb); replace hy := fun i => Y.out.cell i; have S0 := Aside0.mk hs; clear hs hb) | (go_at_call 114; (with_reducible refine (WQ.out _ _ Q.out).mono ?_); rintro e W6 ⟨x1, rfl, hs, hb⟩; replace B := Aside0.mk (below_then B.out B.out.size hb); replace HA := Aside0.mk (HA.out.below hb); replace HC := Aside0.mk (HC.out.below hb); replace P := Aside0.mk (P.out.below hb); replace N := Aside0.mk (N.out.below hb); replace Q := Aside0.mk (Q.out.below hb); replace M := Aside0.mk (M.out.below hb); replace S0 := Aside0.mk (S0.out.below hb); replace X := Aside0.mk (X.out.below hb); replace hx := fun i => X.out.cell i; replace Y := Aside0.mk (Y.out.below hb); replace hy := fun i => Y.out.cell i; have S1 := Aside0.mk hs; clear hs hb) | (go_at_call 118; (with_reducible refine (EP.out _ _ _ S0.out S1.out).mono ?_); rintro e W7 ⟨rfl, hb⟩; replace B := Aside0.mk (below_then B.out B.out.size hb); replace HA := Aside0.mk (HA.out.below hb); replace HC := Aside0.mk (HC.out.below hb); replace P := Aside0.mk (P.out.below hb); replace N := Aside0.mk (N.out.below hb); replace Q := Aside0.mk (Q.out.below hb); replace M := Aside0.mk (M.out.below hb); replace S0 := Aside0.mk (S0.out.below hb); replace S1 := Aside0.mk (S1.out.below hb); replace X := Aside0.mk (X.out.below hb); replace hx := fun i => X.out.cell i; replace Y := Aside0.mk (Y.out.below hb); replace hy := fun i => Y.out.cell i; clear  hb))
    all_goals go_ret
    all_goals exact ⟨rfl, B.out⟩
  | true =>
    rw [Bool.true_and] at hr
    subst hr
    go_enter Try.func90, Try.ntmps90
    go_wp2_with (first | (go_at_call 101; (with_reducible refine (OA.out _ _ HA.out).mono ?_); rintro e W1 ⟨v0, v1, rfl, h0, h1, hb⟩; replace B := Aside0.mk (below_then B.out B.out.size hb); replace HA := Aside0.mk (HA.out.below hb); replace HC := Aside0.mk (HC.out.below hb); replace X := Aside0.mk (X.out.below hb); replace hx := fun i => X.out.cell i; replace Y := Aside0.mk (Y.out.below hb); replace hy := fun i => Y.out.cell i; have P := Aside0.mk h0; have N := Aside0.mk h1; clear h0 h1 hb) | (go_at_call 101; (with_reducible refine (OB.out _ _ HC.out).mono ?_); rintro e W2 ⟨v2, v3, rfl, h0, h1, hb⟩; replace B := Aside0.mk (below_then B.out B.out.size hb); replace HA := Aside0.mk (HA.out.below hb); replace HC := Aside0.mk (HC.out.below hb); replace P := Aside0.mk (P.out.below hb); replace N := Aside0.mk (N.out.below hb); replace X := Aside0.mk (X.out.below hb); replace hx := fun i => X.out.cell i; replace Y := Aside0.mk (Y.out.below hb); replace hy := fun i => Y.out.cell i; have Q := Aside0.mk h0; have M := Aside0.mk h1; clear h0 h1 hb))
    replace HA := Aside0.mk (HA.out.below (below_drew (Below.refl _ _)))
    replace HC := Aside0.mk (HC.out.below (below_drew (Below.refl _ _)))
    replace P := Aside0.mk (P.out.below (below_drew (Below.refl _ _)))
    replace N := Aside0.mk (N.out.below (below_drew (Below.refl _ _)))
    replace Q := Aside0.mk (Q.out.below (below_drew (Below.refl _ _)))
    replace M := Aside0.mk (M.out.below (below_drew (Below.refl _ _)))
    replace X := Aside0.mk (X.out.below (below_drew (Below.refl _ _)))
    replace Y := Aside0.mk (Y.out.below (below_drew (Below.refl _ _)))
    replace B := Aside0.mk (below_drew B.out)
    go_region_held3 (fun W => (∀ i, W.cell? ⟨w.heap.size, i, none⟩ = (#[.int .i64 a.f0, .int .u64 a.f1, .int .u64 a.f2, .int .u64 a.f3, .int .u64 a.f4, .slice A5a a.f5.length c5a, .slice A6a a.f6.length c6a, .slice A7a a.f7.length c7a, .slice A8a a.f8.length c8a] : Array Value)[i]?) ∧ (∀ i, W.cell? ⟨w.heap.size + 1, i, none⟩ = (#[.int .i64 b.f0, .int .u64 b.f1, .int .u64 b.f2, .int .u64 b.f3, .int .u64 b.f4, .slice A5b b.f5.length c5b, .slice A6b b.f6.length c6b, .slice A7b b.f7.length c7b, .slice A8b b.f8.length c8b] : Array Value)[i]?)) (exact ⟨fun i => X.out.cell i, fun i => Y.out.cell i⟩) (first | (go_at_call 117; (with_reducible refine (NA.out _ _ HA.out).mono ?_); rintro e W3 ⟨rfl, hb⟩; replace B := Aside0.mk (below_then B.out B.out.size hb); replace HA := Aside0.mk (HA.out.below hb); replace HC := Aside0.mk (HC.out.below hb); replace P := Aside0.mk (P.out.below hb); replace N := Aside0.mk (N.out.below hb); replace Q := Aside0.mk (Q.out.below hb); replace M := Aside0.mk (M.out.below hb); replace X := Aside0.mk (X.out.below hb); replace hx := fun i => X.out.cell i; replace Y := Aside0.mk (Y.out.below hb); replace hy := fun i => Y.out.cell i; clear  hb) | (go_at_call 117; (with_reducible refine (NB.out _ _ HC.out).mono ?_); rintro e W4 ⟨rfl, hb⟩; replace B := Aside0.mk (below_then B.out B.out.size hb); replace HA := Aside0.mk (HA.out.below hb); replace HC := Aside0.mk (HC.out.below hb); replace P := Aside0.mk (P.out.below hb); replace N := Aside0.mk (N.out.below hb); replace Q := Aside0.mk (Q.out.below hb); replace M := Aside0.mk (M.out.below hb); replace X := Aside0.mk (X.out.below hb); replace hx := fun i => X.out.cell i; replace Y := Aside0.mk (Y.out.below hb); replace hy := fun i => Y.out.cell i; clear  hb))
    all_goals go_wp2_with (first | (go_at_call 114; (with_reducible refine (WP.out _ _ P.out).mono ?_); rintro e W5 ⟨x0, rfl, hs, hb⟩; replace B := Aside0.mk (below_then B.out B.out.size hb); replace HA := Aside0.mk (HA.out.below hb); replace HC := Aside0.mk (HC.out.below hb); replace P := Aside0.mk (P.out.below hb); replace N := Aside0.mk (N.out.below hb); replace Q := Aside0.mk (Q.out.below hb); replace M := Aside0.mk (M.out.below hb); replace X := Aside0.mk (X.out.below hb); replace hx := fun i => X.out.cell i; replace Y := Aside0.mk (Y.out.below hb); replace hy := fun i => Y.out.cell i; have S0 := Aside0.mk hs; clear hs hb) | (go_at_call 114; (with_reducible refine (WQ.out _ _ Q.out).mono ?_); rintro e W6 ⟨x1, rfl, hs, hb⟩; replace B := Aside0.mk (below_then B.out B.out.size hb); replace HA := Aside0.mk (HA.out.below hb); replace HC := Aside0.mk (HC.out.below hb); replace P := Aside0.mk (P.out.below hb); replace N := Aside0.mk (N.out.below hb); replace Q := Aside0.mk (Q.out.below hb); replace M := Aside0.mk (M.out.below hb); replace S0 := Aside0.mk (S0.out.below hb); replace X := Aside0.mk (X.out.below hb); replace hx := fun i => X.out.cell i; replace Y := Aside0.mk (Y.out.below hb); replace hy := fun i => Y.out.cell i; have S1 := Aside0.mk hs; clear hs hb) | (go_at_call 118; (with_reducible refine (EP.out _ _ _ S0.out S1.out).mono ?_); rintro e W7 ⟨rfl, hb⟩; replace B := Aside0.mk (below_then B.out B.out.size hb); replace HA := Aside0.mk (HA.out.below hb); replace HC := Aside0.mk (HC.out.below hb); replace P := Aside0.mk (P.out.below hb); replace N := Aside0.mk (N.out.below hb); replace Q := Aside0.mk (Q.out.below hb); replace M := Aside0.mk (M.out.below hb); replace S0 := Aside0.mk (S0.out.below hb); replace S1 := Aside0.mk (S1.out.below hb); replace X := Aside0.mk (X.out.below hb); replace hx := fun i => X.out.cell i; replace Y := Aside0.mk (Y.out.below hb); replace hy := fun i => Y.out.cell i; clear  hb) | (go_at_call 114; (with_reducible refine (WN.out _ _ N.out).mono ?_); rintro e W8 ⟨x2, rfl, hs, hb⟩; replace B := Aside0.mk (below_then B.out B.out.size hb); replace HA := Aside0.mk (HA.out.below hb); replace HC := Aside0.mk (HC.out.below hb); replace P := Aside0.mk (P.out.below hb); replace N := Aside0.mk (N.out.below hb); replace Q := Aside0.mk (Q.out.below hb); replace M := Aside0.mk (M.out.below hb); replace S0 := Aside0.mk (S0.out.below hb); replace S1 := Aside0.mk (S1.out.below hb); replace X := Aside0.mk (X.out.below hb); replace hx := fun i => X.out.cell i; replace Y := Aside0.mk (Y.out.below hb); replace hy := fun i => Y.out.cell i; have S2 := Aside0.mk hs; clear hs hb) | (go_at_call 114; (with_reducible refine (WM.out _ _ M.out).mono ?_); rintro e W9 ⟨x3, rfl, hs, hb⟩; replace B := Aside0.mk (below_then B.out B.out.size hb); replace HA := Aside0.mk (HA.out.below hb); replace HC := Aside0.mk (HC.out.below hb); replace P := Aside0.mk (P.out.below hb); replace N := Aside0.mk (N.out.below hb); replace Q := Aside0.mk (Q.out.below hb); replace M := Aside0.mk (M.out.below hb); replace S0 := Aside0.mk (S0.out.below hb); replace S1 := Aside0.mk (S1.out.below hb); replace S2 := Aside0.mk (S2.out.below hb); replace X := Aside0.mk (X.out.below hb); replace hx := fun i => X.out.cell i; replace Y := Aside0.mk (Y.out.below hb); replace hy := fun i => Y.out.cell i; have S3 := Aside0.mk hs; clear hs hb) | (go_at_call 118; (with_reducible refine (EN.out _ _ _ S2.out S3.out).mono ?_); rintro e W10 ⟨rfl, hb⟩; replace B := Aside0.mk (below_then B.out B.out.size hb); replace HA := Aside0.mk (HA.out.below hb); replace HC := Aside0.mk (HC.out.below hb); replace P := Aside0.mk (P.out.below hb); replace N := Aside0.mk (N.out.below hb); replace Q := Aside0.mk (Q.out.below hb); replace M := Aside0.mk (M.out.below hb); replace S0 := Aside0.mk (S0.out.below hb); replace S1 := Aside0.mk (S1.out.below hb); replace S2 := Aside0.mk (S2.out.below hb); replace S3 := Aside0.mk (S3.out.below hb); replace X := Aside0.mk (X.out.below hb); replace hx := fun i => X.out.cell i; replace Y := Aside0.mk (Y.out.below hb); replace hy := fun i => Y.out.cell i; clear  hb))
    all_goals go_ret
    all_goals exact ⟨rfl, B.out⟩
end Go.Proofs.Ytfbjjbbhnmoolaa.P
namespace Go.Proofs.Ytfbjjbbhnmoolaa.P
open Go.RowKit Go.Shelf Go.Proofs.YtfbjjbbhnmoolaaW.PrintWords Go.Proofs.YtfbjjbbhnmoolaaW.PrintLast Go.Proofs.YtfbjjbbhnmoolaaW.PrintMore
theorem FI.below {α : Type} {d : Kd α} {base : Nat} {w w' : World} {v : Value} {l : List α} (h : FI d base w v l) (hb : Below w.heap.size w w') : FI d base w' v l := h.step (KA.below hb)
def overEF (h : Fh) (pos neg : List Sp) : Int := if checkF h = 0 then (if spCheck pos = 0 then spCheck neg else spCheck pos) else checkF h
def overF (h : Fh) (pos neg : List Sp) : Fh × Int := if overEF h pos neg ≠ 0 then (emptyF, overEF h pos neg)
  else if (spreadF (openF h).1 pos).2 && (spreadF (openF h).2.1 neg).2 then (⟨h.f0, h.f1, h.f2, h.f3, h.f4, pos, neg, (spreadF (openF h).1 pos).1, (spreadF (openF h).2.1 neg).1⟩, 0) else (emptyF, 23)
set_option maxHeartbeats 16000000 in
set_option maxRecDepth 100000 in
theorem fover_c (h : Fh) (hw : wfF h) (pos neg : List Sp) (hwp : wfSps pos) (hwn : wfSps neg) (w : World) (v vp vn : Value) (hv : GI w v h) (hvp : SI kSp w vp pos) (hvn : SI kSp w vn neg) : Calls Try.prog 89 #[v, vp, vn] w fun e w' =>
    ∃ v', e = .returned (.tuple #[v', .int .i64 (overF h pos neg).2]) ∧ GF w.heap.size w' v' (overF h pos neg).1 ∧ Below w.heap.size w w' := by
  have hud := Try.underlying31
  obtain ⟨A5, c5, A6, c6, A7, c7, A8, c8, e, -⟩ := hv.open_
  subst e
  have hvp' := hvp
  have hvn' := hvn
  obtain ⟨a1, g1, e1, -⟩ := hvp'; subst e1
  obtain ⟨a2, g2, e2, -⟩ := hvn'; subst e2
  have ho := fopen_f h hw
  have kp := spanCheck_c pos hwp
  have kn := spanCheck_c neg hwn
  have hrow := openF_row hw
  have hs1 := fun (hk : spCheck pos = 0) => fspread_c (openF h).1 pos hwp hk hrow.1.len
  have hs2 := fun (hk : spCheck neg = 0) => fspread_c (openF h).2.1 neg hwn hk hrow.2.len
  have hc1 := fun (hk : spCheck pos = 0) => cloneSp_c pos (by have := (spCheck_zero hk).1; omega)
  have hc2 := fun (hk : spCheck neg = 0) => cloneSp_c neg (by have := (spCheck_zero hk).1; omega)
  have SP := Aside0.mk hvp
  have SN := Aside0.mk hvn
  have he : ∀ (e0 : Int), checkF h = e0 → overEF h pos neg = if e0 = 0 then (if spCheck pos = 0 then spCheck neg else spCheck pos) else e0 := fun e0 q => by subst q; rfl
  have B := Aside0.mk (below_alloc (below_alloc (Below.refl w.heap.size w) (.cells #[.int .i64 h.f0, .int .u64 h.f1, .int .u64 h.f2, .int .u64 h.f3, .int .u64 h.f4, .slice A5 h.f5.length c5, .slice A6 h.f6.length c6, .slice A7 h.f7.length c7, .slice A8 h.f8.length c8] 31)) (.cells #[.int .i64 0, .int .u64 0, .int .u64 0, .int .u64 0, .int .u64 0, .slice none 0 0, .slice none 0 0, .slice none 0 0, .slice none 0 0] 31))
  have X := Aside0.mk ((Blk.new w #[.int .i64 h.f0, .int .u64 h.f1, .int .u64 h.f2, .int .u64 h.f3, .int .u64 h.f4, .slice A5 h.f5.length c5, .slice A6 h.f6.length c6, .slice A7 h.f7.length c7, .slice A8 h.f8.length c8] 31).alloc (.cells #[.int .i64 0, .int .u64 0, .int .u64 0, .int .u64 0, .int .u64 0, .slice none 0 0, .slice none 0 0, .slice none 0 0, .slice none 0 0] 31))
  have Y := Aside0.mk (Blk.at1 (w := w) (.cells #[.int .i64 h.f0, .int .u64 h.f1, .int .u64 h.f2, .int .u64 h.f3, .int .u64 h.f4, .slice A5 h.f5.length c5, .slice A6 h.f6.length c6, .slice A7 h.f7.length c7, .slice A8 h.f8.length c8] 31) #[.int .i64 0, .int .u64 0, .int .u64 0, .int .u64 0, .int .u64 0, .slice none 0 0, .slice none 0 0, .slice none 0 0, .slice none 0 0] 31)
  have hx := fun i => X.out.cell i
  have hy := fun i => Y.out.cell i
  have zx := fun i => blk_frozen X.out i
  have zy := fun i => blk_frozen Y.out i
  have HV := Aside0.mk (hv.below B.out)
  clear hv hvp hvn hw hwp hwn hrow
  obtain ⟨⟨rh, re⟩, hr⟩ : ∃ r, r = overF h pos neg := ⟨_, rfl⟩
  rw [← hr]
  unfold overF at hr
  have hce : checkF h = (openF h).2.2 := rfl
  rw [he _ hce] at hr
  clear he hce
  generalize spreadF (openF h).1 pos = ru at *
  generalize spreadF (openF h).2.1 neg = rn at *
  generalize openF h = oo at *
  obtain ⟨p, n, e0⟩ := oo
  obtain ⟨du, up⟩ := ru
  obtain ⟨dn, down⟩ := rn
  simp only at ho hs1 hs2 hr ⊢
  generalize spCheck pos = ep at *
  generalize spCheck neg = en at *
  have HO := Aside0.mk ho
  have KP := Aside0.mk kp
  have KN := Aside0.mk kn
  clear ho kp kn
  by_cases c0 : e0 = 0
  rotate_left
  · rw [if_neg c0, if_pos c0] at hr
    injection hr with r1 r2
    subst r1; subst r2
    have d0 : (re == 0) = false := beq_eq_false_iff_ne.2 c0
    have d1 : (re != 0) = true := bne_iff_ne.2 c0
    clear c0 hs1 hs2 hc1 hc2
    go_enter Try.func89, Try.ntmps89
    go_wp2_with (first | (go_at_call 101; (with_reducible refine (HO.out _ _ HV.out).mono ?_); rintro e W1 ⟨v0, v1, rfl, h0, h1, hb⟩; replace B := Aside0.mk (below_then B.out B.out.size hb); replace X := Aside0.mk (X.out.below hb); replace hx := fun i => X.out.cell i; replace zx := fun i => blk_frozen X.out i; replace Y := Aside0.mk (Y.out.below hb); replace hy := fun i => Y.out.cell i; replace zy := fun i => blk_frozen Y.out i; have P := Aside0.mk (show FI kPu (w.heap.size + 1 + 1) W1 v0 p by simpa using h0); have N := Aside0.mk (show FI kPu (w.heap.size + 1 + 1) W1 v1 n by simpa using h1); clear h0 h1 hb))
    refine bodyPost_ret (results_ct rfl _ _ (w.heap.size + 1) 31 #[.int .i64 0, .int .u64 0, .int .u64 0, .int .u64 0, .int .u64 0, .slice none 0 0, .slice none 0 0, .slice none 0 0, .slice none 0 0] (0, 0) _ rfl (nine (Y.out) _ _ _ _ _ _ _ _ _) Try.underlying31 rfl (by kernel_rfl)) rfl ?_
    exact ⟨_, rfl, GF.empty _ _, nine_below B.out (by omega) _ _ _ _ _ _ _ _ _⟩
  subst c0
  rw [if_pos rfl] at hr
  by_cases c1 : ep = 0
  rotate_left
  · rw [if_neg c1, if_pos c1] at hr
    injection hr with r1 r2
    subst r1; subst r2
    have d0 : (re == 0) = false := beq_eq_false_iff_ne.2 c1
    have d1 : (re != 0) = true := bne_iff_ne.2 c1
    clear c1 hs1 hs2 hc1 hc2
    go_enter Try.func89, Try.ntmps89
    go_wp2_with (first | (go_at_call 101; (with_reducible refine (HO.out _ _ HV.out).mono ?_); rintro e W1 ⟨v0, v1, rfl, h0, h1, hb⟩; replace B := Aside0.mk (below_then B.out B.out.size hb); replace X := Aside0.mk (X.out.below hb); replace hx := fun i => X.out.cell i; replace zx := fun i => blk_frozen X.out i; replace Y := Aside0.mk (Y.out.below hb); replace hy := fun i => Y.out.cell i; replace zy := fun i => blk_frozen Y.out i; have P := Aside0.mk (show FI kPu (w.heap.size + 1 + 1) W1 v0 p by simpa using h0); have N := Aside0.mk (show FI kPu (w.heap.size + 1 + 1) W1 v1 n by simpa using h1); clear h0 h1 hb) | (go_at_call 104; (with_reducible refine (KP.out _ _ (SP.out.below B.out)).mono ?_); rintro e W2 ⟨rfl, hb⟩; replace B := Aside0.mk (below_then B.out B.out.size hb); replace P := Aside0.mk (P.out.below hb); replace N := Aside0.mk (N.out.below hb); replace X := Aside0.mk (X.out.below hb); replace hx := fun i => X.out.cell i; replace zx := fun i => blk_frozen X.out i; replace Y := Aside0.mk (Y.out.below hb); replace hy := fun i => Y.out.cell i; replace zy := fun i => blk_frozen Y.out i; clear  hb))
    refine bodyPost_ret (results_ct rfl _ _ (w.heap.size + 1) 31 #[.int .i64 0, .int .u64 0, .int .u64 0, .int .u64 0, .int .u64 0, .slice none 0 0, .slice none 0 0, .slice none 0 0, .slice none 0 0] (0, 0) _ rfl (nine (Y.out) _ _ _ _ _ _ _ _ _) Try.underlying31 rfl (by kernel_rfl)) rfl ?_
    exact ⟨_, rfl, GF.empty _ _, nine_below B.out (by omega) _ _ _ _ _ _ _ _ _⟩
  subst c1
  rw [if_pos rfl] at hr
  have HS1 := Aside0.mk (hs1 rfl)
  have HC1 := Aside0.mk (hc1 rfl)
  by_cases c2 : en = 0
  rotate_left
  · rw [if_pos c2] at hr
    injection hr with r1 r2
    subst r1; subst r2
    have d1 : (re != 0) = true := bne_iff_ne.2 c2
    clear c2 hs1 hs2 hc1 hc2
    go_enter Try.func89, Try.ntmps89
    go_wp2_with (first | (go_at_call 101; (with_reducible refine (HO.out _ _ HV.out).mono ?_); rintro e W1 ⟨v0, v1, rfl, h0, h1, hb⟩; replace B := Aside0.mk (below_then B.out B.out.size hb); replace X := Aside0.mk (X.out.below hb); replace hx := fun i => X.out.cell i; replace zx := fun i => blk_frozen X.out i; replace Y := Aside0.mk (Y.out.below hb); replace hy := fun i => Y.out.cell i; replace zy := fun i => blk_frozen Y.out i; have P := Aside0.mk (show FI kPu (w.heap.size + 1 + 1) W1 v0 p by simpa using h0); have N := Aside0.mk (show FI kPu (w.heap.size + 1 + 1) W1 v1 n by simpa using h1); clear h0 h1 hb) | (go_at_call 104; (with_reducible refine (KP.out _ _ (SP.out.below B.out)).mono ?_); rintro e W2 ⟨rfl, hb⟩; replace B := Aside0.mk (below_then B.out B.out.size hb); replace P := Aside0.mk (P.out.below hb); replace N := Aside0.mk (N.out.below hb); replace X := Aside0.mk (X.out.below hb); replace hx := fun i => X.out.cell i; replace zx := fun i => blk_frozen X.out i; replace Y := Aside0.mk (Y.out.below hb); replace hy := fun i => Y.out.cell i; replace zy := fun i => blk_frozen Y.out i; clear  hb) | (go_at_call 104; (with_reducible refine (KN.out _ _ (SN.out.below B.out)).mono ?_); rintro e W3 ⟨rfl, hb⟩; replace B := Aside0.mk (below_then B.out B.out.size hb); replace P := Aside0.mk (P.out.below hb); replace N := Aside0.mk (N.out.below hb); replace X := Aside0.mk (X.out.below hb); replace hx := fun i => X.out.cell i; replace zx := fun i => blk_frozen X.out i; replace Y := Aside0.mk (Y.out.below hb); replace hy := fun i => Y.out.cell i; replace zy := fun i => blk_frozen Y.out i; clear  hb))
    refine bodyPost_ret (results_ct rfl _ _ (w.heap.size + 1) 31 #[.int .i64 0, .int .u64 0, .int .u64 0, .int .u64 0, .int .u64 0, .slice none 0 0, .slice none 0 0, .slice none 0 0, .slice none 0 0] (0, 0) _ rfl (nine (Y.out) _ _ _ _ _ _ _ _ _) Try.underlying31 rfl (by kernel_rfl)) rfl ?_
    exact ⟨_, rfl, GF.empty _ _, nine_below B.out (by omega) _ _ _ _ _ _ _ _ _⟩
  subst c2
  have HS2 := Aside0.mk (hs2 rfl)
  have HC2 := Aside0.mk (hc2 rfl)
  rw [if_neg (by simp)] at hr
  clear hs1 hs2 hc1 hc2
  cases up with
  | false =>
    simp only [Bool.false_and, Bool.false_eq_true, if_false] at hr
    injection hr with r1 r2
    subst r1; subst r2
    go_enter Try.func89, Try.ntmps89
    go_wp2_with (first | (go_at_call 101; (with_reducible refine (HO.out _ _ HV.out).mono ?_); rintro e W1 ⟨v0, v1, rfl, h0, h1, hb⟩; replace B := Aside0.mk (below_then B.out B.out.size hb); replace X := Aside0.mk (X.out.below hb); replace hx := fun i => X.out.cell i; replace zx := fun i => blk_frozen X.out i; replace Y := Aside0.mk (Y.out.below hb); replace hy := fun i => Y.out.cell i; replace zy := fun i => blk_frozen Y.out i; have P := Aside0.mk (show FI kPu (w.heap.size + 1 + 1) W1 v0 p by simpa using h0); have N := Aside0.mk (show FI kPu (w.heap.size + 1 + 1) W1 v1 n by simpa using h1); clear h0 h1 hb) | (go_at_call 104; (with_reducible refine (KP.out _ _ (SP.out.below B.out)).mono ?_); rintro e W2 ⟨rfl, hb⟩; replace B := Aside0.mk (below_then B.out B.out.size hb); replace P := Aside0.mk (P.out.below hb); replace N := Aside0.mk (N.out.below hb); replace X := Aside0.mk (X.out.below hb); replace hx := fun i => X.out.cell i; replace zx := fun i => blk_frozen X.out i; replace Y := Aside0.mk (Y.out.below hb); replace hy := fun i => Y.out.cell i; replace zy := fun i => blk_frozen Y.out i; clear  hb) | (go_at_call 104; (with_reducible refine (KN.out _ _ (SN.out.below B.out)).mono ?_); rintro e W3 ⟨rfl, hb⟩; replace B := Aside0.mk (below_then B.out B.out.size hb); replace P := Aside0.mk (P.out.below hb); replace N := Aside0.mk (N.out.below hb); replace X := Aside0.mk (X.out.below hb); replace hx := fun i => X.out.cell i; replace zx := fun i => blk_frozen X.out i; replace Y := Aside0.mk (Y.out.below hb); replace hy := fun i => Y.out.cell i; replace zy := fun i => blk_frozen Y.out i; clear  hb) | (go_at_call 116; (with_reducible refine (HS1.out _ _ _ P.out.now (SP.out.below B.out)).mono ?_); have hsz : w.heap.size + 1 + 1 ≤ W3.heap.size := blk_lt Y.out; rintro e W4 ⟨q0, rfl, hq, hb⟩; replace B := Aside0.mk (below_then B.out B.out.size hb); replace P := Aside0.mk (P.out.below hb); replace N := Aside0.mk (N.out.below hb); replace X := Aside0.mk (X.out.below hb); replace hx := fun i => X.out.cell i; replace zx := fun i => blk_frozen X.out i; replace Y := Aside0.mk (Y.out.below hb); replace hy := fun i => Y.out.cell i; replace zy := fun i => blk_frozen Y.out i; have Q0 := Aside0.mk (show FI (Kd.int .u64) (w.heap.size + 1 + 1) W4 q0 du from hq.lower hsz); have hq' := Q0.out.slice; obtain ⟨B0, d0, eq0⟩ := hq'; subst eq0; clear hq hb) | (go_at_call 116; replace B := Aside0.mk (B.out.set1 (g := w.heap.size) (i := 7) (u := .slice B0 du.length d0) (Nat.le_refl _)); replace X := Aside0.mk (show Blk (W4.setCell ⟨w.heap.size, 7, none⟩ (.slice B0 du.length d0)) w.heap.size #[.int .i64 h.f0, .int .u64 h.f1, .int .u64 h.f2, .int .u64 h.f3, .int .u64 h.f4, .slice A5 h.f5.length c5, .slice A6 h.f6.length c6, .slice B0 du.length d0, .slice A8 h.f8.length c8] 31 from blk_put X.out 7 (.slice B0 du.length d0) rfl); replace Y := Aside0.mk (show Blk (W4.setCell ⟨w.heap.size, 7, none⟩ (.slice B0 du.length d0)) (w.heap.size + 1) #[.int .i64 0, .int .u64 0, .int .u64 0, .int .u64 0, .int .u64 0, .slice none 0 0, .slice none 0 0, .slice none 0 0, .slice none 0 0] 31 from blk_far Y.out (by show w.heap.size + 1 ≠ w.heap.size; omega) (.slice B0 du.length d0)); replace P := Aside0.mk (P.out.step (KA.set (i := 7) _ (by omega : w.heap.size < w.heap.size + 1 + 1) (.slice B0 du.length d0))); replace N := Aside0.mk (N.out.step (KA.set (i := 7) _ (by omega : w.heap.size < w.heap.size + 1 + 1) (.slice B0 du.length d0))); replace Q0 := Aside0.mk (Q0.out.step (KA.set (i := 7) _ (by omega : w.heap.size < w.heap.size + 1 + 1) (.slice B0 du.length d0))); (with_reducible refine (HS2.out _ _ _ N.out.now (SN.out.below B.out)).mono ?_); have hsz := blk_lt Y.out; rintro e W5 ⟨q1, rfl, hq, hb⟩; replace B := Aside0.mk (below_then B.out B.out.size hb); replace P := Aside0.mk (P.out.below hb); replace N := Aside0.mk (N.out.below hb); replace Q0 := Aside0.mk (Q0.out.below hb); replace X := Aside0.mk (X.out.below hb); replace hx := fun i => X.out.cell i; replace zx := fun i => blk_frozen X.out i; replace Y := Aside0.mk (Y.out.below hb); replace hy := fun i => Y.out.cell i; replace zy := fun i => blk_frozen Y.out i; have Q1 := Aside0.mk (show FI (Kd.int .u64) (w.heap.size + 1 + 1) W5 q1 dn from hq.lower (by simp [World.setCell] at hsz ⊢; omega)); have hq' := Q1.out.slice; obtain ⟨B1, d1, eq1⟩ := hq'; subst eq1; clear hq hb))
    refine bodyPost_ret (results_ct rfl _ _ (w.heap.size + 1) 31 #[.int .i64 0, .int .u64 0, .int .u64 0, .int .u64 0, .int .u64 0, .slice none 0 0, .slice none 0 0, .slice none 0 0, .slice none 0 0] (0, 0) _ rfl (nine (blk_far (p := ⟨w.heap.size, 8, none⟩) (Y.out) (by show w.heap.size + 1 ≠ w.heap.size; omega) _) _ _ _ _ _ _ _ _ _) Try.underlying31 rfl (by kernel_rfl)) rfl ?_
    exact ⟨_, rfl, GF.empty _ _, nine_below (B.out.set1 (Nat.le_refl _)) (by omega) _ _ _ _ _ _ _ _ _⟩
  | true =>
    cases down with
    | false =>
      simp only [Bool.and_false, Bool.false_eq_true, if_false] at hr
      injection hr with r1 r2
      subst r1; subst r2
      go_enter Try.func89, Try.ntmps89
      go_wp2_with (first | (go_at_call 101; (with_reducible refine (HO.out _ _ HV.out).mono ?_); rintro e W1 ⟨v0, v1, rfl, h0, h1, hb⟩; replace B := Aside0.mk (below_then B.out B.out.size hb); replace X := Aside0.mk (X.out.below hb); replace hx := fun i => X.out.cell i; replace zx := fun i => blk_frozen X.out i; replace Y := Aside0.mk (Y.out.below hb); replace hy := fun i => Y.out.cell i; replace zy := fun i => blk_frozen Y.out i; have P := Aside0.mk (show FI kPu (w.heap.size + 1 + 1) W1 v0 p by simpa using h0); have N := Aside0.mk (show FI kPu (w.heap.size + 1 + 1) W1 v1 n by simpa using h1); clear h0 h1 hb) | (go_at_call 104; (with_reducible refine (KP.out _ _ (SP.out.below B.out)).mono ?_); rintro e W2 ⟨rfl, hb⟩; replace B := Aside0.mk (below_then B.out B.out.size hb); replace P := Aside0.mk (P.out.below hb); replace N := Aside0.mk (N.out.below hb); replace X := Aside0.mk (X.out.below hb); replace hx := fun i => X.out.cell i; replace zx := fun i => blk_frozen X.out i; replace Y := Aside0.mk (Y.out.below hb); replace hy := fun i => Y.out.cell i; replace zy := fun i => blk_frozen Y.out i; clear  hb) | (go_at_call 104; (with_reducible refine (KN.out _ _ (SN.out.below B.out)).mono ?_); rintro e W3 ⟨rfl, hb⟩; replace B := Aside0.mk (below_then B.out B.out.size hb); replace P := Aside0.mk (P.out.below hb); replace N := Aside0.mk (N.out.below hb); replace X := Aside0.mk (X.out.below hb); replace hx := fun i => X.out.cell i; replace zx := fun i => blk_frozen X.out i; replace Y := Aside0.mk (Y.out.below hb); replace hy := fun i => Y.out.cell i; replace zy := fun i => blk_frozen Y.out i; clear  hb) | (go_at_call 116; (with_reducible refine (HS1.out _ _ _ P.out.now (SP.out.below B.out)).mono ?_); have hsz : w.heap.size + 1 + 1 ≤ W3.heap.size := blk_lt Y.out; rintro e W4 ⟨q0, rfl, hq, hb⟩; replace B := Aside0.mk (below_then B.out B.out.size hb); replace P := Aside0.mk (P.out.below hb); replace N := Aside0.mk (N.out.below hb); replace X := Aside0.mk (X.out.below hb); replace hx := fun i => X.out.cell i; replace zx := fun i => blk_frozen X.out i; replace Y := Aside0.mk (Y.out.below hb); replace hy := fun i => Y.out.cell i; replace zy := fun i => blk_frozen Y.out i; have Q0 := Aside0.mk (show FI (Kd.int .u64) (w.heap.size + 1 + 1) W4 q0 du from hq.lower hsz); have hq' := Q0.out.slice; obtain ⟨B0, d0, eq0⟩ := hq'; subst eq0; clear hq hb) | (go_at_call 116; replace B := Aside0.mk (B.out.set1 (g := w.heap.size) (i := 7) (u := .slice B0 du.length d0) (Nat.le_refl _)); replace X := Aside0.mk (show Blk (W4.setCell ⟨w.heap.size, 7, none⟩ (.slice B0 du.length d0)) w.heap.size #[.int .i64 h.f0, .int .u64 h.f1, .int .u64 h.f2, .int .u64 h.f3, .int .u64 h.f4, .slice A5 h.f5.length c5, .slice A6 h.f6.length c6, .slice B0 du.length d0, .slice A8 h.f8.length c8] 31 from blk_put X.out 7 (.slice B0 du.length d0) rfl); replace Y := Aside0.mk (show Blk (W4.setCell ⟨w.heap.size, 7, none⟩ (.slice B0 du.length d0)) (w.heap.size + 1) #[.int .i64 0, .int .u64 0, .int .u64 0, .int .u64 0, .int .u64 0, .slice none 0 0, .slice none 0 0, .slice none 0 0, .slice none 0 0] 31 from blk_far Y.out (by show w.heap.size + 1 ≠ w.heap.size; omega) (.slice B0 du.length d0)); replace P := Aside0.mk (P.out.step (KA.set (i := 7) _ (by omega : w.heap.size < w.heap.size + 1 + 1) (.slice B0 du.length d0))); replace N := Aside0.mk (N.out.step (KA.set (i := 7) _ (by omega : w.heap.size < w.heap.size + 1 + 1) (.slice B0 du.length d0))); replace Q0 := Aside0.mk (Q0.out.step (KA.set (i := 7) _ (by omega : w.heap.size < w.heap.size + 1 + 1) (.slice B0 du.length d0))); (with_reducible refine (HS2.out _ _ _ N.out.now (SN.out.below B.out)).mono ?_); have hsz := blk_lt Y.out; rintro e W5 ⟨q1, rfl, hq, hb⟩; replace B := Aside0.mk (below_then B.out B.out.size hb); replace P := Aside0.mk (P.out.below hb); replace N := Aside0.mk (N.out.below hb); replace Q0 := Aside0.mk (Q0.out.below hb); replace X := Aside0.mk (X.out.below hb); replace hx := fun i => X.out.cell i; replace zx := fun i => blk_frozen X.out i; replace Y := Aside0.mk (Y.out.below hb); replace hy := fun i => Y.out.cell i; replace zy := fun i => blk_frozen Y.out i; have Q1 := Aside0.mk (show FI (Kd.int .u64) (w.heap.size + 1 + 1) W5 q1 dn from hq.lower (by simp [World.setCell] at hsz ⊢; omega)); have hq' := Q1.out.slice; obtain ⟨B1, d1, eq1⟩ := hq'; subst eq1; clear hq hb))
      refine bodyPost_ret (results_ct rfl _ _ (w.heap.size + 1) 31 #[.int .i64 0, .int .u64 0, .int .u64 0, .int .u64 0, .int .u64 0, .slice none 0 0, .slice none 0 0, .slice none 0 0, .slice none 0 0] (0, 0) _ rfl (nine (blk_far (p := ⟨w.heap.size, 8, none⟩) (Y.out) (by show w.heap.size + 1 ≠ w.heap.size; omega) _) _ _ _ _ _ _ _ _ _) Try.underlying31 rfl (by kernel_rfl)) rfl ?_
      exact ⟨_, rfl, GF.empty _ _, nine_below (B.out.set1 (Nat.le_refl _)) (by omega) _ _ _ _ _ _ _ _ _⟩
    | true =>
      simp only [Bool.and_true, if_true] at hr
      injection hr with r1 r2
      subst r1; subst r2
      go_enter Try.func89, Try.ntmps89
      go_wp2_with (first | (go_at_call 101; (with_reducible refine (HO.out _ _ HV.out).mono ?_); rintro e W1 ⟨v0, v1, rfl, h0, h1, hb⟩; replace B := Aside0.mk (below_then B.out B.out.size hb); replace X := Aside0.mk (X.out.below hb); replace hx := fun i => X.out.cell i; replace zx := fun i => blk_frozen X.out i; replace Y := Aside0.mk (Y.out.below hb); replace hy := fun i => Y.out.cell i; replace zy := fun i => blk_frozen Y.out i; have P := Aside0.mk (show FI kPu (w.heap.size + 1 + 1) W1 v0 p by simpa using h0); have N := Aside0.mk (show FI kPu (w.heap.size + 1 + 1) W1 v1 n by simpa using h1); clear h0 h1 hb) | (go_at_call 104; (with_reducible refine (KP.out _ _ (SP.out.below B.out)).mono ?_); rintro e W2 ⟨rfl, hb⟩; replace B := Aside0.mk (below_then B.out B.out.size hb); replace P := Aside0.mk (P.out.below hb); replace N := Aside0.mk (N.out.below hb); replace X := Aside0.mk (X.out.below hb); replace hx := fun i => X.out.cell i; replace zx := fun i => blk_frozen X.out i; replace Y := Aside0.mk (Y.out.below hb); replace hy := fun i => Y.out.cell i; replace zy := fun i => blk_frozen Y.out i; clear  hb) | (go_at_call 104; (with_reducible refine (KN.out _ _ (SN.out.below B.out)).mono ?_); rintro e W3 ⟨rfl, hb⟩; replace B := Aside0.mk (below_then B.out B.out.size hb); replace P := Aside0.mk (P.out.below hb); replace N := Aside0.mk (N.out.below hb); replace X := Aside0.mk (X.out.below hb); replace hx := fun i => X.out.cell i; replace zx := fun i => blk_frozen X.out i; replace Y := Aside0.mk (Y.out.below hb); replace hy := fun i => Y.out.cell i; replace zy := fun i => blk_frozen Y.out i; clear  hb) | (go_at_call 116; (with_reducible refine (HS1.out _ _ _ P.out.now (SP.out.below B.out)).mono ?_); have hsz : w.heap.size + 1 + 1 ≤ W3.heap.size := blk_lt Y.out; rintro e W4 ⟨q0, rfl, hq, hb⟩; replace B := Aside0.mk (below_then B.out B.out.size hb); replace P := Aside0.mk (P.out.below hb); replace N := Aside0.mk (N.out.below hb); replace X := Aside0.mk (X.out.below hb); replace hx := fun i => X.out.cell i; replace zx := fun i => blk_frozen X.out i; replace Y := Aside0.mk (Y.out.below hb); replace hy := fun i => Y.out.cell i; replace zy := fun i => blk_frozen Y.out i; have Q0 := Aside0.mk (show FI (Kd.int .u64) (w.heap.size + 1 + 1) W4 q0 du from hq.lower hsz); have hq' := Q0.out.slice; obtain ⟨B0, d0, eq0⟩ := hq'; subst eq0; clear hq hb) | (go_at_call 116; replace B := Aside0.mk (B.out.set1 (g := w.heap.size) (i := 7) (u := .slice B0 du.length d0) (Nat.le_refl _)); replace X := Aside0.mk (show Blk (W4.setCell ⟨w.heap.size, 7, none⟩ (.slice B0 du.length d0)) w.heap.size #[.int .i64 h.f0, .int .u64 h.f1, .int .u64 h.f2, .int .u64 h.f3, .int .u64 h.f4, .slice A5 h.f5.length c5, .slice A6 h.f6.length c6, .slice B0 du.length d0, .slice A8 h.f8.length c8] 31 from blk_put X.out 7 (.slice B0 du.length d0) rfl); replace Y := Aside0.mk (show Blk (W4.setCell ⟨w.heap.size, 7, none⟩ (.slice B0 du.length d0)) (w.heap.size + 1) #[.int .i64 0, .int .u64 0, .int .u64 0, .int .u64 0, .int .u64 0, .slice none 0 0, .slice none 0 0, .slice none 0 0, .slice none 0 0] 31 from blk_far Y.out (by show w.heap.size + 1 ≠ w.heap.size; omega) (.slice B0 du.length d0)); replace P := Aside0.mk (P.out.step (KA.set (i := 7) _ (by omega : w.heap.size < w.heap.size + 1 + 1) (.slice B0 du.length d0))); replace N := Aside0.mk (N.out.step (KA.set (i := 7) _ (by omega : w.heap.size < w.heap.size + 1 + 1) (.slice B0 du.length d0))); replace Q0 := Aside0.mk (Q0.out.step (KA.set (i := 7) _ (by omega : w.heap.size < w.heap.size + 1 + 1) (.slice B0 du.length d0))); (with_reducible refine (HS2.out _ _ _ N.out.now (SN.out.below B.out)).mono ?_); have hsz := blk_lt Y.out; rintro e W5 ⟨q1, rfl, hq, hb⟩; replace B := Aside0.mk (below_then B.out B.out.size hb); replace P := Aside0.mk (P.out.below hb); replace N := Aside0.mk (N.out.below hb); replace Q0 := Aside0.mk (Q0.out.below hb); replace X := Aside0.mk (X.out.below hb); replace hx := fun i => X.out.cell i; replace zx := fun i => blk_frozen X.out i; replace Y := Aside0.mk (Y.out.below hb); replace hy := fun i => Y.out.cell i; replace zy := fun i => blk_frozen Y.out i; have Q1 := Aside0.mk (show FI (Kd.int .u64) (w.heap.size + 1 + 1) W5 q1 dn from hq.lower (by simp [World.setCell] at hsz ⊢; omega)); have hq' := Q1.out.slice; obtain ⟨B1, d1, eq1⟩ := hq'; subst eq1; clear hq hb) | (go_at_call 51; replace B := Aside0.mk (B.out.set1 (g := w.heap.size) (i := 8) (u := .slice B1 dn.length d1) (Nat.le_refl _)); replace X := Aside0.mk (show Blk (W5.setCell ⟨w.heap.size, 8, none⟩ (.slice B1 dn.length d1)) w.heap.size #[.int .i64 h.f0, .int .u64 h.f1, .int .u64 h.f2, .int .u64 h.f3, .int .u64 h.f4, .slice A5 h.f5.length c5, .slice A6 h.f6.length c6, .slice B0 du.length d0, .slice B1 dn.length d1] 31 from blk_put X.out 8 (.slice B1 dn.length d1) rfl); replace Y := Aside0.mk (show Blk (W5.setCell ⟨w.heap.size, 8, none⟩ (.slice B1 dn.length d1)) (w.heap.size + 1) #[.int .i64 0, .int .u64 0, .int .u64 0, .int .u64 0, .int .u64 0, .slice none 0 0, .slice none 0 0, .slice none 0 0, .slice none 0 0] 31 from blk_far Y.out (by show w.heap.size + 1 ≠ w.heap.size; omega) (.slice B1 dn.length d1)); replace P := Aside0.mk (P.out.step (KA.set (i := 8) _ (by omega : w.heap.size < w.heap.size + 1 + 1) (.slice B1 dn.length d1))); replace N := Aside0.mk (N.out.step (KA.set (i := 8) _ (by omega : w.heap.size < w.heap.size + 1 + 1) (.slice B1 dn.length d1))); replace Q0 := Aside0.mk (Q0.out.step (KA.set (i := 8) _ (by omega : w.heap.size < w.heap.size + 1 + 1) (.slice B1 dn.length d1))); replace Q1 := Aside0.mk (Q1.out.step (KA.set (i := 8) _ (by omega : w.heap.size < w.heap.size + 1 + 1) (.slice B1 dn.length d1))); (with_reducible refine (HC1.out _ a1 g1 (SP.out.below B.out)).mono ?_); have hsz := blk_lt Y.out; rintro e W6 ⟨q2, rfl, hq, hb⟩; replace B := Aside0.mk (below_then B.out B.out.size hb); replace P := Aside0.mk (P.out.below hb); replace N := Aside0.mk (N.out.below hb); replace Q0 := Aside0.mk (Q0.out.below hb); replace Q1 := Aside0.mk (Q1.out.below hb); replace X := Aside0.mk (X.out.below hb); replace hx := fun i => X.out.cell i; replace zx := fun i => blk_frozen X.out i; replace Y := Aside0.mk (Y.out.below hb); replace hy := fun i => Y.out.cell i; replace zy := fun i => blk_frozen Y.out i; have R2 := Aside0.mk (show FI kSp (w.heap.size + 1 + 1) W6 q2 pos from hq.lower (by simp [World.setCell] at hsz ⊢; omega)); have hq' := R2.out.slice; obtain ⟨B2, d2, eq2⟩ := hq'; subst eq2; clear hq hb) | (go_at_call 51; (with_reducible refine (HC2.out _ a2 g2 (SN.out.below B.out)).mono ?_); have hsz : w.heap.size + 1 + 1 ≤ W6.heap.size := blk_lt Y.out; rintro e W7 ⟨q3, rfl, hq, hb⟩; replace B := Aside0.mk (below_then B.out B.out.size hb); replace P := Aside0.mk (P.out.below hb); replace N := Aside0.mk (N.out.below hb); replace Q0 := Aside0.mk (Q0.out.below hb); replace Q1 := Aside0.mk (Q1.out.below hb); replace R2 := Aside0.mk (R2.out.below hb); replace X := Aside0.mk (X.out.below hb); replace hx := fun i => X.out.cell i; replace zx := fun i => blk_frozen X.out i; replace Y := Aside0.mk (Y.out.below hb); replace hy := fun i => Y.out.cell i; replace zy := fun i => blk_frozen Y.out i; have R3 := Aside0.mk (show FI kSp (w.heap.size + 1 + 1) W7 q3 neg from hq.lower hsz); have hq' := R3.out.slice; obtain ⟨B3, d3, eq3⟩ := hq'; subst eq3; have hxa := fun i => blk_cell (show Blk ((W7.setCell ⟨w.heap.size, 5, none⟩ (.slice B2 pos.length d2)).setCell ⟨w.heap.size, 6, none⟩ (.slice B3 neg.length d3)) w.heap.size #[.int .i64 h.f0, .int .u64 h.f1, .int .u64 h.f2, .int .u64 h.f3, .int .u64 h.f4, .slice B2 pos.length d2, .slice B3 neg.length d3, .slice B0 du.length d0, .slice B1 dn.length d1] 31 from blk_put (show Blk (W7.setCell ⟨w.heap.size, 5, none⟩ (.slice B2 pos.length d2)) w.heap.size #[.int .i64 h.f0, .int .u64 h.f1, .int .u64 h.f2, .int .u64 h.f3, .int .u64 h.f4, .slice B2 pos.length d2, .slice A6 h.f6.length c6, .slice B0 du.length d0, .slice B1 dn.length d1] 31 from blk_put X.out 5 (.slice B2 pos.length d2) rfl) 6 (.slice B3 neg.length d3) rfl) i; clear hq hb))
      refine bodyPost_ret (results_ct rfl _ _ (w.heap.size + 1) 31 #[.int .i64 h.f0, .int .u64 h.f1, .int .u64 h.f2, .int .u64 h.f3, .int .u64 h.f4, .slice B2 pos.length d2, .slice B3 neg.length d3, .slice B0 du.length d0, .slice B1 dn.length d1] (0, 0) _ rfl (nine (blk_far (p := ⟨w.heap.size, 6, none⟩) (blk_far (p := ⟨w.heap.size, 5, none⟩) (Y.out) (by show w.heap.size + 1 ≠ w.heap.size; omega) _) (by show w.heap.size + 1 ≠ w.heap.size; omega) _) _ _ _ _ _ _ _ _ _) Try.underlying31 rfl (by kernel_rfl)) rfl ?_
      exact ⟨_, rfl, GF.mk (h := ⟨h.f0, h.f1, h.f2, h.f3, h.f4, pos, neg, du, dn⟩) ((R2.out.step (nine_ka ((KA.set _ (by omega) _).trans (KA.set _ (by omega) _)) (by omega) _ _ _ _ _ _ _ _ _)).lower (by omega)) ((R3.out.step (nine_ka ((KA.set _ (by omega) _).trans (KA.set _ (by omega) _)) (by omega) _ _ _ _ _ _ _ _ _)).lower (by omega)) ((Q0.out.step (nine_ka ((KA.set _ (by omega) _).trans (KA.set _ (by omega) _)) (by omega) _ _ _ _ _ _ _ _ _)).lower (by omega)) ((Q1.out.step (nine_ka ((KA.set _ (by omega) _).trans (KA.set _ (by omega) _)) (by omega) _ _ _ _ _ _ _ _ _)).lower (by omega)), nine_below ((B.out.set1 (Nat.le_refl _)).set1 (Nat.le_refl _)) (by omega) _ _ _ _ _ _ _ _ _⟩
end Go.Proofs.Ytfbjjbbhnmoolaa.P
