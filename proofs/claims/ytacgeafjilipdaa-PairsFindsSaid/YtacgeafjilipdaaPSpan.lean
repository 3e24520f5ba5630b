-- made by tprint.py, a program of this session over the kit's print
import Derived.Test.YtacgeafjilipdaaP0
namespace Go.Proofs.Ytacgeafjilipdaa.P
open Go.RowKit Go.Proofs.YtacgeafjilipdaaW.PrintWords Go.Proofs.YtacgeafjilipdaaW.PrintLast Go.Proofs.YtacgeafjilipdaaW.PrintMore
attribute [local go_sem] max2_int min2_int max_two min_two max_three min_three max_four min_four
set_option linter.unusedVariables false
set_option linter.unusedSimpArgs false

/-! ### span_in: function 172 -/
def span_in.f (a0 : Int) : Option (Bool) := if a0 ≥ (-1048576) then (some (decide (a0 ≤ 1048576))) else (some false)
set_option maxHeartbeats 8000000 in
set_option maxRecDepth 100000 in
theorem span_in.calls (a0 : Int) (r : Bool) (w : World) (h : span_in.f a0 = some r) :
  Calls Try.prog 172 #[.int .i64 a0] w fun e w' => e = .returned (.bool r) ∧ Drawn0 w w' := by
 have H : (if a0 ≥ (-1048576) then (some (decide (a0 ≤ 1048576))) else (some false)) = some r := h
 clear h
 by_cases c2 : a0 ≥ (-1048576)
 ·rw [if_pos c2] at H
  have c2b0 : decide ((-1048576) ≤ a0) = true := decide_eq_true c2
  clear c2
  obtain rfl := Option.some.inj H
  go_enter Try.func172, Try.ntmps172
  go_wp2
  go_ret
  exact ⟨by first | rfl | (simp; done) | (simp [*]; done), by repeat (first | exact Drawn0.refl _ | apply Drawn0.step)⟩
 ·rw [if_neg c2] at H
  have c2b0 : decide ((-1048576) ≤ a0) = false := decide_eq_false c2
  clear c2
  obtain rfl := Option.some.inj H
  go_enter Try.func172, Try.ntmps172
  go_wp2
  go_ret
  exact ⟨by first | rfl | (simp; done) | (simp [*]; done), by repeat (first | exact Drawn0.refl _ | apply Drawn0.step)⟩

/-! ### span_From: function 122 -/
mutual
def span_From.l0 : Nat → List Int → List (S144) → Int → List Int → Int → Int → Option ((List (S144)) × Int)
 | 0, _, _, _, _, _, _ => none
 | k + 1, x0, x4, x5, x8, x9, x10 => if x10 < x9 then (if 0 ≤ x10 then (if x10 < (x8.length : Int) then ((span_in.f (rd x8 x10)).bind fun t102 => (if t102 = true then (if x10 > 0 then (span_From.j1 k x0 x4 x5 x10 (rd x8 x10) x8 x9 x10 (decide ((rd x8 x10) < x5))) else (span_From.j1 k x0 x4 x5 x10 (rd x8 x10) x8 x9 x10 false)) else (span_From.j1 k x0 x4 x5 x10 (rd x8 x10) x8 x9 x10 true))) else (none)) else (none)) else (if (x0.length : Int) > 4096 then (some (([] : List (S144)), 12)) else (if (x4.length : Int) > 1024 then (some (([] : List (S144)), 12)) else (some (x4, 0))))
def span_From.j1 : Nat → List Int → List (S144) → Int → Int → Int → List Int → Int → Int → Bool → Option ((List (S144)) × Int)
 | 0, _, _, _, _, _, _, _, _, _ => none
 | k + 1, x0, x4, x5, x6, x7, x8, x9, x10, x26 => if x26 = true then (some (([] : List (S144)), 11)) else (if x6 = 0 then (if x4.length < 8796093022208 then ((some (x4 ++ [(⟨wrap64 (x7 - x5), 0⟩ : S144)] : List (S144))).bind fun y103 => (if 0 ≤ (wrap64 ((y103.length : Int) - 1)) then (if (wrap64 ((y103.length : Int) - 1)) < (y103.length : Int) then (span_From.l0 k x0 (y103.set ((wrap64 ((y103.length : Int) - 1)) : Int).toNat (⟨(rd_T144 y103 (wrap64 ((y103.length : Int) - 1))).f0, wrap64 (((rd_T144 y103 (wrap64 ((y103.length : Int) - 1))).f1) + 1)⟩ : S144)) (wrap64 (x7 + 1)) x8 x9 (wrap64 (x10 + 1))) else (none)) else (none))) else (none)) else (if x7 > x5 then (if x4.length < 8796093022208 then ((some (x4 ++ [(⟨wrap64 (x7 - x5), 0⟩ : S144)] : List (S144))).bind fun y108 => (if 0 ≤ (wrap64 ((y108.length : Int) - 1)) then (if (wrap64 ((y108.length : Int) - 1)) < (y108.length : Int) then (span_From.l0 k x0 (y108.set ((wrap64 ((y108.length : Int) - 1)) : Int).toNat (⟨(rd_T144 y108 (wrap64 ((y108.length : Int) - 1))).f0, wrap64 (((rd_T144 y108 (wrap64 ((y108.length : Int) - 1))).f1) + 1)⟩ : S144)) (wrap64 (x7 + 1)) x8 x9 (wrap64 (x10 + 1))) else (none)) else (none))) else (none)) else (if 0 ≤ (wrap64 ((x4.length : Int) - 1)) then (if (wrap64 ((x4.length : Int) - 1)) < (x4.length : Int) then (span_From.l0 k x0 (x4.set ((wrap64 ((x4.length : Int) - 1)) : Int).toNat (⟨(rd_T144 x4 (wrap64 ((x4.length : Int) - 1))).f0, wrap64 (((rd_T144 x4 (wrap64 ((x4.length : Int) - 1))).f1) + 1)⟩ : S144)) (wrap64 (x7 + 1)) x8 x9 (wrap64 (x10 + 1))) else (none)) else (none))))
end
def span_From.f (k : Nat) (l0 : List Int) : Option ((List (S144)) × Int) := span_From.l0 k l0 ([] : List (S144)) 0 l0 (l0.length : Int) 0
theorem span_From.mono_l : ∀ k, (∀ y0 y1 y2 y3 y4 y5, LeO (span_From.l0 k y0 y1 y2 y3 y4 y5) (span_From.l0 (k + 1) y0 y1 y2 y3 y4 y5)) ∧ (∀ y0 y1 y2 y3 y4 y5 y6 y7 y8, LeO (span_From.j1 k y0 y1 y2 y3 y4 y5 y6 y7 y8) (span_From.j1 (k + 1) y0 y1 y2 y3 y4 y5 y6 y7 y8))
 | 0 => ⟨fun _ _ _ _ _ _ r h => by simp [span_From.l0] at h, fun _ _ _ _ _ _ _ _ _ r h => by simp [span_From.j1] at h⟩
 | k + 1 => by
  obtain ⟨ih0, ih1⟩ := span_From.mono_l k
  refine ⟨?_, ?_⟩
  ·intro y0 y1 y2 y3 y4 y5
   unfold span_From.l0
   repeat' first
   | (with_reducible exact ih0 _ _ _ _ _ _)
   | (with_reducible exact ih1 _ _ _ _ _ _ _ _ _)
   | (with_reducible exact LeO.refl _)
   | (with_reducible exact LeO.none _)
   | (with_reducible refine LeO.ite ?_ ?_)
   | (with_reducible refine LeO.bind ?_ (fun _ => ?_))
   | exact ih0 _ _ _ _ _ _
   | exact ih1 _ _ _ _ _ _ _ _ _
   | exact LeO.none _
   | refine LeO.ite ?_ ?_
   | refine LeO.bind ?_ (fun _ => ?_)
  ·intro y0 y1 y2 y3 y4 y5 y6 y7 y8
   unfold span_From.j1
   repeat' first
   | (with_reducible exact ih0 _ _ _ _ _ _)
   | (with_reducible exact ih1 _ _ _ _ _ _ _ _ _)
   | (with_reducible exact LeO.refl _)
   | (with_reducible exact LeO.none _)
   | (with_reducible refine LeO.ite ?_ ?_)
   | (with_reducible refine LeO.bind ?_ (fun _ => ?_))
   | exact ih0 _ _ _ _ _ _
   | exact ih1 _ _ _ _ _ _ _ _ _
   | exact LeO.none _
   | refine LeO.ite ?_ ?_
   | refine LeO.bind ?_ (fun _ => ?_)
theorem span_From.mono : ∀ a0 k, LeO (span_From.f k a0) (span_From.f (k + 1) a0) := by
 intro a0 k
 obtain ⟨ih0, ih1⟩ := span_From.mono_l k
 unfold span_From.f
 repeat' first
   | (with_reducible exact ih0 _ _ _ _ _ _)
   | (with_reducible exact ih1 _ _ _ _ _ _ _ _ _)
   | (with_reducible exact LeO.refl _)
   | (with_reducible exact LeO.none _)
   | (with_reducible refine LeO.ite ?_ ?_)
   | (with_reducible refine LeO.bind ?_ (fun _ => ?_))
   | exact ih0 _ _ _ _ _ _
   | exact ih1 _ _ _ _ _ _ _ _ _
   | exact LeO.none _
   | refine LeO.ite ?_ ?_
   | refine LeO.bind ?_ (fun _ => ?_)
set_option maxHeartbeats 8000000 in
set_option maxRecDepth 100000 in
theorem span_From.calls (k : Nat) (A0 : Option Addr) (c0 : Nat) (l0 : List Int) (r1 : List (S144)) (r2 : Int) (w : World) (hr0 : Kd.C (Kd.int .i64) w A0 l0.length l0) (hc0 : l0.length ≤ c0) (h : span_From.f k l0 = some (r1, r2)) :
  Calls Try.prog 122 #[.slice A0 l0.length c0] w fun e w' => ∃ v0_ : Value, e = .returned (.tuple #[v0_, .int .i64 r2]) ∧ Kd.R k144 144 w' w.heap.size (fun _ => True) v0_ r1 ∧ Below w.heap.size w w' := by
 have hu144 := Try.underlying144
 have HR0 := Aside0.mk hr0
 have HC0 := Aside0.mk hc0
 clear hr0 hc0
 have HB := Aside0.mk (Below.refl w.heap.size w)
 have H : (span_From.l0 k l0 ([] : List (S144)) 0 l0 (l0.length : Int) 0) = some (r1, r2) := h
 clear h
 have H' := Aside0.mk H
 clear H
 go_enter Try.func122, Try.ntmps122
 go_wp2
 go_loopg [4, 5, 10] k (fun kq v4 v5 v10 w' => ∃ (x4_1 : List (S144)) (x5_1 : Int) (x10_1 : Int), v5 = .int .i64 x5_1 ∧ v10 = .int .i64 x10_1 ∧ Aside0 (span_From.l0 kq l0 x4_1 x5_1 l0 (l0.length : Int) x10_1 = some (r1, r2)) ∧ Aside0 (kq ≤ k) ∧ Aside0 (Kd.R k144 144 w' w.heap.size (fun _ => True) v4 x4_1) ∧ Aside0 (Below w.heap.size w w'))
 case atStart => exact ⟨(([] : List (S144))), (0), (0), (by first | rfl | (simp; done) | (simp [*]; done)), (by first | rfl | (simp; done) | (simp [*]; done)), H', ⟨Nat.le_refl _⟩, ⟨by first | exact Kd.R_nil _ _ _ _ _ | exact Kd.N_nil _ _ _ _ _ | exact Kd.V_nil _ _ _ _ _ | exact Kd.Q_nil _ _ _ _ _ | exact Kd.S_nil _ _ _ _ _⟩, ⟨by repeat (first | (with_reducible first | exact HB.out | apply below_alloc | apply pw_below_drewN | apply below_drew1) | exact HB.out)⟩⟩
 case round =>
  clear H'
  try clear c1
  obtain ⟨x4_1, x5_1, x10_1, rfl, rfl, HA, HK1, HO_4, HB⟩ := hrel
  cases gk with
  | zero => exact absurd HA.out (by simp [span_From.l0])
  | succ k1 =>
   have H := HA.out
   clear HA
   simp only [span_From.l0] at H
   by_cases c2 : x10_1 < (l0.length : Int)
   ·rw [if_pos c2] at H
    have c2b0 : decide (x10_1 < (l0.length : Int)) = true := decide_eq_true c2
    clear c2
    by_cases c3 : 0 ≤ x10_1
    ·rw [if_pos c3] at H
     have c3b0 : decide (0 ≤ x10_1) = true := decide_eq_true c3
     clear c3
     by_cases c4 : x10_1 < (l0.length : Int)
     ·rw [if_pos c4] at H
      have c4b0 : decide (x10_1 < (l0.length : Int)) = true := decide_eq_true c4
      clear c4
      have HC5 := Aside0.mk H
      clear H
      have p101 : 0 ≤ (x10_1 : Int) := of_decide_eq_true (by first | (with_reducible assumption) | assumption)
      have q101 : x10_1 < (l0.length : Int) := of_decide_eq_true (by first | (with_reducible assumption) | assumption)
      obtain ⟨ad101, e101, hx101_0⟩ := Kd.at_int HR0.out x10_1 p101 q101
      cases e101
      replace hx101_0 := (HB.out.cell (World.block_lt_of_cell? w _ hx101_0)).trans hx101_0
      replace p101 := eq_true p101
      replace q101 := eq_true q101
      go_upto_region 6 with (fail)
      go_cut [26] (fun v26 wc => ∃ (kq : Nat) (x26_4 : Bool), v26 = .bool x26_4 ∧ Aside0 (span_From.j1 kq l0 x4_1 x5_1 x10_1 (rd l0 x10_1) l0 (l0.length : Int) x10_1 x26_4 = some (r1, r2)) ∧ Aside0 (kq ≤ k1) ∧ Aside0 (Kd.R k144 144 wc w.heap.size (fun _ => True) u4 x4_1) ∧ Aside0 (Below w.heap.size w wc))
      case first =>
       have H := HC5.out
       clear HC5
       replace H := Option.bind_eq_some_iff.mp H
       obtain ⟨t102, A60, H⟩ := H
       replace H : (if t102 = true then (if x10_1 > 0 then (span_From.j1 k1 l0 x4_1 x5_1 x10_1 (rd l0 x10_1) l0 (l0.length : Int) x10_1 (decide ((rd l0 x10_1) < x5_1))) else (span_From.j1 k1 l0 x4_1 x5_1 x10_1 (rd l0 x10_1) l0 (l0.length : Int) x10_1 false)) else (span_From.j1 k1 l0 x4_1 x5_1 x10_1 (rd l0 x10_1) l0 (l0.length : Int) x10_1 true)) = some (r1, r2) := H
       have A6 := Aside0.mk A60
       clear A60
       by_cases c7 : t102 = true
       ·subst c7
        have H1 : (if x10_1 > 0 then (span_From.j1 k1 l0 x4_1 x5_1 x10_1 (rd l0 x10_1) l0 (l0.length : Int) x10_1 (decide ((rd l0 x10_1) < x5_1))) else (span_From.j1 k1 l0 x4_1 x5_1 x10_1 (rd l0 x10_1) l0 (l0.length : Int) x10_1 false)) = some (r1, r2) := by rw [if_pos rfl] at H; exact H
        clear H
        have H := H1
        clear H1
        by_cases c8 : x10_1 > 0
        ·rw [if_pos c8] at H
         have c8b0 : decide (0 < x10_1) = true := decide_eq_true c8
         clear c8
         (first | rw [c8b0] | (simp only [i64_w, i32_w]; rw [c8b0]) | skip)
         have H' := Aside0.mk H
         clear H
         go_wp2_with (first | ((with_reducible refine gate_callee (f := 172) rfl ?_); refine goesL_ (some 16) rfl rfl Try.func172 (by kernel_rfl) rfl #[.int .i64 (rd l0 x10_1)] rfl (by (try simp only [List.map_toArray, List.map_cons, List.map_nil]); first | done | rfl | (simp only [List.length_drop, List.length_take]; rfl)) ?_; (with_reducible refine (span_in.calls (rd l0 x10_1) true _ A6.out).mono ?_); rintro e w' ⟨rfl, ⟨nd, rfl⟩⟩; refine ⟨_, rfl, ?_⟩; clear A6))
         go_meet
         case rel => exact ⟨_, (decide ((rd l0 x10_1) < x5_1)), (by first | rfl | (simp; done) | (simp [*]; done)), H', ⟨by have := HK1.out; first | omega | exact Nat.le_refl _⟩, ⟨by (with_reducible repeat (first | apply Kd.R_alloc | apply Kd.R_drewN | apply Kd.R_drew)); exact HO_4.out⟩, ⟨by repeat (first | (with_reducible first | exact HB.out | apply below_alloc | apply pw_below_drewN | apply below_drew1) | exact HB.out)⟩⟩
        ·rw [if_neg c8] at H
         have c8b0 : decide (0 < x10_1) = false := decide_eq_false c8
         clear c8
         (first | rw [c8b0] | (simp only [i64_w, i32_w]; rw [c8b0]) | skip)
         have H' := Aside0.mk H
         clear H
         go_wp2_with (first | ((with_reducible refine gate_callee (f := 172) rfl ?_); refine goesL_ (some 16) rfl rfl Try.func172 (by kernel_rfl) rfl #[.int .i64 (rd l0 x10_1)] rfl (by (try simp only [List.map_toArray, List.map_cons, List.map_nil]); first | done | rfl | (simp only [List.length_drop, List.length_take]; rfl)) ?_; (with_reducible refine (span_in.calls (rd l0 x10_1) true _ A6.out).mono ?_); rintro e w' ⟨rfl, ⟨nd, rfl⟩⟩; refine ⟨_, rfl, ?_⟩; clear A6))
         go_meet
         case rel => exact ⟨_, (false), (by first | rfl | (simp; done) | (simp [*]; done)), H', ⟨by have := HK1.out; first | omega | exact Nat.le_refl _⟩, ⟨by (with_reducible repeat (first | apply Kd.R_alloc | apply Kd.R_drewN | apply Kd.R_drew)); exact HO_4.out⟩, ⟨by repeat (first | (with_reducible first | exact HB.out | apply below_alloc | apply pw_below_drewN | apply below_drew1) | exact HB.out)⟩⟩
       ·replace c7 := Bool.eq_false_iff.mpr c7
        subst c7
        have H1 : (span_From.j1 k1 l0 x4_1 x5_1 x10_1 (rd l0 x10_1) l0 (l0.length : Int) x10_1 true) = some (r1, r2) := by rw [if_neg (show ¬ (false = true) by decide)] at H; exact H
        clear H
        have H := H1
        clear H1
        have H' := Aside0.mk H
        clear H
        go_wp2_with (first | ((with_reducible refine gate_callee (f := 172) rfl ?_); refine goesL_ (some 16) rfl rfl Try.func172 (by kernel_rfl) rfl #[.int .i64 (rd l0 x10_1)] rfl (by (try simp only [List.map_toArray, List.map_cons, List.map_nil]); first | done | rfl | (simp only [List.length_drop, List.length_take]; rfl)) ?_; (with_reducible refine (span_in.calls (rd l0 x10_1) false _ A6.out).mono ?_); rintro e w' ⟨rfl, ⟨nd, rfl⟩⟩; refine ⟨_, rfl, ?_⟩; clear A6))
        go_meet
        case rel => exact ⟨_, (true), (by first | rfl | (simp; done) | (simp [*]; done)), H', ⟨by have := HK1.out; first | omega | exact Nat.le_refl _⟩, ⟨by (with_reducible repeat (first | apply Kd.R_alloc | apply Kd.R_drewN | apply Kd.R_drew)); exact HO_4.out⟩, ⟨by repeat (first | (with_reducible first | exact HB.out | apply below_alloc | apply pw_below_drewN | apply below_drew1) | exact HB.out)⟩⟩
      case rest =>
       clear HC5
       try clear c1
       try clear p1
       try clear q1
       try clear hx1
       try clear c2
       try clear c2b0
       try clear p2
       try clear c3
       try clear c3b0
       try clear c4
       try clear c4b0
       try clear c7
       try clear c8
       try clear c8b0
       try clear hx101_0
       try clear p101
       try clear q101
       obtain ⟨kq, x26_4, rfl, HA, HJ4, HO_4, HB⟩ := hcut
       cases kq with
       | zero => exact absurd HA.out (by simp [span_From.j1])
       | succ kj4 =>
        have H := HA.out
        clear HA
        simp only [span_From.j1] at H
        by_cases c9 : x26_4 = true
        ·subst c9
         have H1 : (some (([] : List (S144)), 11)) = some (r1, r2) := by rw [if_pos rfl] at H; exact H
         clear H
         have H := H1
         clear H1
         simp only [Option.some.injEq, Prod.mk.injEq] at H
         obtain ⟨rfl, rfl⟩ := H
         go_wp2
         go_ret2
         exact ⟨_, by first | rfl | (simp [errW_none, errW_some] <;> rfl) | (simp [*, errW_none, errW_some] <;> rfl), by first | exact Kd.R_nil _ _ _ _ _ | exact Kd.N_nil _ _ _ _ _ | exact Kd.V_nil _ _ _ _ _ | exact Kd.Q_nil _ _ _ _ _ | exact Kd.S_nil _ _ _ _ _, by repeat (first | (with_reducible first | exact HB.out | apply below_alloc | apply pw_below_drewN | apply below_drew1) | exact HB.out)⟩
        ·replace c9 := Bool.eq_false_iff.mpr c9
         subst c9
         have H1 : (if x10_1 = 0 then (if x4_1.length < 8796093022208 then ((some (x4_1 ++ [(⟨wrap64 ((rd l0 x10_1) - x5_1), 0⟩ : S144)] : List (S144))).bind fun y103 => (if 0 ≤ (wrap64 ((y103.length : Int) - 1)) then (if (wrap64 ((y103.length : Int) - 1)) < (y103.length : Int) then (span_From.l0 kj4 l0 (y103.set ((wrap64 ((y103.length : Int) - 1)) : Int).toNat (⟨(rd_T144 y103 (wrap64 ((y103.length : Int) - 1))).f0, wrap64 (((rd_T144 y103 (wrap64 ((y103.length : Int) - 1))).f1) + 1)⟩ : S144)) (wrap64 ((rd l0 x10_1) + 1)) l0 (l0.length : Int) (wrap64 (x10_1 + 1))) else (none)) else (none))) else (none)) else (if (rd l0 x10_1) > x5_1 then (if x4_1.length < 8796093022208 then ((some (x4_1 ++ [(⟨wrap64 ((rd l0 x10_1) - x5_1), 0⟩ : S144)] : List (S144))).bind fun y108 => (if 0 ≤ (wrap64 ((y108.length : Int) - 1)) then (if (wrap64 ((y108.length : Int) - 1)) < (y108.length : Int) then (span_From.l0 kj4 l0 (y108.set ((wrap64 ((y108.length : Int) - 1)) : Int).toNat (⟨(rd_T144 y108 (wrap64 ((y108.length : Int) - 1))).f0, wrap64 (((rd_T144 y108 (wrap64 ((y108.length : Int) - 1))).f1) + 1)⟩ : S144)) (wrap64 ((rd l0 x10_1) + 1)) l0 (l0.length : Int) (wrap64 (x10_1 + 1))) else (none)) else (none))) else (none)) else (if 0 ≤ (wrap64 ((x4_1.length : Int) - 1)) then (if (wrap64 ((x4_1.length : Int) - 1)) < (x4_1.length : Int) then (span_From.l0 kj4 l0 (x4_1.set ((wrap64 ((x4_1.length : Int) - 1)) : Int).toNat (⟨(rd_T144 x4_1 (wrap64 ((x4_1.length : Int) - 1))).f0, wrap64 (((rd_T144 x4_1 (wrap64 ((x4_1.length : Int) - 1))).f1) + 1)⟩ : S144)) (wrap64 ((rd l0 x10_1) + 1)) l0 (l0.length : Int) (wrap64 (x10_1 + 1))) else (none)) else (none)))) = some (r1, r2) := by rw [if_neg (show ¬ (false = true) by decide)] at H; exact H
         clear H
         have H := H1
         clear H1
         by_cases c10 : x10_1 = 0
         ·rw [if_pos c10] at H
          have c10b0 : (x10_1 == 0) = true := beq_iff_eq.mpr c10
          have c10b1 : (x10_1 != 0) = false := bne_eq_false_iff_eq.mpr c10
          clear c10
          by_cases c11 : x4_1.length < 8796093022208
          ·rw [if_pos c11] at H
           have LMc11 := Aside0.mk c11
           clear c11
           obtain ⟨y103, hy103⟩ : ∃ y_ : List (S144), y_ = (x4_1 ++ [(⟨wrap64 ((rd l0 x10_1) - x5_1), 0⟩ : S144)]) := ⟨_, rfl⟩
           replace H : (if 0 ≤ (wrap64 ((y103.length : Int) - 1)) then (if (wrap64 ((y103.length : Int) - 1)) < (y103.length : Int) then (span_From.l0 kj4 l0 (y103.set ((wrap64 ((y103.length : Int) - 1)) : Int).toNat (⟨(rd_T144 y103 (wrap64 ((y103.length : Int) - 1))).f0, wrap64 (((rd_T144 y103 (wrap64 ((y103.length : Int) - 1))).f1) + 1)⟩ : S144)) (wrap64 ((rd l0 x10_1) + 1)) l0 (l0.length : Int) (wrap64 (x10_1 + 1))) else (none)) else (none)) = some (r1, r2) := by first | (rw [hy103]; with_reducible exact H) | (have H2_ := (Option.bind_some _ _).symm.trans H; rw [hy103]; with_reducible exact H2_) | (have H2_ := (Option.bind_some _ _).symm.trans H; with_reducible exact H2_) | with_reducible exact H | (rw [hy103]; exact H) | exact H
           have Ny103 := Aside0.mk hy103
           clear hy103
           obtain ⟨ji12, hji12⟩ : ∃ j_ : Int, (wrap64 ((y103.length : Int) - 1)) = j_ := ⟨_, rfl⟩
           replace H : (if 0 ≤ (ji12) then (if (ji12) < (y103.length : Int) then (span_From.l0 kj4 l0 (y103.set ((ji12) : Int).toNat (⟨(rd_T144 y103 (ji12)).f0, wrap64 (((rd_T144 y103 (ji12)).f1) + 1)⟩ : S144)) (wrap64 ((rd l0 x10_1) + 1)) l0 (l0.length : Int) (wrap64 (x10_1 + 1))) else (none)) else (none)) = some (r1, r2) := by first | (rw [hji12] at H; exact H) | (simp only [hji12] at H ⊢; exact H)
           have hji12w : (IntKind.i64.wrap ((y103.length : Int) - 1)) = ji12 := (i64_w _).trans hji12
           by_cases c13 : 0 ≤ (ji12)
           ·rw [if_pos c13] at H
            have c13b0 : decide (0 ≤ (ji12)) = true := decide_eq_true c13
            clear c13
            by_cases c14 : (ji12) < (y103.length : Int)
            ·rw [if_pos c14] at H
             have c14b0 : decide ((ji12) < (y103.length : Int)) = true := decide_eq_true c14
             clear c14
             obtain ⟨y107, hy107⟩ : ∃ y_ : List (S144), y_ = (y103.set ((ji12) : Int).toNat (⟨(rd_T144 y103 (ji12)).f0, wrap64 (((rd_T144 y103 (ji12)).f1) + 1)⟩ : S144)) := ⟨_, rfl⟩
             replace H : (span_From.l0 kj4 l0 y107 (wrap64 ((rd l0 x10_1) + 1)) l0 (l0.length : Int) (wrap64 (x10_1 + 1))) = some (r1, r2) := by first | (rw [hy107]; with_reducible exact H) | (have H2_ := (Option.bind_some _ _).symm.trans H; rw [hy107]; with_reducible exact H2_) | (have H2_ := (Option.bind_some _ _).symm.trans H; with_reducible exact H2_) | with_reducible exact H | (rw [hy107]; exact H) | exact H
             have Ny107 := Aside0.mk hy107
             clear hy107
             have H' := Aside0.mk H
             clear H
             go_wp2_with (first | ((with_reducible refine gate_builtin (b := .append) (xs := #[.tmp 34, .tmp 39]) rfl ?_); (try (refine gate_guard (by rfl) ?_; dsimp only)); at_builtin; refine Kd.R_append k144 (w0 := w) w.heap.size rfl (.tmp 34) (.tmp 39) 27 144 (.agg #[(.int .i64 0), (.int .i64 0)]) 16 rfl Try.underlying27 info144 rfl (by decide) (by omega) u4 x4_1 (⟨wrap64 ((rd l0 x10_1) - x5_1), 0⟩ : S144) [.int .i64 (wrap64 ((rd l0 x10_1) - x5_1)), .int .i64 0] (fun _ => True) (fun _ => False) rfl rfl ?aP (fun _ hk => hk.elim) ?aF ?aO ?aB ?aS ?aL ?_; (case aP => exact k144_mkM _ _ _ (⟨wrap64 ((rd l0 x10_1) - x5_1), 0⟩ : S144)); (case aB => exact (by repeat (first | (with_reducible first | exact HB.out | apply below_alloc | apply pw_below_drewN | apply below_drew1) | exact HB.out))); (case aF => exact (fun _ _ => trivial)); (case aO => exact (by (with_reducible repeat (first | apply Kd.R_alloc | apply Kd.R_drewN | apply Kd.R_drew)); exact HO_4.out)); (case aS => exact (below_size (by repeat (first | (with_reducible first | exact HB.out | apply below_alloc | apply pw_below_drewN | apply below_drew1) | exact HB.out)))); (case aL => have := LMc11.out; omega); intro v104 w16 ho hb hg hat; rw [← Ny103.out] at ho; have n0_ := Aside0.mk (hb); have n1_ := Aside0.mk (ho); clear HB; clear HO_4; have HB := n0_; have HO105 := n1_; clear n0_ n1_; clear ho hb hg hat; obtain ⟨Ao17, co17, eo17⟩ := Kd.R_slice HO105.out; subst eo17; have p106 : 0 ≤ ((ji12) : Int) := of_decide_eq_true (by first | (with_reducible assumption) | assumption); have q106 : (ji12) < (y103.length : Int) := of_decide_eq_true (by first | (with_reducible assumption) | assumption); obtain ⟨ad106, e106, hx106_0, hx106_1⟩ := at_T144 (Kd.R_reads' HO105.out).2.2 (ji12) p106 q106; cases e106; replace p106 := eq_true p106; replace q106 := eq_true q106; have p15 : 0 ≤ ((ji12) : Int) := of_decide_eq_true (by first | (with_reducible assumption) | assumption); have q15 : ((ji12) : Int) < ((y103.length : Int) : Int) := of_decide_eq_true (by first | (with_reducible assumption) | assumption); obtain ⟨go15, co15, eo15, gb15, gl15, cl15, HG15⟩ := Kd.R_form HO105.out (by omega); (first | cases eo15 | (injection eo15 with ea_ en_ ec_; (first | subst ea_ | (injection ea_ with ea_; subst ea_)); subst ec_; clear en_)); have GB15 := Aside0.mk gb15; have GG15 := Aside0.mk HG15; clear gb15 gl15 HG15; (first | simp only [add_plain] at hx106_0 | skip); (first | simp only [add_plain] at hx106_1 | skip); obtain ⟨ce15, hcl15, hM15, hcc15, hfr15⟩ := Kd.R_elem HO105.out z144 ((ji12) : Int) p15 q15; obtain rfl := k144_openM hM15; have hx15_0 : w16.cell? ⟨go15, ((ji12) : Int).toNat * 2, none⟩ = some (.int .i64 ((rd_T144 y103 (ji12)).f0)) := hcc15 0 _ rfl; have hx15_1 : w16.cell? ⟨go15, ((ji12) : Int).toNat * 2 + 1, none⟩ = some (.int .i64 ((rd_T144 y103 (ji12)).f1)) := hcc15 1 _ rfl; have hf15_0 : w16.frozen? ⟨go15, ((ji12) : Int).toNat * 2, none⟩ = false := hfr15 0; have hf15_1 : w16.frozen? ⟨go15, ((ji12) : Int).toNat * 2 + 1, none⟩ = false := hfr15 1; clear hcl15 hcc15 hfr15 hM15; replace p15 := eq_true p15; replace q15 := eq_true q15; have HX18 := Aside0.mk (show Kd.R k144 144 w16 w.heap.size (fun _ => True) (.slice (some ⟨go15, 0, none⟩) y103.length co17) y103 from (by (with_reducible repeat (first | apply Kd.R_alloc | apply Kd.R_drewN | apply Kd.R_drew)); exact HO105.out)); obtain ⟨ce18, hcl18, hM18, hcc18, hfr18⟩ := Kd.R_elem HX18.out z144 ((ji12) : Int) (of_decide_eq_true (by first | (with_reducible assumption) | assumption)) (by have h_ : ((ji12) : Int) < ((y103.length : Int) : Int) := of_decide_eq_true (by first | (with_reducible assumption) | assumption); first | exact h_ | (have e_ := (Kd.R_reads' HO105.out).1; omega) | simpa using h_); obtain rfl := k144_openM hM18; have HP18 := Kd.R_seg HX18.out ((ji12) : Int) (of_decide_eq_true (by first | (with_reducible assumption) | assumption)) (by have h_ : ((ji12) : Int) < ((y103.length : Int) : Int) := of_decide_eq_true (by first | (with_reducible assumption) | assumption); first | exact h_ | (have e_ := (Kd.R_reads' HO105.out).1; omega) | simpa using h_) (seg := [.int .i64 (wrap64 (((rd_T144 y103 (ji12)).f1) + 1))]) (j := 1) hcl18 hcc18 (show 2 ≤ 2 from by decide) (x' := (⟨(rd_T144 y103 (ji12)).f0, wrap64 (((rd_T144 y103 (ji12)).f1) + 1)⟩ : S144)) (k144_mkM _ _ _ (⟨(rd_T144 y103 (ji12)).f0, wrap64 (((rd_T144 y103 (ji12)).f1) + 1)⟩ : S144) ) (fun _ hk => hk); have hx18_1 := hcc18 1 _ rfl; (try simp only [show (k144).sz = 2 from rfl, Nat.mul_one, Nat.add_zero] at hx18_1); have hf18_1 := hfr18 1; (try simp only [show (k144).sz = 2 from rfl, Nat.mul_one, Nat.add_zero] at hf18_1); clear hcl18 hcc18 hfr18 hM18) | ((with_reducible refine gate_store (t := 3) (p := 50) rfl ?_); refine store_event (t := 3) (p := 50) (v := ?vo_w19) (w1 := (w16.setCell ⟨go15, ((ji12) : Int).toNat * 2 + 1, none⟩ (.int .i64 (wrap64 (((rd_T144 y103 (ji12)).f1) + 1))))) ?hg ?ho ?hn ?hr ?_; (case ho => rfl); (case hg => rfl); (case hn => rfl); (case hr => first | (go_simp; done) | (go_simp; rfl)); intro w19 hw; have hg : w16.grownBy w19 (some go15) := (by rw [hw]; exact HP18.2); have hp_ : Kd.R k144 144 w19 w.heap.size (fun _ => True) (.slice (some ⟨go15, 0, none⟩) y103.length co17) y107 := (by rw [hw, Ny107.out]; exact HP18.1); clear HP18; have n0_ := Aside0.mk (hp_); have n1_ := Aside0.mk ((by rw [hw]; exact below_set (HB.out) GB15.out : Below w.heap.size w w19)); clear HO105; clear HB; have HO105 := n0_; have HB := n1_; clear n0_ n1_; clear hg hw hp_))
             go_roundg kj4
             case measure => have := HK1.out; have := HJ4.out; omega
             case rel => exact ⟨(y107), (wrap64 ((rd l0 x10_1) + 1)), (wrap64 (x10_1 + 1)), (by first | rfl | (simp; done) | (simp [*]; done)), (by first | rfl | (simp; done) | (simp [*]; done)), H', ⟨by have := HK1.out; have := HJ4.out; omega⟩, ⟨by (with_reducible repeat (first | apply Kd.R_alloc | apply Kd.R_drewN | apply Kd.R_drew)); exact HO105.out⟩, ⟨by repeat (first | (with_reducible first | exact HB.out | apply below_alloc | apply pw_below_drewN | apply below_drew1) | exact HB.out)⟩⟩
            ·rw [if_neg c14] at H
             exact absurd H (by simp)
           ·rw [if_neg c13] at H
            exact absurd H (by simp)
          ·rw [if_neg c11] at H
           exact absurd H (by simp)
         ·rw [if_neg c10] at H
          have c10b0 : (x10_1 == 0) = false := beq_eq_false_iff_ne.mpr c10
          have c10b1 : (x10_1 != 0) = true := bne_iff_ne.mpr c10
          by_cases c20 : (rd l0 x10_1) > x5_1
          ·rw [if_pos c20] at H
           have c20b0 : decide (x5_1 < (rd l0 x10_1)) = true := decide_eq_true c20
           clear c20
           by_cases c21 : x4_1.length < 8796093022208
           ·rw [if_pos c21] at H
            have LMc21 := Aside0.mk c21
            clear c21
            obtain ⟨y108, hy108⟩ : ∃ y_ : List (S144), y_ = (x4_1 ++ [(⟨wrap64 ((rd l0 x10_1) - x5_1), 0⟩ : S144)]) := ⟨_, rfl⟩
            replace H : (if 0 ≤ (wrap64 ((y108.length : Int) - 1)) then (if (wrap64 ((y108.length : Int) - 1)) < (y108.length : Int) then (span_From.l0 kj4 l0 (y108.set ((wrap64 ((y108.length : Int) - 1)) : Int).toNat (⟨(rd_T144 y108 (wrap64 ((y108.length : Int) - 1))).f0, wrap64 (((rd_T144 y108 (wrap64 ((y108.length : Int) - 1))).f1) + 1)⟩ : S144)) (wrap64 ((rd l0 x10_1) + 1)) l0 (l0.length : Int) (wrap64 (x10_1 + 1))) else (none)) else (none)) = some (r1, r2) := by first | (rw [hy108]; with_reducible exact H) | (have H2_ := (Option.bind_some _ _).symm.trans H; rw [hy108]; with_reducible exact H2_) | (have H2_ := (Option.bind_some _ _).symm.trans H; with_reducible exact H2_) | with_reducible exact H | (rw [hy108]; exact H) | exact H
            have Ny108 := Aside0.mk hy108
            clear hy108
            obtain ⟨ji22, hji22⟩ : ∃ j_ : Int, (wrap64 ((y108.length : Int) - 1)) = j_ := ⟨_, rfl⟩
            replace H : (if 0 ≤ (ji22) then (if (ji22) < (y108.length : Int) then (span_From.l0 kj4 l0 (y108.set ((ji22) : Int).toNat (⟨(rd_T144 y108 (ji22)).f0, wrap64 (((rd_T144 y108 (ji22)).f1) + 1)⟩ : S144)) (wrap64 ((rd l0 x10_1) + 1)) l0 (l0.length : Int) (wrap64 (x10_1 + 1))) else (none)) else (none)) = some (r1, r2) := by first | (rw [hji22] at H; exact H) | (simp only [hji22] at H ⊢; exact H)
            have hji22w : (IntKind.i64.wrap ((y108.length : Int) - 1)) = ji22 := (i64_w _).trans hji22
            by_cases c23 : 0 ≤ (ji22)
            ·rw [if_pos c23] at H
             have c23b0 : decide (0 ≤ (ji22)) = true := decide_eq_true c23
             clear c23
             by_cases c24 : (ji22) < (y108.length : Int)
             ·rw [if_pos c24] at H
              have c24b0 : decide ((ji22) < (y108.length : Int)) = true := decide_eq_true c24
              clear c24
              obtain ⟨y112, hy112⟩ : ∃ y_ : List (S144), y_ = (y108.set ((ji22) : Int).toNat (⟨(rd_T144 y108 (ji22)).f0, wrap64 (((rd_T144 y108 (ji22)).f1) + 1)⟩ : S144)) := ⟨_, rfl⟩
              replace H : (span_From.l0 kj4 l0 y112 (wrap64 ((rd l0 x10_1) + 1)) l0 (l0.length : Int) (wrap64 (x10_1 + 1))) = some (r1, r2) := by first | (rw [hy112]; with_reducible exact H) | (have H2_ := (Option.bind_some _ _).symm.trans H; rw [hy112]; with_reducible exact H2_) | (have H2_ := (Option.bind_some _ _).symm.trans H; with_reducible exact H2_) | with_reducible exact H | (rw [hy112]; exact H) | exact H
              have Ny112 := Aside0.mk hy112
              clear hy112
              have H' := Aside0.mk H
              clear H
              go_wp2_with (first | ((with_reducible refine gate_builtin (b := .append) (xs := #[.tmp 34, .tmp 39]) rfl ?_); (try (refine gate_guard (by rfl) ?_; dsimp only)); at_builtin; refine Kd.R_append k144 (w0 := w) w.heap.size rfl (.tmp 34) (.tmp 39) 27 144 (.agg #[(.int .i64 0), (.int .i64 0)]) 16 rfl Try.underlying27 info144 rfl (by decide) (by omega) u4 x4_1 (⟨wrap64 ((rd l0 x10_1) - x5_1), 0⟩ : S144) [.int .i64 (wrap64 ((rd l0 x10_1) - x5_1)), .int .i64 0] (fun _ => True) (fun _ => False) rfl rfl ?aP (fun _ hk => hk.elim) ?aF ?aO ?aB ?aS ?aL ?_; (case aP => exact k144_mkM _ _ _ (⟨wrap64 ((rd l0 x10_1) - x5_1), 0⟩ : S144)); (case aB => exact (by repeat (first | (with_reducible first | exact HB.out | apply below_alloc | apply pw_below_drewN | apply below_drew1) | exact HB.out))); (case aF => exact (fun _ _ => trivial)); (case aO => exact (by (with_reducible repeat (first | apply Kd.R_alloc | apply Kd.R_drewN | apply Kd.R_drew)); exact HO_4.out)); (case aS => exact (below_size (by repeat (first | (with_reducible first | exact HB.out | apply below_alloc | apply pw_below_drewN | apply below_drew1) | exact HB.out)))); (case aL => have := LMc21.out; omega); intro v109 w26 ho hb hg hat; rw [← Ny108.out] at ho; have n0_ := Aside0.mk (hb); have n1_ := Aside0.mk (ho); clear HB; clear HO_4; have HB := n0_; have HO110 := n1_; clear n0_ n1_; clear ho hb hg hat; obtain ⟨Ao27, co27, eo27⟩ := Kd.R_slice HO110.out; subst eo27; have p111 : 0 ≤ ((ji22) : Int) := of_decide_eq_true (by first | (with_reducible assumption) | assumption); have q111 : (ji22) < (y108.length : Int) := of_decide_eq_true (by first | (with_reducible assumption) | assumption); obtain ⟨ad111, e111, hx111_0, hx111_1⟩ := at_T144 (Kd.R_reads' HO110.out).2.2 (ji22) p111 q111; cases e111; replace p111 := eq_true p111; replace q111 := eq_true q111; have p25 : 0 ≤ ((ji22) : Int) := of_decide_eq_true (by first | (with_reducible assumption) | assumption); have q25 : ((ji22) : Int) < ((y108.length : Int) : Int) := of_decide_eq_true (by first | (with_reducible assumption) | assumption); obtain ⟨go25, co25, eo25, gb25, gl25, cl25, HG25⟩ := Kd.R_form HO110.out (by omega); (first | cases eo25 | (injection eo25 with ea_ en_ ec_; (first | subst ea_ | (injection ea_ with ea_; subst ea_)); subst ec_; clear en_)); have GB25 := Aside0.mk gb25; have GG25 := Aside0.mk HG25; clear gb25 gl25 HG25; (first | simp only [add_plain] at hx111_0 | skip); (first | simp only [add_plain] at hx111_1 | skip); obtain ⟨ce25, hcl25, hM25, hcc25, hfr25⟩ := Kd.R_elem HO110.out z144 ((ji22) : Int) p25 q25; obtain rfl := k144_openM hM25; have hx25_0 : w26.cell? ⟨go25, ((ji22) : Int).toNat * 2, none⟩ = some (.int .i64 ((rd_T144 y108 (ji22)).f0)) := hcc25 0 _ rfl; have hx25_1 : w26.cell? ⟨go25, ((ji22) : Int).toNat * 2 + 1, none⟩ = some (.int .i64 ((rd_T144 y108 (ji22)).f1)) := hcc25 1 _ rfl; have hf25_0 : w26.frozen? ⟨go25, ((ji22) : Int).toNat * 2, none⟩ = false := hfr25 0; have hf25_1 : w26.frozen? ⟨go25, ((ji22) : Int).toNat * 2 + 1, none⟩ = false := hfr25 1; clear hcl25 hcc25 hfr25 hM25; replace p25 := eq_true p25; replace q25 := eq_true q25; have HX28 := Aside0.mk (show Kd.R k144 144 w26 w.heap.size (fun _ => True) (.slice (some ⟨go25, 0, none⟩) y108.length co27) y108 from (by (with_reducible repeat (first | apply Kd.R_alloc | apply Kd.R_drewN | apply Kd.R_drew)); exact HO110.out)); obtain ⟨ce28, hcl28, hM28, hcc28, hfr28⟩ := Kd.R_elem HX28.out z144 ((ji22) : Int) (of_decide_eq_true (by first | (with_reducible assumption) | assumption)) (by have h_ : ((ji22) : Int) < ((y108.length : Int) : Int) := of_decide_eq_true (by first | (with_reducible assumption) | assumption); first | exact h_ | (have e_ := (Kd.R_reads' HO110.out).1; omega) | simpa using h_); obtain rfl := k144_openM hM28; have HP28 := Kd.R_seg HX28.out ((ji22) : Int) (of_decide_eq_true (by first | (with_reducible assumption) | assumption)) (by have h_ : ((ji22) : Int) < ((y108.length : Int) : Int) := of_decide_eq_true (by first | (with_reducible assumption) | assumption); first | exact h_ | (have e_ := (Kd.R_reads' HO110.out).1; omega) | simpa using h_) (seg := [.int .i64 (wrap64 (((rd_T144 y108 (ji22)).f1) + 1))]) (j := 1) hcl28 hcc28 (show 2 ≤ 2 from by decide) (x' := (⟨(rd_T144 y108 (ji22)).f0, wrap64 (((rd_T144 y108 (ji22)).f1) + 1)⟩ : S144)) (k144_mkM _ _ _ (⟨(rd_T144 y108 (ji22)).f0, wrap64 (((rd_T144 y108 (ji22)).f1) + 1)⟩ : S144) ) (fun _ hk => hk); have hx28_1 := hcc28 1 _ rfl; (try simp only [show (k144).sz = 2 from rfl, Nat.mul_one, Nat.add_zero] at hx28_1); have hf28_1 := hfr28 1; (try simp only [show (k144).sz = 2 from rfl, Nat.mul_one, Nat.add_zero] at hf28_1); clear hcl28 hcc28 hfr28 hM28) | ((with_reducible refine gate_store (t := 3) (p := 50) rfl ?_); refine store_event (t := 3) (p := 50) (v := ?vo_w29) (w1 := (w26.setCell ⟨go25, ((ji22) : Int).toNat * 2 + 1, none⟩ (.int .i64 (wrap64 (((rd_T144 y108 (ji22)).f1) + 1))))) ?hg ?ho ?hn ?hr ?_; (case ho => rfl); (case hg => rfl); (case hn => rfl); (case hr => first | (go_simp; done) | (go_simp; rfl)); intro w29 hw; have hg : w26.grownBy w29 (some go25) := (by rw [hw]; exact HP28.2); have hp_ : Kd.R k144 144 w29 w.heap.size (fun _ => True) (.slice (some ⟨go25, 0, none⟩) y108.length co27) y112 := (by rw [hw, Ny112.out]; exact HP28.1); clear HP28; have n0_ := Aside0.mk (hp_); have n1_ := Aside0.mk ((by rw [hw]; exact below_set (HB.out) GB25.out : Below w.heap.size w w29)); clear HO110; clear HB; have HO110 := n0_; have HB := n1_; clear n0_ n1_; clear hg hw hp_))
              go_roundg kj4
              case measure => have := HK1.out; have := HJ4.out; omega
              case rel => exact ⟨(y112), (wrap64 ((rd l0 x10_1) + 1)), (wrap64 (x10_1 + 1)), (by first | rfl | (simp; done) | (simp [*]; done)), (by first | rfl | (simp; done) | (simp [*]; done)), H', ⟨by have := HK1.out; have := HJ4.out; omega⟩, ⟨by (with_reducible repeat (first | apply Kd.R_alloc | apply Kd.R_drewN | apply Kd.R_drew)); exact HO110.out⟩, ⟨by repeat (first | (with_reducible first | exact HB.out | apply below_alloc | apply pw_below_drewN | apply below_drew1) | exact HB.out)⟩⟩
             ·rw [if_neg c24] at H
              exact absurd H (by simp)
            ·rw [if_neg c23] at H
             exact absurd H (by simp)
           ·rw [if_neg c21] at H
            exact absurd H (by simp)
          ·rw [if_neg c20] at H
           have c20b0 : decide (x5_1 < (rd l0 x10_1)) = false := decide_eq_false c20
           clear c20
           obtain ⟨ji30, hji30⟩ : ∃ j_ : Int, (wrap64 ((x4_1.length : Int) - 1)) = j_ := ⟨_, rfl⟩
           replace H : (if 0 ≤ (ji30) then (if (ji30) < (x4_1.length : Int) then (span_From.l0 kj4 l0 (x4_1.set ((ji30) : Int).toNat (⟨(rd_T144 x4_1 (ji30)).f0, wrap64 (((rd_T144 x4_1 (ji30)).f1) + 1)⟩ : S144)) (wrap64 ((rd l0 x10_1) + 1)) l0 (l0.length : Int) (wrap64 (x10_1 + 1))) else (none)) else (none)) = some (r1, r2) := by first | (rw [hji30] at H; exact H) | (simp only [hji30] at H ⊢; exact H)
           have hji30w : (IntKind.i64.wrap ((x4_1.length : Int) - 1)) = ji30 := (i64_w _).trans hji30
           by_cases c31 : 0 ≤ (ji30)
           ·rw [if_pos c31] at H
            have c31b0 : decide (0 ≤ (ji30)) = true := decide_eq_true c31
            clear c31
            by_cases c32 : (ji30) < (x4_1.length : Int)
            ·rw [if_pos c32] at H
             have c32b0 : decide ((ji30) < (x4_1.length : Int)) = true := decide_eq_true c32
             clear c32
             obtain ⟨y114, hy114⟩ : ∃ y_ : List (S144), y_ = (x4_1.set ((ji30) : Int).toNat (⟨(rd_T144 x4_1 (ji30)).f0, wrap64 (((rd_T144 x4_1 (ji30)).f1) + 1)⟩ : S144)) := ⟨_, rfl⟩
             replace H : (span_From.l0 kj4 l0 y114 (wrap64 ((rd l0 x10_1) + 1)) l0 (l0.length : Int) (wrap64 (x10_1 + 1))) = some (r1, r2) := by first | (rw [hy114]; with_reducible exact H) | (have H2_ := (Option.bind_some _ _).symm.trans H; rw [hy114]; with_reducible exact H2_) | (have H2_ := (Option.bind_some _ _).symm.trans H; with_reducible exact H2_) | with_reducible exact H | (rw [hy114]; exact H) | exact H
             have Ny114 := Aside0.mk hy114
             clear hy114
             have H' := Aside0.mk H
             clear H
             obtain ⟨Ao34, co34, eo34⟩ := Kd.R_slice HO_4.out
             subst eo34
             have p113 : 0 ≤ ((ji30) : Int) := of_decide_eq_true (by first | (with_reducible assumption) | assumption)
             have q113 : (ji30) < (x4_1.length : Int) := of_decide_eq_true (by first | (with_reducible assumption) | assumption)
             obtain ⟨ad113, e113, hx113_0, hx113_1⟩ := at_T144 (Kd.R_reads' HO_4.out).2.2 (ji30) p113 q113
             cases e113
             replace p113 := eq_true p113
             replace q113 := eq_true q113
             have p33 : 0 ≤ ((ji30) : Int) := of_decide_eq_true (by first | (with_reducible assumption) | assumption)
             have q33 : ((ji30) : Int) < ((x4_1.length : Int) : Int) := of_decide_eq_true (by first | (with_reducible assumption) | assumption)
             obtain ⟨go33, co33, eo33, gb33, gl33, cl33, HG33⟩ := Kd.R_form HO_4.out (by omega)
             (first | cases eo33 | (injection eo33 with ea_ en_ ec_; (first | subst ea_ | (injection ea_ with ea_; subst ea_)); subst ec_; clear en_))
             have GB33 := Aside0.mk gb33
             have GG33 := Aside0.mk HG33
             clear gb33 gl33 HG33
             (first | simp only [add_plain] at hx113_0 | skip)
             (first | simp only [add_plain] at hx113_1 | skip)
             obtain ⟨ce33, hcl33, hM33, hcc33, hfr33⟩ := Kd.R_elem HO_4.out z144 ((ji30) : Int) p33 q33
             obtain rfl := k144_openM hM33
             have hx33_0 : wc.cell? ⟨go33, ((ji30) : Int).toNat * 2, none⟩ = some (.int .i64 ((rd_T144 x4_1 (ji30)).f0)) := hcc33 0 _ rfl
             have hx33_1 : wc.cell? ⟨go33, ((ji30) : Int).toNat * 2 + 1, none⟩ = some (.int .i64 ((rd_T144 x4_1 (ji30)).f1)) := hcc33 1 _ rfl
             have hf33_0 : wc.frozen? ⟨go33, ((ji30) : Int).toNat * 2, none⟩ = false := hfr33 0
             have hf33_1 : wc.frozen? ⟨go33, ((ji30) : Int).toNat * 2 + 1, none⟩ = false := hfr33 1
             clear hcl33 hcc33 hfr33 hM33
             replace p33 := eq_true p33
             replace q33 := eq_true q33
             have HX35 := Aside0.mk (show Kd.R k144 144 wc w.heap.size (fun _ => True) (.slice (some ⟨go33, 0, none⟩) x4_1.length co34) x4_1 from (by (with_reducible repeat (first | apply Kd.R_alloc | apply Kd.R_drewN | apply Kd.R_drew)); exact HO_4.out))
             obtain ⟨ce35, hcl35, hM35, hcc35, hfr35⟩ := Kd.R_elem HX35.out z144 ((ji30) : Int) (of_decide_eq_true (by first | (with_reducible assumption) | assumption)) (by have h_ : ((ji30) : Int) < ((x4_1.length : Int) : Int) := of_decide_eq_true (by first | (with_reducible assumption) | assumption); first | exact h_ | (have e_ := (Kd.R_reads' HO_4.out).1; omega) | simpa using h_)
             obtain rfl := k144_openM hM35
             have HP35 := Kd.R_seg HX35.out ((ji30) : Int) (of_decide_eq_true (by first | (with_reducible assumption) | assumption)) (by have h_ : ((ji30) : Int) < ((x4_1.length : Int) : Int) := of_decide_eq_true (by first | (with_reducible assumption) | assumption); first | exact h_ | (have e_ := (Kd.R_reads' HO_4.out).1; omega) | simpa using h_) (seg := [.int .i64 (wrap64 (((rd_T144 x4_1 (ji30)).f1) + 1))]) (j := 1) hcl35 hcc35 (show 2 ≤ 2 from by decide) (x' := (⟨(rd_T144 x4_1 (ji30)).f0, wrap64 (((rd_T144 x4_1 (ji30)).f1) + 1)⟩ : S144)) (k144_mkM _ _ _ (⟨(rd_T144 x4_1 (ji30)).f0, wrap64 (((rd_T144 x4_1 (ji30)).f1) + 1)⟩ : S144) ) (fun _ hk => hk)
             have hx35_1 := hcc35 1 _ rfl
             (try simp only [show (k144).sz = 2 from rfl, Nat.mul_one, Nat.add_zero] at hx35_1)
             have hf35_1 := hfr35 1
             (try simp only [show (k144).sz = 2 from rfl, Nat.mul_one, Nat.add_zero] at hf35_1)
             clear hcl35 hcc35 hfr35 hM35
             go_wp2_with (first | ((with_reducible refine gate_store (t := 3) (p := 50) rfl ?_); refine store_event (t := 3) (p := 50) (v := ?vo_w36) (w1 := (wc.setCell ⟨go33, ((ji30) : Int).toNat * 2 + 1, none⟩ (.int .i64 (wrap64 (((rd_T144 x4_1 (ji30)).f1) + 1))))) ?hg ?ho ?hn ?hr ?_; (case ho => rfl); (case hg => rfl); (case hn => rfl); (case hr => first | (go_simp; done) | (go_simp; rfl)); intro w36 hw; have hg : wc.grownBy w36 (some go33) := (by rw [hw]; exact HP35.2); have hp_ : Kd.R k144 144 w36 w.heap.size (fun _ => True) (.slice (some ⟨go33, 0, none⟩) x4_1.length co34) y114 := (by rw [hw, Ny114.out]; exact HP35.1); clear HP35; have n0_ := Aside0.mk (hp_); have n1_ := Aside0.mk ((by rw [hw]; exact below_set (HB.out) GB33.out : Below w.heap.size w w36)); clear HO_4; clear HB; have HO_4 := n0_; have HB := n1_; clear n0_ n1_; clear hg hw hp_))
             go_roundg kj4
             case measure => have := HK1.out; have := HJ4.out; omega
             case rel => exact ⟨(y114), (wrap64 ((rd l0 x10_1) + 1)), (wrap64 (x10_1 + 1)), (by first | rfl | (simp; done) | (simp [*]; done)), (by first | rfl | (simp; done) | (simp [*]; done)), H', ⟨by have := HK1.out; have := HJ4.out; omega⟩, ⟨by (with_reducible repeat (first | apply Kd.R_alloc | apply Kd.R_drewN | apply Kd.R_drew)); exact HO_4.out⟩, ⟨by repeat (first | (with_reducible first | exact HB.out | apply below_alloc | apply pw_below_drewN | apply below_drew1) | exact HB.out)⟩⟩
            ·rw [if_neg c32] at H
             exact absurd H (by simp)
           ·rw [if_neg c31] at H
            exact absurd H (by simp)
     ·rw [if_neg c4] at H
      exact absurd H (by simp)
    ·rw [if_neg c3] at H
     exact absurd H (by simp)
   ·rw [if_neg c2] at H
    have c2b0 : decide (x10_1 < (l0.length : Int)) = false := decide_eq_false c2
    clear c2
    by_cases c37 : (l0.length : Int) > 4096
    ·rw [if_pos c37] at H
     have c37b0 : decide (4096 < (l0.length : Int)) = true := decide_eq_true c37
     have c37b1 : decide (4096 < l0.length) = true := decide_eq_true (by omega)
     clear c37
     simp only [Option.some.injEq, Prod.mk.injEq] at H
     obtain ⟨rfl, rfl⟩ := H
     go_wp2
     go_ret2
     exact ⟨_, by first | rfl | (simp [errW_none, errW_some] <;> rfl) | (simp [*, errW_none, errW_some] <;> rfl), by first | exact Kd.R_nil _ _ _ _ _ | exact Kd.N_nil _ _ _ _ _ | exact Kd.V_nil _ _ _ _ _ | exact Kd.Q_nil _ _ _ _ _ | exact Kd.S_nil _ _ _ _ _, by repeat (first | (with_reducible first | exact HB.out | apply below_alloc | apply pw_below_drewN | apply below_drew1) | exact HB.out)⟩
    ·rw [if_neg c37] at H
     have c37b0 : decide (4096 < (l0.length : Int)) = false := decide_eq_false c37
     have c37b1 : decide (4096 < l0.length) = false := decide_eq_false (by omega)
     clear c37
     by_cases c38 : (x4_1.length : Int) > 1024
     ·rw [if_pos c38] at H
      have c38b0 : decide (1024 < (x4_1.length : Int)) = true := decide_eq_true c38
      have c38b1 : decide (1024 < x4_1.length) = true := decide_eq_true (by omega)
      clear c38
      simp only [Option.some.injEq, Prod.mk.injEq] at H
      obtain ⟨rfl, rfl⟩ := H
      obtain ⟨Ao39, co39, eo39⟩ := Kd.R_slice HO_4.out
      subst eo39
      go_wp2
      go_ret2
      exact ⟨_, by first | rfl | (simp [errW_none, errW_some] <;> rfl) | (simp [*, errW_none, errW_some] <;> rfl), by first | exact Kd.R_nil _ _ _ _ _ | exact Kd.N_nil _ _ _ _ _ | exact Kd.V_nil _ _ _ _ _ | exact Kd.Q_nil _ _ _ _ _ | exact Kd.S_nil _ _ _ _ _, by repeat (first | (with_reducible first | exact HB.out | apply below_alloc | apply pw_below_drewN | apply below_drew1) | exact HB.out)⟩
     ·rw [if_neg c38] at H
      have c38b0 : decide (1024 < (x4_1.length : Int)) = false := decide_eq_false c38
      have c38b1 : decide (1024 < x4_1.length) = false := decide_eq_false (by omega)
      clear c38
      simp only [Option.some.injEq, Prod.mk.injEq] at H
      obtain ⟨rfl, rfl⟩ := H
      obtain ⟨Ao40, co40, eo40⟩ := Kd.R_slice HO_4.out
      subst eo40
      go_wp2
      go_ret2
      exact ⟨_, by first | rfl | (simp [errW_none, errW_some] <;> rfl) | (simp [*, errW_none, errW_some] <;> rfl), by (with_reducible repeat (first | apply Kd.R_alloc | apply Kd.R_drewN | apply Kd.R_drew)); exact HO_4.out, by repeat (first | (with_reducible first | exact HB.out | apply below_alloc | apply pw_below_drewN | apply below_drew1) | exact HB.out)⟩

/-! ### span_right: function 174 -/
mutual
def span_right.l0 : Nat → Int → Int → List (S144) → Int → Int → Option (Bool)
 | 0, _, _, _, _, _ => none
 | k + 1, x3, x4, x7, x8, x9 => if x9 < x8 then (if 0 ≤ x9 then (if x9 < (x7.length : Int) then (if ((rd_T144 x7 x9).f0) > 2097152 then (span_right.j1 k x3 x4 x7 x8 x9 true ((rd_T144 x7 x9).f0) ((rd_T144 x7 x9).f1)) else (if ((rd_T144 x7 x9).f1) < 0 then (span_right.j1 k x3 x4 x7 x8 x9 true ((rd_T144 x7 x9).f0) ((rd_T144 x7 x9).f1)) else (if ((rd_T144 x7 x9).f1) > 4096 then (span_right.j1 k x3 x4 x7 x8 x9 true ((rd_T144 x7 x9).f0) ((rd_T144 x7 x9).f1)) else (if ((rd_T144 x7 x9).f0) < 0 then (if x9 > 0 then (span_right.j1 k x3 x4 x7 x8 x9 true ((rd_T144 x7 x9).f0) ((rd_T144 x7 x9).f1)) else ((span_in.f ((rd_T144 x7 x9).f0)).bind fun t103 => (span_right.j1 k x3 x4 x7 x8 x9 (!t103) ((rd_T144 x7 x9).f0) ((rd_T144 x7 x9).f1)))) else (span_right.j1 k x3 x4 x7 x8 x9 false ((rd_T144 x7 x9).f0) ((rd_T144 x7 x9).f1)))))) else (none)) else (none)) else (some true)
def span_right.j1 : Nat → Int → Int → List (S144) → Int → Int → Bool → Int → Int → Option (Bool)
 | 0, _, _, _, _, _, _, _, _ => none
 | k + 1, x3, x4, x7, x8, x9, x41, x103000, x103001 => if x41 = true then (some false) else ((span_in.f (wrap64 (x3 + x103000))).bind fun t104 => (if t104 = true then ((span_in.f (wrap64 ((wrap64 (x3 + x103000)) + (mx (wrap64 (x103001 - 1)) 0)))).bind fun t105 => (if t105 = true then (if (wrap64 (x4 + x103001)) > 4096 then (some false) else (span_right.l0 k (wrap64 ((wrap64 (x3 + x103000)) + x103001)) (wrap64 (x4 + x103001)) x7 x8 (wrap64 (x9 + 1)))) else (some false))) else (some false)))
end
def span_right.f (k : Nat) (l0 : List (S144)) : Option (Bool) := span_right.l0 k 0 0 l0 (l0.length : Int) 0
theorem span_right.mono_l : ∀ k, (∀ y0 y1 y2 y3 y4, LeO (span_right.l0 k y0 y1 y2 y3 y4) (span_right.l0 (k + 1) y0 y1 y2 y3 y4)) ∧ (∀ y0 y1 y2 y3 y4 y5 y6 y7, LeO (span_right.j1 k y0 y1 y2 y3 y4 y5 y6 y7) (span_right.j1 (k + 1) y0 y1 y2 y3 y4 y5 y6 y7))
 | 0 => ⟨fun _ _ _ _ _ r h => by simp [span_right.l0] at h, fun _ _ _ _ _ _ _ _ r h => by simp [span_right.j1] at h⟩
 | k + 1 => by
  obtain ⟨ih0, ih1⟩ := span_right.mono_l k
  refine ⟨?_, ?_⟩
  ·intro y0 y1 y2 y3 y4
   unfold span_right.l0
   repeat' first
   | (with_reducible exact ih0 _ _ _ _ _)
   | (with_reducible exact ih1 _ _ _ _ _ _ _ _)
   | (with_reducible exact LeO.refl _)
   | (with_reducible exact LeO.none _)
   | (with_reducible refine LeO.ite ?_ ?_)
   | (with_reducible refine LeO.bind ?_ (fun _ => ?_))
   | exact ih0 _ _ _ _ _
   | exact ih1 _ _ _ _ _ _ _ _
   | exact LeO.none _
   | refine LeO.ite ?_ ?_
   | refine LeO.bind ?_ (fun _ => ?_)
  ·intro y0 y1 y2 y3 y4 y5 y6 y7
   unfold span_right.j1
   repeat' first
   | (with_reducible exact ih0 _ _ _ _ _)
   | (with_reducible exact ih1 _ _ _ _ _ _ _ _)
   | (with_reducible exact LeO.refl _)
   | (with_reducible exact LeO.none _)
   | (with_reducible refine LeO.ite ?_ ?_)
   | (with_reducible refine LeO.bind ?_ (fun _ => ?_))
   | exact ih0 _ _ _ _ _
   | exact ih1 _ _ _ _ _ _ _ _
   | exact LeO.none _
   | refine LeO.ite ?_ ?_
   | refine LeO.bind ?_ (fun _ => ?_)
theorem span_right.mono : ∀ a0 k, LeO (span_right.f k a0) (span_right.f (k + 1) a0) := by
 intro a0 k
 obtain ⟨ih0, ih1⟩ := span_right.mono_l k
 unfold span_right.f
 repeat' first
   | (with_reducible exact ih0 _ _ _ _ _)
   | (with_reducible exact ih1 _ _ _ _ _ _ _ _)
   | (with_reducible exact LeO.refl _)
   | (with_reducible exact LeO.none _)
   | (with_reducible refine LeO.ite ?_ ?_)
   | (with_reducible refine LeO.bind ?_ (fun _ => ?_))
   | exact ih0 _ _ _ _ _
   | exact ih1 _ _ _ _ _ _ _ _
   | exact LeO.none _
   | refine LeO.ite ?_ ?_
   | refine LeO.bind ?_ (fun _ => ?_)
set_option maxHeartbeats 8000000 in
set_option maxRecDepth 100000 in
theorem span_right.calls (k : Nat) (A0 : Option Addr) (c0 : Nat) (l0 : List (S144)) (r : Bool) (w : World) (hr0 : Kd.C k144 w A0 l0.length l0) (hc0 : l0.length ≤ c0) (h : span_right.f k l0 = some r) :
  Calls Try.prog 174 #[.slice A0 l0.length c0] w fun e w' => e = .returned (.bool r) ∧ Below w.heap.size w w' := by
 have hu144 := Try.underlying144
 have HR0 := Aside0.mk hr0
 have HC0 := Aside0.mk hc0
 clear hr0 hc0
 have HB := Aside0.mk (Below.refl w.heap.size w)
 have H : (span_right.l0 k 0 0 l0 (l0.length : Int) 0) = some r := h
 clear h
 have H' := Aside0.mk H
 clear H
 go_enter Try.func174, Try.ntmps174
 go_wp2
 go_loopg [3, 4, 9] k (fun kq v3 v4 v9 w' => ∃ (x3_1 : Int) (x4_1 : Int) (x9_1 : Int), v3 = .int .i64 x3_1 ∧ v4 = .int .i64 x4_1 ∧ v9 = .int .i64 x9_1 ∧ Aside0 (span_right.l0 kq x3_1 x4_1 l0 (l0.length : Int) x9_1 = some r) ∧ Aside0 (kq ≤ k) ∧ Aside0 (Below w.heap.size w w'))
 case atStart => exact ⟨(0), (0), (0), (by first | rfl | (simp; done) | (simp [*]; done)), (by first | rfl | (simp; done) | (simp [*]; done)), (by first | rfl | (simp; done) | (simp [*]; done)), H', ⟨Nat.le_refl _⟩, ⟨by repeat (first | (with_reducible first | exact HB.out | apply below_alloc | apply pw_below_drewN | apply below_drew1) | exact HB.out)⟩⟩
 case round =>
  clear H'
  try clear c1
  obtain ⟨x3_1, x4_1, x9_1, rfl, rfl, rfl, HA, HK1, HB⟩ := hrel
  cases gk with
  | zero => exact absurd HA.out (by simp [span_right.l0])
  | succ k1 =>
   have H := HA.out
   clear HA
   simp only [span_right.l0] at H
   by_cases c2 : x9_1 < (l0.length : Int)
   ·rw [if_pos c2] at H
    have c2b0 : decide (x9_1 < (l0.length : Int)) = true := decide_eq_true c2
    clear c2
    by_cases c3 : 0 ≤ x9_1
    ·rw [if_pos c3] at H
     have c3b0 : decide (0 ≤ x9_1) = true := decide_eq_true c3
     clear c3
     by_cases c4 : x9_1 < (l0.length : Int)
     ·rw [if_pos c4] at H
      have c4b0 : decide (x9_1 < (l0.length : Int)) = true := decide_eq_true c4
      clear c4
      have HC5 := Aside0.mk H
      clear H
      have p101 : 0 ≤ (x9_1 : Int) := of_decide_eq_true (by first | (with_reducible assumption) | assumption)
      have q101 : x9_1 < (l0.length : Int) := of_decide_eq_true (by first | (with_reducible assumption) | assumption)
      obtain ⟨ad101, e101, hx101_0, hx101_1⟩ := at_T144 HR0.out x9_1 p101 q101
      cases e101
      replace hx101_0 := (HB.out.cell (World.block_lt_of_cell? w _ hx101_0)).trans hx101_0
      replace hx101_1 := (HB.out.cell (World.block_lt_of_cell? w _ hx101_1)).trans hx101_1
      replace p101 := eq_true p101
      replace q101 := eq_true q101
      go_upto_region 5 with (first | ((with_reducible refine gate_dst (N := 6) rfl ?_); (try (refine gate_guard (by rfl) ?_; dsimp only)); refine box_event ?hg (N := 6) ?hd (cs := #[.int .i64 0, .int .i64 0]) (t := 144) ?hr ?_; (case hd => rfl); (case hg => rfl); (case hr => first | (go_simp; done) | (go_simp; rfl)); intro gb102 hg w6 hbox hb; have n0_ := Aside0.mk (below_step (by repeat (first | (with_reducible first | exact HB.out | apply below_alloc | apply pw_below_drewN | apply below_drew1) | exact HB.out)) hb); have n1_ := Aside0.mk (hbox); have n2_ := Aside0.mk ((by rw [hg]; exact (below_size (by repeat (first | (with_reducible first | exact HB.out | apply below_alloc | apply pw_below_drewN | apply below_drew1) | exact HB.out))) : w.heap.size ≤ gb102)); have n3_ := Aside0.mk ((by rw [hg]; exact (below_size (by repeat (first | (with_reducible first | exact HB.out | apply below_alloc | apply pw_below_drewN | apply below_drew1) | exact HB.out))) : w.heap.size ≤ gb102)); clear HB; have HB := n0_; have BK102 := n1_; have GW102 := n2_; have GE102 := n3_; clear n0_ n1_ n2_ n3_; clear hb hbox hg; have hcz7_0 : w6.cell? ⟨gb102, 0, none⟩ = some (.int .i64 0) := (blk_cell BK102.out 0).trans rfl; have hcz7_1 : w6.cell? ⟨gb102, 1, none⟩ = some (.int .i64 0) := (blk_cell BK102.out 1).trans rfl; have hfz7_0 := blk_frozen BK102.out 0; have hfz7_1 := blk_frozen BK102.out 1))
      (try simp only [Act.put, List.setIfInBounds_toArray, List.set_cons_zero, List.set_cons_succ])
      go_cut [41] (fun v41 wc => ∃ (kq : Nat) (x41_4 : Bool), v41 = .bool x41_4 ∧ Aside0 (span_right.j1 kq x3_1 x4_1 l0 (l0.length : Int) x9_1 x41_4 ((rd_T144 l0 x9_1).f0) ((rd_T144 l0 x9_1).f1) = some r) ∧ Aside0 (kq ≤ k1) ∧ Aside0 (wc.heap[gb102]? = some (.cells #[.int .i64 ((rd_T144 l0 x9_1).f0), .int .i64 ((rd_T144 l0 x9_1).f1)] 144 (0, 0))) ∧ Aside0 (Below w.heap.size w wc))
      case first =>
       have H := HC5.out
       clear HC5
       by_cases c8 : ((rd_T144 l0 x9_1).f0) > 2097152
       ·rw [if_pos c8] at H
        have c8b0 : decide (2097152 < ((rd_T144 l0 x9_1).f0)) = true := decide_eq_true c8
        clear c8
        (first | rw [c8b0] | (simp only [i64_w, i32_w]; rw [c8b0]) | skip)
        have H' := Aside0.mk H
        clear H
        have hcz9_0 : w6.cell? ⟨gb102, 0, none⟩ = some (.int .i64 0) := (blk_cell BK102.out 0).trans rfl
        have hcz9_1 : w6.cell? ⟨gb102, 1, none⟩ = some (.int .i64 0) := (blk_cell BK102.out 1).trans rfl
        have hfz9_0 := blk_frozen BK102.out 0
        have hfz9_1 := blk_frozen BK102.out 1
        go_wp2
        go_meet
        case rel => exact ⟨_, (true), (by first | rfl | (simp; done) | (simp [*]; done)), H', ⟨by have := HK1.out; first | omega | exact Nat.le_refl _⟩, ⟨by (with_reducible repeat (first | refine blk_drewN ?_ _ | refine blk_drew ?_ | refine blk_alloc ?_ _)); refine blk_put (cs := #[.int .i64 ((rd_T144 l0 x9_1).f0), .int .i64 0]) ?_ 1 _ rfl; (with_reducible repeat (first | refine blk_drewN ?_ _ | refine blk_drew ?_ | refine blk_alloc ?_ _)); refine blk_put (cs := #[.int .i64 0, .int .i64 0]) ?_ 0 _ rfl; (with_reducible repeat (first | refine blk_drewN ?_ _ | refine blk_drew ?_ | refine blk_alloc ?_ _)); exact BK102.out⟩, ⟨by repeat (first | (with_reducible first | exact HB.out | apply below_alloc | apply pw_below_drewN | apply below_drew1 | refine below_set ?_ GE102.out) | exact HB.out)⟩⟩
       ·rw [if_neg c8] at H
        have c8b0 : decide (2097152 < ((rd_T144 l0 x9_1).f0)) = false := decide_eq_false c8
        clear c8
        (first | rw [c8b0] | (simp only [i64_w, i32_w]; rw [c8b0]) | skip)
        by_cases c10 : ((rd_T144 l0 x9_1).f1) < 0
        ·rw [if_pos c10] at H
         have c10b0 : decide (((rd_T144 l0 x9_1).f1) < 0) = true := decide_eq_true c10
         clear c10
         have H' := Aside0.mk H
         clear H
         have hcz11_0 : w6.cell? ⟨gb102, 0, none⟩ = some (.int .i64 0) := (blk_cell BK102.out 0).trans rfl
         have hcz11_1 : w6.cell? ⟨gb102, 1, none⟩ = some (.int .i64 0) := (blk_cell BK102.out 1).trans rfl
         have hfz11_0 := blk_frozen BK102.out 0
         have hfz11_1 := blk_frozen BK102.out 1
         go_wp2
         go_meet
         case rel => exact ⟨_, (true), (by first | rfl | (simp; done) | (simp [*]; done)), H', ⟨by have := HK1.out; first | omega | exact Nat.le_refl _⟩, ⟨by (with_reducible repeat (first | refine blk_drewN ?_ _ | refine blk_drew ?_ | refine blk_alloc ?_ _)); refine blk_put (cs := #[.int .i64 ((rd_T144 l0 x9_1).f0), .int .i64 0]) ?_ 1 _ rfl; (with_reducible repeat (first | refine blk_drewN ?_ _ | refine blk_drew ?_ | refine blk_alloc ?_ _)); refine blk_put (cs := #[.int .i64 0, .int .i64 0]) ?_ 0 _ rfl; (with_reducible repeat (first | refine blk_drewN ?_ _ | refine blk_drew ?_ | refine blk_alloc ?_ _)); exact BK102.out⟩, ⟨by repeat (first | (with_reducible first | exact HB.out | apply below_alloc | apply pw_below_drewN | apply below_drew1 | refine below_set ?_ GE102.out) | exact HB.out)⟩⟩
        ·rw [if_neg c10] at H
         have c10b0 : decide (((rd_T144 l0 x9_1).f1) < 0) = false := decide_eq_false c10
         clear c10
         by_cases c12 : ((rd_T144 l0 x9_1).f1) > 4096
         ·rw [if_pos c12] at H
          have c12b0 : decide (4096 < ((rd_T144 l0 x9_1).f1)) = true := decide_eq_true c12
          clear c12
          have H' := Aside0.mk H
          clear H
          have hcz13_0 : w6.cell? ⟨gb102, 0, none⟩ = some (.int .i64 0) := (blk_cell BK102.out 0).trans rfl
          have hcz13_1 : w6.cell? ⟨gb102, 1, none⟩ = some (.int .i64 0) := (blk_cell BK102.out 1).trans rfl
          have hfz13_0 := blk_frozen BK102.out 0
          have hfz13_1 := blk_frozen BK102.out 1
          go_wp2
          go_meet
          case rel => exact ⟨_, (true), (by first | rfl | (simp; done) | (simp [*]; done)), H', ⟨by have := HK1.out; first | omega | exact Nat.le_refl _⟩, ⟨by (with_reducible repeat (first | refine blk_drewN ?_ _ | refine blk_drew ?_ | refine blk_alloc ?_ _)); refine blk_put (cs := #[.int .i64 ((rd_T144 l0 x9_1).f0), .int .i64 0]) ?_ 1 _ rfl; (with_reducible repeat (first | refine blk_drewN ?_ _ | refine blk_drew ?_ | refine blk_alloc ?_ _)); refine blk_put (cs := #[.int .i64 0, .int .i64 0]) ?_ 0 _ rfl; (with_reducible repeat (first | refine blk_drewN ?_ _ | refine blk_drew ?_ | refine blk_alloc ?_ _)); exact BK102.out⟩, ⟨by repeat (first | (with_reducible first | exact HB.out | apply below_alloc | apply pw_below_drewN | apply below_drew1 | refine below_set ?_ GE102.out) | exact HB.out)⟩⟩
         ·rw [if_neg c12] at H
          have c12b0 : decide (4096 < ((rd_T144 l0 x9_1).f1)) = false := decide_eq_false c12
          clear c12
          by_cases c14 : ((rd_T144 l0 x9_1).f0) < 0
          ·rw [if_pos c14] at H
           have c14b0 : decide (((rd_T144 l0 x9_1).f0) < 0) = true := decide_eq_true c14
           clear c14
           by_cases c15 : x9_1 > 0
           ·rw [if_pos c15] at H
            have c15b0 : decide (0 < x9_1) = true := decide_eq_true c15
            clear c15
            have H' := Aside0.mk H
            clear H
            have hcz16_0 : w6.cell? ⟨gb102, 0, none⟩ = some (.int .i64 0) := (blk_cell BK102.out 0).trans rfl
            have hcz16_1 : w6.cell? ⟨gb102, 1, none⟩ = some (.int .i64 0) := (blk_cell BK102.out 1).trans rfl
            have hfz16_0 := blk_frozen BK102.out 0
            have hfz16_1 := blk_frozen BK102.out 1
            go_wp2
            go_meet
            case rel => exact ⟨_, (true), (by first | rfl | (simp; done) | (simp [*]; done)), H', ⟨by have := HK1.out; first | omega | exact Nat.le_refl _⟩, ⟨by (with_reducible repeat (first | refine blk_drewN ?_ _ | refine blk_drew ?_ | refine blk_alloc ?_ _)); refine blk_put (cs := #[.int .i64 ((rd_T144 l0 x9_1).f0), .int .i64 0]) ?_ 1 _ rfl; (with_reducible repeat (first | refine blk_drewN ?_ _ | refine blk_drew ?_ | refine blk_alloc ?_ _)); refine blk_put (cs := #[.int .i64 0, .int .i64 0]) ?_ 0 _ rfl; (with_reducible repeat (first | refine blk_drewN ?_ _ | refine blk_drew ?_ | refine blk_alloc ?_ _)); exact BK102.out⟩, ⟨by repeat (first | (with_reducible first | exact HB.out | apply below_alloc | apply pw_below_drewN | apply below_drew1 | refine below_set ?_ GE102.out) | exact HB.out)⟩⟩
           ·rw [if_neg c15] at H
            have c15b0 : decide (0 < x9_1) = false := decide_eq_false c15
            clear c15
            replace H := Option.bind_eq_some_iff.mp H
            obtain ⟨t103, A170, H⟩ := H
            replace H : (span_right.j1 k1 x3_1 x4_1 l0 (l0.length : Int) x9_1 (!t103) ((rd_T144 l0 x9_1).f0) ((rd_T144 l0 x9_1).f1)) = some r := H
            have A17 := Aside0.mk A170
            clear A170
            have H' := Aside0.mk H
            clear H
            have hcz18_0 : w6.cell? ⟨gb102, 0, none⟩ = some (.int .i64 0) := (blk_cell BK102.out 0).trans rfl
            have hcz18_1 : w6.cell? ⟨gb102, 1, none⟩ = some (.int .i64 0) := (blk_cell BK102.out 1).trans rfl
            have hfz18_0 := blk_frozen BK102.out 0
            have hfz18_1 := blk_frozen BK102.out 1
            go_wp2_with (first | (go_at_call 172; (with_reducible refine (span_in.calls ((rd_T144 l0 x9_1).f0) t103 _ A17.out).mono ?_); rintro e w' ⟨rfl, ⟨nd, rfl⟩⟩; clear A17))
            go_meet
            case rel => exact ⟨_, (!t103), (by first | rfl | (simp; done) | (simp [*]; done)), H', ⟨by have := HK1.out; first | omega | exact Nat.le_refl _⟩, ⟨by (with_reducible repeat (first | refine blk_drewN ?_ _ | refine blk_drew ?_ | refine blk_alloc ?_ _)); refine blk_put (cs := #[.int .i64 ((rd_T144 l0 x9_1).f0), .int .i64 0]) ?_ 1 _ rfl; (with_reducible repeat (first | refine blk_drewN ?_ _ | refine blk_drew ?_ | refine blk_alloc ?_ _)); refine blk_put (cs := #[.int .i64 0, .int .i64 0]) ?_ 0 _ rfl; (with_reducible repeat (first | refine blk_drewN ?_ _ | refine blk_drew ?_ | refine blk_alloc ?_ _)); exact BK102.out⟩, ⟨by repeat (first | (with_reducible first | exact HB.out | apply below_alloc | apply pw_below_drewN | apply below_drew1 | refine below_set ?_ GE102.out) | exact HB.out)⟩⟩
          ·rw [if_neg c14] at H
           have c14b0 : decide (((rd_T144 l0 x9_1).f0) < 0) = false := decide_eq_false c14
           clear c14
           have H' := Aside0.mk H
           clear H
           have hcz19_0 : w6.cell? ⟨gb102, 0, none⟩ = some (.int .i64 0) := (blk_cell BK102.out 0).trans rfl
           have hcz19_1 : w6.cell? ⟨gb102, 1, none⟩ = some (.int .i64 0) := (blk_cell BK102.out 1).trans rfl
           have hfz19_0 := blk_frozen BK102.out 0
           have hfz19_1 := blk_frozen BK102.out 1
           go_wp2
           go_meet
           case rel => exact ⟨_, (false), (by first | rfl | (simp; done) | (simp [*]; done)), H', ⟨by have := HK1.out; first | omega | exact Nat.le_refl _⟩, ⟨by (with_reducible repeat (first | refine blk_drewN ?_ _ | refine blk_drew ?_ | refine blk_alloc ?_ _)); refine blk_put (cs := #[.int .i64 ((rd_T144 l0 x9_1).f0), .int .i64 0]) ?_ 1 _ rfl; (with_reducible repeat (first | refine blk_drewN ?_ _ | refine blk_drew ?_ | refine blk_alloc ?_ _)); refine blk_put (cs := #[.int .i64 0, .int .i64 0]) ?_ 0 _ rfl; (with_reducible repeat (first | refine blk_drewN ?_ _ | refine blk_drew ?_ | refine blk_alloc ?_ _)); exact BK102.out⟩, ⟨by repeat (first | (with_reducible first | exact HB.out | apply below_alloc | apply pw_below_drewN | apply below_drew1 | refine below_set ?_ GE102.out) | exact HB.out)⟩⟩
      case rest =>
       clear HC5
       try clear c1
       try clear p1
       try clear q1
       try clear hx1
       try clear c2
       try clear c2b0
       try clear p2
       try clear c3
       try clear c3b0
       try clear c4
       try clear c4b0
       try clear c8
       try clear c8b0
       try clear c10
       try clear c10b0
       try clear p10
       try clear q10
       try clear hx10
       try clear c12
       try clear c12b0
       try clear c14
       try clear c14b0
       try clear c15
       try clear c15b0
       try clear c17
       try clear hcz11_0
       try clear hcz11_1
       try clear hcz13_0
       try clear hcz13_1
       try clear hcz16_0
       try clear hcz16_1
       try clear hcz18_0
       try clear hcz18_1
       try clear hcz19_0
       try clear hcz19_1
       try clear hcz7_0
       try clear hcz7_1
       try clear hcz9_0
       try clear hcz9_1
       try clear hfz11_0
       try clear hfz11_1
       try clear hfz13_0
       try clear hfz13_1
       try clear hfz16_0
       try clear hfz16_1
       try clear hfz18_0
       try clear hfz18_1
       try clear hfz19_0
       try clear hfz19_1
       try clear hfz7_0
       try clear hfz7_1
       try clear hfz9_0
       try clear hfz9_1
       try clear hx101_0
       try clear hx101_1
       try clear p101
       try clear q101
       obtain ⟨kq, x41_4, rfl, HA, HJ4, BK102, HB⟩ := hcut
       cases kq with
       | zero => exact absurd HA.out (by simp [span_right.j1])
       | succ kj4 =>
        have H := HA.out
        clear HA
        simp only [span_right.j1] at H
        by_cases c20 : x41_4 = true
        ·subst c20
         have H1 : (some false) = some r := by rw [if_pos rfl] at H; exact H
         clear H
         have H := H1
         clear H1
         obtain rfl := Option.some.inj H
         go_wp2
         go_ret
         exact ⟨by first | rfl | (simp [errW_none, errW_some] <;> rfl) | (simp [*, errW_none, errW_some] <;> rfl), by repeat (first | (with_reducible first | exact HB.out | apply below_alloc | apply pw_below_drewN | apply below_drew1 | refine below_set ?_ GE102.out) | exact HB.out)⟩
        ·replace c20 := Bool.eq_false_iff.mpr c20
         subst c20
         have H1 : ((span_in.f (wrap64 (x3_1 + ((rd_T144 l0 x9_1).f0)))).bind fun t104 => (if t104 = true then ((span_in.f (wrap64 ((wrap64 (x3_1 + ((rd_T144 l0 x9_1).f0))) + (mx (wrap64 (((rd_T144 l0 x9_1).f1) - 1)) 0)))).bind fun t105 => (if t105 = true then (if (wrap64 (x4_1 + ((rd_T144 l0 x9_1).f1))) > 4096 then (some false) else (span_right.l0 kj4 (wrap64 ((wrap64 (x3_1 + ((rd_T144 l0 x9_1).f0))) + ((rd_T144 l0 x9_1).f1))) (wrap64 (x4_1 + ((rd_T144 l0 x9_1).f1))) l0 (l0.length : Int) (wrap64 (x9_1 + 1)))) else (some false))) else (some false))) = some r := by rw [if_neg (show ¬ (false = true) by decide)] at H; exact H
         clear H
         have H := H1
         clear H1
         replace H := Option.bind_eq_some_iff.mp H
         obtain ⟨t104, A210, H⟩ := H
         replace H : (if t104 = true then ((span_in.f (wrap64 ((wrap64 (x3_1 + ((rd_T144 l0 x9_1).f0))) + (mx (wrap64 (((rd_T144 l0 x9_1).f1) - 1)) 0)))).bind fun t105 => (if t105 = true then (if (wrap64 (x4_1 + ((rd_T144 l0 x9_1).f1))) > 4096 then (some false) else (span_right.l0 kj4 (wrap64 ((wrap64 (x3_1 + ((rd_T144 l0 x9_1).f0))) + ((rd_T144 l0 x9_1).f1))) (wrap64 (x4_1 + ((rd_T144 l0 x9_1).f1))) l0 (l0.length : Int) (wrap64 (x9_1 + 1)))) else (some false))) else (some false)) = some r := H
         have A21 := Aside0.mk A210
         clear A210
         by_cases c22 : t104 = true
         ·subst c22
          have H1 : ((span_in.f (wrap64 ((wrap64 (x3_1 + ((rd_T144 l0 x9_1).f0))) + (mx (wrap64 (((rd_T144 l0 x9_1).f1) - 1)) 0)))).bind fun t105 => (if t105 = true then (if (wrap64 (x4_1 + ((rd_T144 l0 x9_1).f1))) > 4096 then (some false) else (span_right.l0 kj4 (wrap64 ((wrap64 (x3_1 + ((rd_T144 l0 x9_1).f0))) + ((rd_T144 l0 x9_1).f1))) (wrap64 (x4_1 + ((rd_T144 l0 x9_1).f1))) l0 (l0.length : Int) (wrap64 (x9_1 + 1)))) else (some false))) = some r := by rw [if_pos rfl] at H; exact H
          clear H
          have H := H1
          clear H1
          obtain ⟨ji23, hji23⟩ : ∃ j_ : Int, (mx (wrap64 (((rd_T144 l0 x9_1).f1) - 1)) 0) = j_ := ⟨_, rfl⟩
          replace H : ((span_in.f (wrap64 ((wrap64 (x3_1 + ((rd_T144 l0 x9_1).f0))) + (ji23)))).bind fun t105 => (if t105 = true then (if (wrap64 (x4_1 + ((rd_T144 l0 x9_1).f1))) > 4096 then (some false) else (span_right.l0 kj4 (wrap64 ((wrap64 (x3_1 + ((rd_T144 l0 x9_1).f0))) + ((rd_T144 l0 x9_1).f1))) (wrap64 (x4_1 + ((rd_T144 l0 x9_1).f1))) l0 (l0.length : Int) (wrap64 (x9_1 + 1)))) else (some false))) = some r := by first | (rw [hji23] at H; exact H) | (simp only [hji23] at H ⊢; exact H)
          (try rw [hji23] at A21)
          have hji23_ : (if (wrap64 (((rd_T144 l0 x9_1).f1) - 1)) < 0 then 0 else (wrap64 (((rd_T144 l0 x9_1).f1) - 1))) = ji23 := hji23
          replace H := Option.bind_eq_some_iff.mp H
          obtain ⟨t105, A240, H⟩ := H
          replace H : (if t105 = true then (if (wrap64 (x4_1 + ((rd_T144 l0 x9_1).f1))) > 4096 then (some false) else (span_right.l0 kj4 (wrap64 ((wrap64 (x3_1 + ((rd_T144 l0 x9_1).f0))) + ((rd_T144 l0 x9_1).f1))) (wrap64 (x4_1 + ((rd_T144 l0 x9_1).f1))) l0 (l0.length : Int) (wrap64 (x9_1 + 1)))) else (some false)) = some r := H
          have A24 := Aside0.mk A240
          clear A240
          by_cases c25 : t105 = true
          ·subst c25
           have H1 : (if (wrap64 (x4_1 + ((rd_T144 l0 x9_1).f1))) > 4096 then (some false) else (span_right.l0 kj4 (wrap64 ((wrap64 (x3_1 + ((rd_T144 l0 x9_1).f0))) + ((rd_T144 l0 x9_1).f1))) (wrap64 (x4_1 + ((rd_T144 l0 x9_1).f1))) l0 (l0.length : Int) (wrap64 (x9_1 + 1)))) = some r := by rw [if_pos rfl] at H; exact H
           clear H
           have H := H1
           clear H1
           by_cases c26 : (wrap64 (x4_1 + ((rd_T144 l0 x9_1).f1))) > 4096
           ·rw [if_pos c26] at H
            have c26b0 : decide (4096 < (wrap64 (x4_1 + ((rd_T144 l0 x9_1).f1)))) = true := decide_eq_true c26
            clear c26
            obtain rfl := Option.some.inj H
            have hcz27_0 : wc.cell? ⟨gb102, 0, none⟩ = some (.int .i64 ((rd_T144 l0 x9_1).f0)) := (blk_cell BK102.out 0).trans rfl
            have hcz27_1 : wc.cell? ⟨gb102, 1, none⟩ = some (.int .i64 ((rd_T144 l0 x9_1).f1)) := (blk_cell BK102.out 1).trans rfl
            have hfz27_0 := blk_frozen BK102.out 0
            have hfz27_1 := blk_frozen BK102.out 1
            go_wp2_with (first | ((with_reducible refine gate_callee (f := 172) rfl ?_); refine goesL_ (some 51) rfl rfl Try.func172 (by kernel_rfl) rfl #[.int .i64 (wrap64 (x3_1 + ((rd_T144 l0 x9_1).f0)))] rfl (by (try simp only [List.map_toArray, List.map_cons, List.map_nil]); first | done | rfl | (simp only [List.length_drop, List.length_take]; rfl)) ?_; (with_reducible refine (span_in.calls (wrap64 (x3_1 + ((rd_T144 l0 x9_1).f0))) true _ A21.out).mono ?_); rintro e w' ⟨rfl, ⟨nd, rfl⟩⟩; refine ⟨_, rfl, ?_⟩; clear A21) | (go_at_call 172; (with_reducible refine (span_in.calls (wrap64 ((wrap64 (x3_1 + ((rd_T144 l0 x9_1).f0))) + (ji23))) true _ A24.out).mono ?_); rintro e w' ⟨rfl, ⟨nd, rfl⟩⟩; clear A24))
            go_ret
            exact ⟨by first | rfl | (simp [errW_none, errW_some] <;> rfl) | (simp only [← hji23]; first | rfl | (simp [errW_none, errW_some] <;> rfl)) | (simp [*, errW_none, errW_some] <;> rfl), by repeat (first | (with_reducible first | exact HB.out | apply below_alloc | apply pw_below_drewN | apply below_drew1 | refine below_set ?_ GE102.out) | exact HB.out)⟩
           ·rw [if_neg c26] at H
            have c26b0 : decide (4096 < (wrap64 (x4_1 + ((rd_T144 l0 x9_1).f1)))) = false := decide_eq_false c26
            clear c26
            have H' := Aside0.mk H
            clear H
            have hcz28_0 : wc.cell? ⟨gb102, 0, none⟩ = some (.int .i64 ((rd_T144 l0 x9_1).f0)) := (blk_cell BK102.out 0).trans rfl
            have hcz28_1 : wc.cell? ⟨gb102, 1, none⟩ = some (.int .i64 ((rd_T144 l0 x9_1).f1)) := (blk_cell BK102.out 1).trans rfl
            have hfz28_0 := blk_frozen BK102.out 0
            have hfz28_1 := blk_frozen BK102.out 1
            go_wp2_with (first | ((with_reducible refine gate_callee (f := 172) rfl ?_); refine goesL_ (some 51) rfl rfl Try.func172 (by kernel_rfl) rfl #[.int .i64 (wrap64 (x3_1 + ((rd_T144 l0 x9_1).f0)))] rfl (by (try simp only [List.map_toArray, List.map_cons, List.map_nil]); first | done | rfl | (simp only [List.length_drop, List.length_take]; rfl)) ?_; (with_reducible refine (span_in.calls (wrap64 (x3_1 + ((rd_T144 l0 x9_1).f0))) true _ A21.out).mono ?_); rintro e w' ⟨rfl, ⟨nd, rfl⟩⟩; refine ⟨_, rfl, ?_⟩; clear A21) | (go_at_call 172; (with_reducible refine (span_in.calls (wrap64 ((wrap64 (x3_1 + ((rd_T144 l0 x9_1).f0))) + (ji23))) true _ A24.out).mono ?_); rintro e w' ⟨rfl, ⟨nd, rfl⟩⟩; clear A24))
            go_roundg kj4
            case measure => have := HK1.out; have := HJ4.out; omega
            case rel => exact ⟨(wrap64 ((wrap64 (x3_1 + ((rd_T144 l0 x9_1).f0))) + ((rd_T144 l0 x9_1).f1))), (wrap64 (x4_1 + ((rd_T144 l0 x9_1).f1))), (wrap64 (x9_1 + 1)), (by first | rfl | (simp; done) | (simp [*]; done)), (by first | rfl | (simp; done) | (simp [*]; done)), (by first | rfl | (simp; done) | (simp [*]; done)), H', ⟨by have := HK1.out; have := HJ4.out; omega⟩, ⟨by repeat (first | (with_reducible first | exact HB.out | apply below_alloc | apply pw_below_drewN | apply below_drew1 | refine below_set ?_ GE102.out) | exact HB.out)⟩⟩
          ·replace c25 := Bool.eq_false_iff.mpr c25
           subst c25
           have H1 : (some false) = some r := by rw [if_neg (show ¬ (false = true) by decide)] at H; exact H
           clear H
           have H := H1
           clear H1
           obtain rfl := Option.some.inj H
           have hcz29_0 : wc.cell? ⟨gb102, 0, none⟩ = some (.int .i64 ((rd_T144 l0 x9_1).f0)) := (blk_cell BK102.out 0).trans rfl
           have hcz29_1 : wc.cell? ⟨gb102, 1, none⟩ = some (.int .i64 ((rd_T144 l0 x9_1).f1)) := (blk_cell BK102.out 1).trans rfl
           have hfz29_0 := blk_frozen BK102.out 0
           have hfz29_1 := blk_frozen BK102.out 1
           go_wp2_with (first | ((with_reducible refine gate_callee (f := 172) rfl ?_); refine goesL_ (some 51) rfl rfl Try.func172 (by kernel_rfl) rfl #[.int .i64 (wrap64 (x3_1 + ((rd_T144 l0 x9_1).f0)))] rfl (by (try simp only [List.map_toArray, List.map_cons, List.map_nil]); first | done | rfl | (simp only [List.length_drop, List.length_take]; rfl)) ?_; (with_reducible refine (span_in.calls (wrap64 (x3_1 + ((rd_T144 l0 x9_1).f0))) true _ A21.out).mono ?_); rintro e w' ⟨rfl, ⟨nd, rfl⟩⟩; refine ⟨_, rfl, ?_⟩; clear A21) | (go_at_call 172; (with_reducible refine (span_in.calls (wrap64 ((wrap64 (x3_1 + ((rd_T144 l0 x9_1).f0))) + (ji23))) false _ A24.out).mono ?_); rintro e w' ⟨rfl, ⟨nd, rfl⟩⟩; clear A24))
           go_ret
           exact ⟨by first | rfl | (simp [errW_none, errW_some] <;> rfl) | (simp only [← hji23]; first | rfl | (simp [errW_none, errW_some] <;> rfl)) | (simp [*, errW_none, errW_some] <;> rfl), by repeat (first | (with_reducible first | exact HB.out | apply below_alloc | apply pw_below_drewN | apply below_drew1 | refine below_set ?_ GE102.out) | exact HB.out)⟩
         ·replace c22 := Bool.eq_false_iff.mpr c22
          subst c22
          have H1 : (some false) = some r := by rw [if_neg (show ¬ (false = true) by decide)] at H; exact H
          clear H
          have H := H1
          clear H1
          obtain rfl := Option.some.inj H
          have hcz30_0 : wc.cell? ⟨gb102, 0, none⟩ = some (.int .i64 ((rd_T144 l0 x9_1).f0)) := (blk_cell BK102.out 0).trans rfl
          have hcz30_1 : wc.cell? ⟨gb102, 1, none⟩ = some (.int .i64 ((rd_T144 l0 x9_1).f1)) := (blk_cell BK102.out 1).trans rfl
          have hfz30_0 := blk_frozen BK102.out 0
          have hfz30_1 := blk_frozen BK102.out 1
          go_wp2_with (first | ((with_reducible refine gate_callee (f := 172) rfl ?_); refine goesL_ (some 51) rfl rfl Try.func172 (by kernel_rfl) rfl #[.int .i64 (wrap64 (x3_1 + ((rd_T144 l0 x9_1).f0)))] rfl (by (try simp only [List.map_toArray, List.map_cons, List.map_nil]); first | done | rfl | (simp only [List.length_drop, List.length_take]; rfl)) ?_; (with_reducible refine (span_in.calls (wrap64 (x3_1 + ((rd_T144 l0 x9_1).f0))) false _ A21.out).mono ?_); rintro e w' ⟨rfl, ⟨nd, rfl⟩⟩; refine ⟨_, rfl, ?_⟩; clear A21))
          go_ret
          exact ⟨by first | rfl | (simp [errW_none, errW_some] <;> rfl) | (simp [*, errW_none, errW_some] <;> rfl), by repeat (first | (with_reducible first | exact HB.out | apply below_alloc | apply pw_below_drewN | apply below_drew1 | refine below_set ?_ GE102.out) | exact HB.out)⟩
     ·rw [if_neg c4] at H
      exact absurd H (by simp)
    ·rw [if_neg c3] at H
     exact absurd H (by simp)
   ·rw [if_neg c2] at H
    have c2b0 : decide (x9_1 < (l0.length : Int)) = false := decide_eq_false c2
    clear c2
    obtain rfl := Option.some.inj H
    go_wp2
    go_ret
    exact ⟨by first | rfl | (simp [errW_none, errW_some] <;> rfl) | (simp [*, errW_none, errW_some] <;> rfl), by repeat (first | (with_reducible first | exact HB.out | apply below_alloc | apply pw_below_drewN | apply below_drew1) | exact HB.out)⟩

/-! ### span_Check: function 130 -/
def span_Check.f (k : Nat) (l0 : List (S144)) : Option (Int) := if (l0.length : Int) > 1024 then (some 12) else ((span_right.f k l0).bind fun t101 => (if t101 = true then (some 0) else (some 20)))
theorem span_Check.mono : ∀ a0 k, LeO (span_Check.f k a0) (span_Check.f (k + 1) a0) := by
 intro a0 k
 unfold span_Check.f
 repeat' first
   | (with_reducible exact span_right.mono _ _)
   | (with_reducible exact LeO.refl _)
   | (with_reducible exact LeO.none _)
   | (with_reducible refine LeO.ite ?_ ?_)
   | (with_reducible refine LeO.bind ?_ (fun _ => ?_))
   | exact span_right.mono _ _
   | exact LeO.none _
   | refine LeO.ite ?_ ?_
   | refine LeO.bind ?_ (fun _ => ?_)
set_option maxHeartbeats 8000000 in
set_option maxRecDepth 100000 in
theorem span_Check.calls (k : Nat) (A0 : Option Addr) (c0 : Nat) (l0 : List (S144)) (r : Int) (w : World) (hr0 : Kd.C k144 w A0 l0.length l0) (hc0 : l0.length ≤ c0) (h : span_Check.f k l0 = some r) :
  Calls Try.prog 130 #[.slice A0 l0.length c0] w fun e w' => e = .returned (.int .i64 r) ∧ Below w.heap.size w w' := by
 have HR0 := Aside0.mk hr0
 have HC0 := Aside0.mk hc0
 clear hr0 hc0
 have HB := Aside0.mk (Below.refl w.heap.size w)
 have H : (if (l0.length : Int) > 1024 then (some 12) else ((span_right.f k l0).bind fun t101 => (if t101 = true then (some 0) else (some 20)))) = some r := h
 clear h
 by_cases c2 : (l0.length : Int) > 1024
 ·rw [if_pos c2] at H
  have c2b0 : decide (1024 < (l0.length : Int)) = true := decide_eq_true c2
  have c2b1 : decide (1024 < l0.length) = true := decide_eq_true (by omega)
  clear c2
  obtain rfl := Option.some.inj H
  go_enter Try.func130, Try.ntmps130
  go_wp2
  go_ret
  exact ⟨by first | rfl | (simp [errW_none, errW_some] <;> rfl) | (simp [*, errW_none, errW_some] <;> rfl), by repeat (first | (with_reducible first | exact HB.out | apply below_alloc | apply pw_below_drewN | apply below_drew1) | exact HB.out)⟩
 ·rw [if_neg c2] at H
  have c2b0 : decide (1024 < (l0.length : Int)) = false := decide_eq_false c2
  have c2b1 : decide (1024 < l0.length) = false := decide_eq_false (by omega)
  clear c2
  replace H := Option.bind_eq_some_iff.mp H
  obtain ⟨t101, A30, H⟩ := H
  replace H : (if t101 = true then (some 0) else (some 20)) = some r := H
  have A3 := Aside0.mk A30
  clear A30
  by_cases c4 : t101 = true
  ·subst c4
   have H1 : (some 0) = some r := by rw [if_pos rfl] at H; exact H
   clear H
   have H := H1
   clear H1
   obtain rfl := Option.some.inj H
   go_enter Try.func130, Try.ntmps130
   go_wp2_with (first | ((with_reducible refine gate_callee (f := 174) rfl ?_); refine goesL_ (some 9) rfl rfl Try.func174 (by kernel_rfl) rfl #[.slice A0 l0.length c0] rfl (by (try simp only [List.map_toArray, List.map_cons, List.map_nil]); first | done | rfl | (simp only [List.length_drop, List.length_take]; rfl)) ?_; (with_reducible refine (span_right.calls k _ _ l0 true _ ?side1 ?side2 A3.out).mono ?_); (case side1 => repeat (first | exact HR0.out | (with_reducible refine Kd.C_alloc ?_ _) | (with_reducible refine Kd.C_drewN ?_ _) | (with_reducible refine Kd.C_drew ?_))); (case side2 => exact HC0.out); rintro e w5 ⟨rfl, hb⟩; refine ⟨_, rfl, ?_⟩; have n0_ := Aside0.mk (below_step (by repeat (first | (with_reducible first | exact HB.out | apply below_alloc | apply pw_below_drewN | apply below_drew1) | exact HB.out)) hb); clear HB; have HB := n0_; clear n0_; (try clear hb); (try clear hb2); (try clear hk); (try clear hi); clear A3))
   go_ret
   exact ⟨by first | rfl | (simp [errW_none, errW_some] <;> rfl) | (simp [*, errW_none, errW_some] <;> rfl), by repeat (first | (with_reducible first | exact HB.out | apply below_alloc | apply pw_below_drewN | apply below_drew1) | exact HB.out)⟩
  ·replace c4 := Bool.eq_false_iff.mpr c4
   subst c4
   have H1 : (some 20) = some r := by rw [if_neg (show ¬ (false = true) by decide)] at H; exact H
   clear H
   have H := H1
   clear H1
   obtain rfl := Option.some.inj H
   go_enter Try.func130, Try.ntmps130
   go_wp2_with (first | ((with_reducible refine gate_callee (f := 174) rfl ?_); refine goesL_ (some 9) rfl rfl Try.func174 (by kernel_rfl) rfl #[.slice A0 l0.length c0] rfl (by (try simp only [List.map_toArray, List.map_cons, List.map_nil]); first | done | rfl | (simp only [List.length_drop, List.length_take]; rfl)) ?_; (with_reducible refine (span_right.calls k _ _ l0 false _ ?side1 ?side2 A3.out).mono ?_); (case side1 => repeat (first | exact HR0.out | (with_reducible refine Kd.C_alloc ?_ _) | (with_reducible refine Kd.C_drewN ?_ _) | (with_reducible refine Kd.C_drew ?_))); (case side2 => exact HC0.out); rintro e w6 ⟨rfl, hb⟩; refine ⟨_, rfl, ?_⟩; have n0_ := Aside0.mk (below_step (by repeat (first | (with_reducible first | exact HB.out | apply below_alloc | apply pw_below_drewN | apply below_drew1) | exact HB.out)) hb); clear HB; have HB := n0_; clear n0_; (try clear hb); (try clear hb2); (try clear hk); (try clear hi); clear A3))
   go_ret
   exact ⟨by first | rfl | (simp [errW_none, errW_some] <;> rfl) | (simp [*, errW_none, errW_some] <;> rfl), by repeat (first | (with_reducible first | exact HB.out | apply below_alloc | apply pw_below_drewN | apply below_drew1) | exact HB.out)⟩

/-! ### span_Canonical: function 47 -/
def span_Canonical.l0 : Nat → List (S144) → List (S144) → Int → Int → Option (Bool)
 | 0, _, _, _, _ => none
 | k + 1, x0, x5, x6, x7 => if x7 < x6 then (if 0 ≤ x7 then (if x7 < (x5.length : Int) then (if ((rd_T144 x5 x7).f1) = 0 then (some false) else (if x7 > 0 then (if ((rd_T144 x5 x7).f0) = 0 then (some false) else (span_Canonical.l0 k x0 x5 x6 (wrap64 (x7 + 1)))) else (span_Canonical.l0 k x0 x5 x6 (wrap64 (x7 + 1))))) else (none)) else (none)) else ((span_Check.f k x0).bind fun t103 => (some (t103 == 0)))
def span_Canonical.f (k : Nat) (l0 : List (S144)) : Option (Bool) := span_Canonical.l0 k l0 l0 (l0.length : Int) 0
theorem span_Canonical.mono_l : ∀ k, (∀ y0 y1 y2 y3, LeO (span_Canonical.l0 k y0 y1 y2 y3) (span_Canonical.l0 (k + 1) y0 y1 y2 y3))
 | 0 => fun _ _ _ _ r h => by simp [span_Canonical.l0] at h
 | k + 1 => by
  have ih0 := span_Canonical.mono_l k
  ·intro y0 y1 y2 y3
   unfold span_Canonical.l0
   repeat' first
   | (with_reducible exact ih0 _ _ _ _)
   | (with_reducible exact span_Check.mono _ _)
   | (with_reducible exact LeO.refl _)
   | (with_reducible exact LeO.none _)
   | (with_reducible refine LeO.ite ?_ ?_)
   | (with_reducible refine LeO.bind ?_ (fun _ => ?_))
   | exact ih0 _ _ _ _
   | exact span_Check.mono _ _
   | exact LeO.none _
   | refine LeO.ite ?_ ?_
   | refine LeO.bind ?_ (fun _ => ?_)
theorem span_Canonical.mono : ∀ a0 k, LeO (span_Canonical.f k a0) (span_Canonical.f (k + 1) a0) := by
 intro a0 k
 have ih0 := span_Canonical.mono_l k
 unfold span_Canonical.f
 repeat' first
   | (with_reducible exact ih0 _ _ _ _)
   | (with_reducible exact span_Check.mono _ _)
   | (with_reducible exact LeO.refl _)
   | (with_reducible exact LeO.none _)
   | (with_reducible refine LeO.ite ?_ ?_)
   | (with_reducible refine LeO.bind ?_ (fun _ => ?_))
   | exact ih0 _ _ _ _
   | exact span_Check.mono _ _
   | exact LeO.none _
   | refine LeO.ite ?_ ?_
   | refine LeO.bind ?_ (fun _ => ?_)
set_option maxHeartbeats 8000000 in
set_option maxRecDepth 100000 in
theorem span_Canonical.calls (k : Nat) (A0 : Option Addr) (c0 : Nat) (l0 : List (S144)) (r : Bool) (w : World) (hr0 : Kd.C k144 w A0 l0.length l0) (hc0 : l0.length ≤ c0) (h : span_Canonical.f k l0 = some r) :
  Calls Try.prog 47 #[.slice A0 l0.length c0] w fun e w' => e = .returned (.bool r) ∧ Below w.heap.size w w' := by
 have hu144 := Try.underlying144
 have HR0 := Aside0.mk hr0
 have HC0 := Aside0.mk hc0
 clear hr0 hc0
 have HB := Aside0.mk (Below.refl w.heap.size w)
 have H : (span_Canonical.l0 k l0 l0 (l0.length : Int) 0) = some r := h
 clear h
 have H' := Aside0.mk H
 clear H
 go_enter Try.func47, Try.ntmps47
 go_wp2
 go_loopg [7] k (fun kq v7 w' => ∃ (x7_1 : Int), v7 = .int .i64 x7_1 ∧ Aside0 (span_Canonical.l0 kq l0 l0 (l0.length : Int) x7_1 = some r) ∧ Aside0 (kq ≤ k) ∧ Aside0 (Below w.heap.size w w'))
 case atStart => exact ⟨(0), (by first | rfl | (simp; done) | (simp [*]; done)), H', ⟨Nat.le_refl _⟩, ⟨by repeat (first | (with_reducible first | exact HB.out | apply below_alloc | apply pw_below_drewN | apply below_drew1) | exact HB.out)⟩⟩
 case round =>
  clear H'
  obtain ⟨x7_1, rfl, HA, HK1, HB⟩ := hrel
  cases gk with
  | zero => exact absurd HA.out (by simp [span_Canonical.l0])
  | succ k1 =>
   have H := HA.out
   clear HA
   simp only [span_Canonical.l0] at H
   by_cases c2 : x7_1 < (l0.length : Int)
   ·rw [if_pos c2] at H
    have c2b0 : decide (x7_1 < (l0.length : Int)) = true := decide_eq_true c2
    clear c2
    by_cases c3 : 0 ≤ x7_1
    ·rw [if_pos c3] at H
     have c3b0 : decide (0 ≤ x7_1) = true := decide_eq_true c3
     clear c3
     by_cases c4 : x7_1 < (l0.length : Int)
     ·rw [if_pos c4] at H
      have c4b0 : decide (x7_1 < (l0.length : Int)) = true := decide_eq_true c4
      clear c4
      by_cases c5 : ((rd_T144 l0 x7_1).f1) = 0
      ·rw [if_pos c5] at H
       have c5b0 : (((rd_T144 l0 x7_1).f1) == 0) = true := beq_iff_eq.mpr c5
       have c5b1 : (((rd_T144 l0 x7_1).f1) != 0) = false := bne_eq_false_iff_eq.mpr c5
       clear c5
       obtain rfl := Option.some.inj H
       have p101 : 0 ≤ (x7_1 : Int) := of_decide_eq_true (by first | (with_reducible assumption) | assumption)
       have q101 : x7_1 < (l0.length : Int) := of_decide_eq_true (by first | (with_reducible assumption) | assumption)
       obtain ⟨ad101, e101, hx101_0, hx101_1⟩ := at_T144 HR0.out x7_1 p101 q101
       cases e101
       replace hx101_0 := (HB.out.cell (World.block_lt_of_cell? w _ hx101_0)).trans hx101_0
       replace hx101_1 := (HB.out.cell (World.block_lt_of_cell? w _ hx101_1)).trans hx101_1
       replace p101 := eq_true p101
       replace q101 := eq_true q101
       go_wp2_with (first | ((with_reducible refine gate_dst (N := 4) rfl ?_); refine box_event ?hg (N := 4) ?hd (cs := #[.int .i64 0, .int .i64 0]) (t := 144) ?hr ?_; (case hd => rfl); (case hg => rfl); (case hr => first | (go_simp; done) | (go_simp; rfl)); intro gb102 hg w6 hbox hb; have n0_ := Aside0.mk (below_step (by repeat (first | (with_reducible first | exact HB.out | apply below_alloc | apply pw_below_drewN | apply below_drew1) | exact HB.out)) hb); have n1_ := Aside0.mk (hbox); have n2_ := Aside0.mk ((by rw [hg]; exact (below_size (by repeat (first | (with_reducible first | exact HB.out | apply below_alloc | apply pw_below_drewN | apply below_drew1) | exact HB.out))) : w.heap.size ≤ gb102)); have n3_ := Aside0.mk ((by rw [hg]; exact (below_size (by repeat (first | (with_reducible first | exact HB.out | apply below_alloc | apply pw_below_drewN | apply below_drew1) | exact HB.out))) : w.heap.size ≤ gb102)); clear HB; have HB := n0_; have BK102 := n1_; have GW102 := n2_; have GE102 := n3_; clear n0_ n1_ n2_ n3_; clear hb hbox hg; have hcz7_0 : w6.cell? ⟨gb102, 0, none⟩ = some (.int .i64 0) := (blk_cell BK102.out 0).trans rfl; have hcz7_1 : w6.cell? ⟨gb102, 1, none⟩ = some (.int .i64 0) := (blk_cell BK102.out 1).trans rfl; have hfz7_0 := blk_frozen BK102.out 0; have hfz7_1 := blk_frozen BK102.out 1))
       go_ret
       exact ⟨by first | rfl | (simp [errW_none, errW_some] <;> rfl) | (simp [*, errW_none, errW_some] <;> rfl), by repeat (first | (with_reducible first | exact HB.out | apply below_alloc | apply pw_below_drewN | apply below_drew1 | refine below_set ?_ GE102.out) | exact HB.out)⟩
      ·rw [if_neg c5] at H
       have c5b0 : (((rd_T144 l0 x7_1).f1) == 0) = false := beq_eq_false_iff_ne.mpr c5
       have c5b1 : (((rd_T144 l0 x7_1).f1) != 0) = true := bne_iff_ne.mpr c5
       by_cases c8 : x7_1 > 0
       ·rw [if_pos c8] at H
        have c8b0 : decide (0 < x7_1) = true := decide_eq_true c8
        clear c8
        by_cases c9 : ((rd_T144 l0 x7_1).f0) = 0
        ·rw [if_pos c9] at H
         have c9b0 : (((rd_T144 l0 x7_1).f0) == 0) = true := beq_iff_eq.mpr c9
         have c9b1 : (((rd_T144 l0 x7_1).f0) != 0) = false := bne_eq_false_iff_eq.mpr c9
         clear c9
         obtain rfl := Option.some.inj H
         have p101 : 0 ≤ (x7_1 : Int) := of_decide_eq_true (by first | (with_reducible assumption) | assumption)
         have q101 : x7_1 < (l0.length : Int) := of_decide_eq_true (by first | (with_reducible assumption) | assumption)
         obtain ⟨ad101, e101, hx101_0, hx101_1⟩ := at_T144 HR0.out x7_1 p101 q101
         cases e101
         replace hx101_0 := (HB.out.cell (World.block_lt_of_cell? w _ hx101_0)).trans hx101_0
         replace hx101_1 := (HB.out.cell (World.block_lt_of_cell? w _ hx101_1)).trans hx101_1
         replace p101 := eq_true p101
         replace q101 := eq_true q101
         go_wp2_with (first | ((with_reducible refine gate_dst (N := 4) rfl ?_); refine box_event ?hg (N := 4) ?hd (cs := #[.int .i64 0, .int .i64 0]) (t := 144) ?hr ?_; (case hd => rfl); (case hg => rfl); (case hr => first | (go_simp; done) | (go_simp; rfl)); intro gb102 hg w10 hbox hb; have n0_ := Aside0.mk (below_step (by repeat (first | (with_reducible first | exact HB.out | apply below_alloc | apply pw_below_drewN | apply below_drew1) | exact HB.out)) hb); have n1_ := Aside0.mk (hbox); have n2_ := Aside0.mk ((by rw [hg]; exact (below_size (by repeat (first | (with_reducible first | exact HB.out | apply below_alloc | apply pw_below_drewN | apply below_drew1) | exact HB.out))) : w.heap.size ≤ gb102)); have n3_ := Aside0.mk ((by rw [hg]; exact (below_size (by repeat (first | (with_reducible first | exact HB.out | apply below_alloc | apply pw_below_drewN | apply below_drew1) | exact HB.out))) : w.heap.size ≤ gb102)); clear HB; have HB := n0_; have BK102 := n1_; have GW102 := n2_; have GE102 := n3_; clear n0_ n1_ n2_ n3_; clear hb hbox hg; have hcz11_0 : w10.cell? ⟨gb102, 0, none⟩ = some (.int .i64 0) := (blk_cell BK102.out 0).trans rfl; have hcz11_1 : w10.cell? ⟨gb102, 1, none⟩ = some (.int .i64 0) := (blk_cell BK102.out 1).trans rfl; have hfz11_0 := blk_frozen BK102.out 0; have hfz11_1 := blk_frozen BK102.out 1))
         go_ret
         exact ⟨by first | rfl | (simp [errW_none, errW_some] <;> rfl) | (simp [*, errW_none, errW_some] <;> rfl), by repeat (first | (with_reducible first | exact HB.out | apply below_alloc | apply pw_below_drewN | apply below_drew1 | refine below_set ?_ GE102.out) | exact HB.out)⟩
        ·rw [if_neg c9] at H
         have c9b0 : (((rd_T144 l0 x7_1).f0) == 0) = false := beq_eq_false_iff_ne.mpr c9
         have c9b1 : (((rd_T144 l0 x7_1).f0) != 0) = true := bne_iff_ne.mpr c9
         have H' := Aside0.mk H
         clear H
         have p101 : 0 ≤ (x7_1 : Int) := of_decide_eq_true (by first | (with_reducible assumption) | assumption)
         have q101 : x7_1 < (l0.length : Int) := of_decide_eq_true (by first | (with_reducible assumption) | assumption)
         obtain ⟨ad101, e101, hx101_0, hx101_1⟩ := at_T144 HR0.out x7_1 p101 q101
         cases e101
         replace hx101_0 := (HB.out.cell (World.block_lt_of_cell? w _ hx101_0)).trans hx101_0
         replace hx101_1 := (HB.out.cell (World.block_lt_of_cell? w _ hx101_1)).trans hx101_1
         replace p101 := eq_true p101
         replace q101 := eq_true q101
         go_wp2_with (first | ((with_reducible refine gate_dst (N := 4) rfl ?_); refine box_event ?hg (N := 4) ?hd (cs := #[.int .i64 0, .int .i64 0]) (t := 144) ?hr ?_; (case hd => rfl); (case hg => rfl); (case hr => first | (go_simp; done) | (go_simp; rfl)); intro gb102 hg w12 hbox hb; have n0_ := Aside0.mk (below_step (by repeat (first | (with_reducible first | exact HB.out | apply below_alloc | apply pw_below_drewN | apply below_drew1) | exact HB.out)) hb); have n1_ := Aside0.mk (hbox); have n2_ := Aside0.mk ((by rw [hg]; exact (below_size (by repeat (first | (with_reducible first | exact HB.out | apply below_alloc | apply pw_below_drewN | apply below_drew1) | exact HB.out))) : w.heap.size ≤ gb102)); have n3_ := Aside0.mk ((by rw [hg]; exact (below_size (by repeat (first | (with_reducible first | exact HB.out | apply below_alloc | apply pw_below_drewN | apply below_drew1) | exact HB.out))) : w.heap.size ≤ gb102)); clear HB; have HB := n0_; have BK102 := n1_; have GW102 := n2_; have GE102 := n3_; clear n0_ n1_ n2_ n3_; clear hb hbox hg; have hcz13_0 : w12.cell? ⟨gb102, 0, none⟩ = some (.int .i64 0) := (blk_cell BK102.out 0).trans rfl; have hcz13_1 : w12.cell? ⟨gb102, 1, none⟩ = some (.int .i64 0) := (blk_cell BK102.out 1).trans rfl; have hfz13_0 := blk_frozen BK102.out 0; have hfz13_1 := blk_frozen BK102.out 1))
         go_roundg k1
         case measure => have := HK1.out; omega
         case rel => exact ⟨(wrap64 (x7_1 + 1)), (by first | rfl | (simp; done) | (simp [*]; done)), H', ⟨by have := HK1.out; omega⟩, ⟨by repeat (first | (with_reducible first | exact HB.out | apply below_alloc | apply pw_below_drewN | apply below_drew1 | refine below_set ?_ GE102.out) | exact HB.out)⟩⟩
       ·rw [if_neg c8] at H
        have c8b0 : decide (0 < x7_1) = false := decide_eq_false c8
        clear c8
        have H' := Aside0.mk H
        clear H
        have p101 : 0 ≤ (x7_1 : Int) := of_decide_eq_true (by first | (with_reducible assumption) | assumption)
        have q101 : x7_1 < (l0.length : Int) := of_decide_eq_true (by first | (with_reducible assumption) | assumption)
        obtain ⟨ad101, e101, hx101_0, hx101_1⟩ := at_T144 HR0.out x7_1 p101 q101
        cases e101
        replace hx101_0 := (HB.out.cell (World.block_lt_of_cell? w _ hx101_0)).trans hx101_0
        replace hx101_1 := (HB.out.cell (World.block_lt_of_cell? w _ hx101_1)).trans hx101_1
        replace p101 := eq_true p101
        replace q101 := eq_true q101
        go_wp2_with (first | ((with_reducible refine gate_dst (N := 4) rfl ?_); refine box_event ?hg (N := 4) ?hd (cs := #[.int .i64 0, .int .i64 0]) (t := 144) ?hr ?_; (case hd => rfl); (case hg => rfl); (case hr => first | (go_simp; done) | (go_simp; rfl)); intro gb102 hg w14 hbox hb; have n0_ := Aside0.mk (below_step (by repeat (first | (with_reducible first | exact HB.out | apply below_alloc | apply pw_below_drewN | apply below_drew1) | exact HB.out)) hb); have n1_ := Aside0.mk (hbox); have n2_ := Aside0.mk ((by rw [hg]; exact (below_size (by repeat (first | (with_reducible first | exact HB.out | apply below_alloc | apply pw_below_drewN | apply below_drew1) | exact HB.out))) : w.heap.size ≤ gb102)); have n3_ := Aside0.mk ((by rw [hg]; exact (below_size (by repeat (first | (with_reducible first | exact HB.out | apply below_alloc | apply pw_below_drewN | apply below_drew1) | exact HB.out))) : w.heap.size ≤ gb102)); clear HB; have HB := n0_; have BK102 := n1_; have GW102 := n2_; have GE102 := n3_; clear n0_ n1_ n2_ n3_; clear hb hbox hg; have hcz15_0 : w14.cell? ⟨gb102, 0, none⟩ = some (.int .i64 0) := (blk_cell BK102.out 0).trans rfl; have hcz15_1 : w14.cell? ⟨gb102, 1, none⟩ = some (.int .i64 0) := (blk_cell BK102.out 1).trans rfl; have hfz15_0 := blk_frozen BK102.out 0; have hfz15_1 := blk_frozen BK102.out 1))
        go_roundg k1
        case measure => have := HK1.out; omega
        case rel => exact ⟨(wrap64 (x7_1 + 1)), (by first | rfl | (simp; done) | (simp [*]; done)), H', ⟨by have := HK1.out; omega⟩, ⟨by repeat (first | (with_reducible first | exact HB.out | apply below_alloc | apply pw_below_drewN | apply below_drew1 | refine below_set ?_ GE102.out) | exact HB.out)⟩⟩
     ·rw [if_neg c4] at H
      exact absurd H (by simp)
    ·rw [if_neg c3] at H
     exact absurd H (by simp)
   ·rw [if_neg c2] at H
    have c2b0 : decide (x7_1 < (l0.length : Int)) = false := decide_eq_false c2
    clear c2
    replace H := Option.bind_eq_some_iff.mp H
    obtain ⟨t103, A160, H⟩ := H
    replace H : (some (t103 == 0)) = some r := H
    have A16 := Aside0.mk A160
    clear A160
    obtain rfl := Option.some.inj H
    go_wp2_with (first | ((with_reducible refine gate_callee (f := 130) rfl ?_); refine goesL_ (some 26) rfl rfl Try.func130 (by kernel_rfl) rfl #[.slice A0 l0.length c0] rfl (by (try simp only [List.map_toArray, List.map_cons, List.map_nil]); first | done | rfl | (simp only [List.length_drop, List.length_take]; rfl)) ?_; (with_reducible refine (span_Check.calls k1 _ _ l0 t103 _ ?side1 ?side2 A16.out).mono ?_); (case side1 => repeat (first | exact (Kd.C_below HR0.out HB.out) | (with_reducible refine Kd.C_alloc ?_ _) | (with_reducible refine Kd.C_drewN ?_ _) | (with_reducible refine Kd.C_drew ?_))); (case side2 => exact HC0.out); rintro e w17 ⟨rfl, hb⟩; refine ⟨_, rfl, ?_⟩; have n0_ := Aside0.mk (below_step (by repeat (first | (with_reducible first | exact HB.out | apply below_alloc | apply pw_below_drewN | apply below_drew1) | exact HB.out)) hb); clear HB; have HB := n0_; clear n0_; (try clear hb); (try clear hb2); (try clear hk); (try clear hi); clear A16))
    go_ret
    exact ⟨by first | rfl | (simp [errW_none, errW_some] <;> rfl) | (simp [*, errW_none, errW_some] <;> rfl), by repeat (first | (with_reducible first | exact HB.out | apply below_alloc | apply pw_below_drewN | apply below_drew1) | exact HB.out)⟩

/-! ### span_Count: function 187 -/
def span_Count.l0 : Nat → Int → List (S144) → Int → Int → Option (Int)
 | 0, _, _, _, _ => none
 | k + 1, x3, x9, x10, x11 => if x11 < x10 then (if 0 ≤ x11 then (if x11 < (x9.length : Int) then (span_Count.l0 k (wrap64 (x3 + ((rd_T144 x9 x11).f1))) x9 x10 (wrap64 (x11 + 1))) else (none)) else (none)) else (some x3)
def span_Count.f (k : Nat) (l0 : List (S144)) : Option (Int) := (span_Check.f k l0).bind fun t101 => (if t101 = 0 then (span_Count.l0 k 0 l0 (l0.length : Int) 0) else (some 0))
theorem span_Count.mono_l : ∀ k, (∀ y0 y1 y2 y3, LeO (span_Count.l0 k y0 y1 y2 y3) (span_Count.l0 (k + 1) y0 y1 y2 y3))
 | 0 => fun _ _ _ _ r h => by simp [span_Count.l0] at h
 | k + 1 => by
  have ih0 := span_Count.mono_l k
  ·intro y0 y1 y2 y3
   unfold span_Count.l0
   repeat' first
   | (with_reducible exact ih0 _ _ _ _)
   | (with_reducible exact span_Check.mono _ _)
   | (with_reducible exact LeO.refl _)
   | (with_reducible exact LeO.none _)
   | (with_reducible refine LeO.ite ?_ ?_)
   | (with_reducible refine LeO.bind ?_ (fun _ => ?_))
   | exact ih0 _ _ _ _
   | exact span_Check.mono _ _
   | exact LeO.none _
   | refine LeO.ite ?_ ?_
   | refine LeO.bind ?_ (fun _ => ?_)
theorem span_Count.mono : ∀ a0 k, LeO (span_Count.f k a0) (span_Count.f (k + 1) a0) := by
 intro a0 k
 have ih0 := span_Count.mono_l k
 unfold span_Count.f
 repeat' first
   | (with_reducible exact ih0 _ _ _ _)
   | (with_reducible exact span_Check.mono _ _)
   | (with_reducible exact LeO.refl _)
   | (with_reducible exact LeO.none _)
   | (with_reducible refine LeO.ite ?_ ?_)
   | (with_reducible refine LeO.bind ?_ (fun _ => ?_))
   | exact ih0 _ _ _ _
   | exact span_Check.mono _ _
   | exact LeO.none _
   | refine LeO.ite ?_ ?_
   | refine LeO.bind ?_ (fun _ => ?_)
set_option maxHeartbeats 8000000 in
set_option maxRecDepth 100000 in
theorem span_Count.calls (k : Nat) (A0 : Option Addr) (c0 : Nat) (l0 : List (S144)) (r : Int) (w : World) (hr0 : Kd.C k144 w A0 l0.length l0) (hc0 : l0.length ≤ c0) (h : span_Count.f k l0 = some r) :
  Calls Try.prog 187 #[.slice A0 l0.length c0] w fun e w' => e = .returned (.int .i64 r) ∧ Below w.heap.size w w' := by
 have hu144 := Try.underlying144
 have HR0 := Aside0.mk hr0
 have HC0 := Aside0.mk hc0
 clear hr0 hc0
 have HB := Aside0.mk (Below.refl w.heap.size w)
 have H : ((span_Check.f k l0).bind fun t101 => (if t101 = 0 then (span_Count.l0 k 0 l0 (l0.length : Int) 0) else (some 0))) = some r := h
 clear h
 replace H := Option.bind_eq_some_iff.mp H
 obtain ⟨t101, A20, H⟩ := H
 replace H : (if t101 = 0 then (span_Count.l0 k 0 l0 (l0.length : Int) 0) else (some 0)) = some r := H
 have A2 := Aside0.mk A20
 clear A20
 by_cases c3 : t101 = 0
 ·rw [if_pos c3] at H
  have c3b0 : (t101 == 0) = true := beq_iff_eq.mpr c3
  have c3b1 : (t101 != 0) = false := bne_eq_false_iff_eq.mpr c3
  clear c3
  have H' := Aside0.mk H
  clear H
  go_enter Try.func187, Try.ntmps187
  go_wp2_with (first | ((with_reducible refine gate_callee (f := 130) rfl ?_); refine goesL_ (some 7) rfl rfl Try.func130 (by kernel_rfl) rfl #[.slice A0 l0.length c0] rfl (by (try simp only [List.map_toArray, List.map_cons, List.map_nil]); first | done | rfl | (simp only [List.length_drop, List.length_take]; rfl)) ?_; (with_reducible refine (span_Check.calls k _ _ l0 t101 _ ?side1 ?side2 A2.out).mono ?_); (case side1 => repeat (first | exact HR0.out | (with_reducible refine Kd.C_alloc ?_ _) | (with_reducible refine Kd.C_drewN ?_ _) | (with_reducible refine Kd.C_drew ?_))); (case side2 => exact HC0.out); rintro e w4 ⟨rfl, hb⟩; refine ⟨_, rfl, ?_⟩; have n0_ := Aside0.mk (below_step (by repeat (first | (with_reducible first | exact HB.out | apply below_alloc | apply pw_below_drewN | apply below_drew1) | exact HB.out)) hb); clear HB; have HB := n0_; clear n0_; (try clear hb); (try clear hb2); (try clear hk); (try clear hi); clear A2))
  go_loopg [3, 11] k (fun kq v3 v11 w' => ∃ (x3_1 : Int) (x11_1 : Int), v3 = .int .i64 x3_1 ∧ v11 = .int .i64 x11_1 ∧ Aside0 (span_Count.l0 kq x3_1 l0 (l0.length : Int) x11_1 = some r) ∧ Aside0 (kq ≤ k) ∧ Aside0 (Below w.heap.size w w'))
  case atStart => exact ⟨(0), (0), (by first | rfl | (simp; done) | (simp [*]; done)), (by first | rfl | (simp; done) | (simp [*]; done)), H', ⟨Nat.le_refl _⟩, ⟨by repeat (first | (with_reducible first | exact HB.out | apply below_alloc | apply pw_below_drewN | apply below_drew1) | exact HB.out)⟩⟩
  case round =>
   clear H'
   try clear c1
   try clear p2
   try clear c3
   try clear c3b0
   try clear c3b1
   obtain ⟨x3_1, x11_1, rfl, rfl, HA, HK1, HB⟩ := hrel
   cases gk with
   | zero => exact absurd HA.out (by simp [span_Count.l0])
   | succ k1 =>
    have H := HA.out
    clear HA
    simp only [span_Count.l0] at H
    by_cases c5 : x11_1 < (l0.length : Int)
    ·rw [if_pos c5] at H
     have c5b0 : decide (x11_1 < (l0.length : Int)) = true := decide_eq_true c5
     clear c5
     by_cases c6 : 0 ≤ x11_1
     ·rw [if_pos c6] at H
      have c6b0 : decide (0 ≤ x11_1) = true := decide_eq_true c6
      clear c6
      by_cases c7 : x11_1 < (l0.length : Int)
      ·rw [if_pos c7] at H
       have c7b0 : decide (x11_1 < (l0.length : Int)) = true := decide_eq_true c7
       clear c7
       have H' := Aside0.mk H
       clear H
       have p102 : 0 ≤ (x11_1 : Int) := of_decide_eq_true (by first | (with_reducible assumption) | assumption)
       have q102 : x11_1 < (l0.length : Int) := of_decide_eq_true (by first | (with_reducible assumption) | assumption)
       obtain ⟨ad102, e102, hx102_0, hx102_1⟩ := at_T144 HR0.out x11_1 p102 q102
       cases e102
       replace hx102_0 := (HB.out.cell (World.block_lt_of_cell? w _ hx102_0)).trans hx102_0
       replace hx102_1 := (HB.out.cell (World.block_lt_of_cell? w _ hx102_1)).trans hx102_1
       replace p102 := eq_true p102
       replace q102 := eq_true q102
       go_wp2_with (first | ((with_reducible refine gate_dst (N := 5) rfl ?_); refine box_event ?hg (N := 5) ?hd (cs := #[.int .i64 0, .int .i64 0]) (t := 144) ?hr ?_; (case hd => rfl); (case hg => rfl); (case hr => first | (go_simp; done) | (go_simp; rfl)); intro gb103 hg w8 hbox hb; have n0_ := Aside0.mk (below_step (by repeat (first | (with_reducible first | exact HB.out | apply below_alloc | apply pw_below_drewN | apply below_drew1) | exact HB.out)) hb); have n1_ := Aside0.mk (hbox); have n2_ := Aside0.mk ((by rw [hg]; exact (below_size (by repeat (first | (with_reducible first | exact HB.out | apply below_alloc | apply pw_below_drewN | apply below_drew1) | exact HB.out))) : w.heap.size ≤ gb103)); have n3_ := Aside0.mk ((by rw [hg]; exact (below_size (by repeat (first | (with_reducible first | exact HB.out | apply below_alloc | apply pw_below_drewN | apply below_drew1) | exact HB.out))) : w.heap.size ≤ gb103)); clear HB; have HB := n0_; have BK103 := n1_; have GW103 := n2_; have GE103 := n3_; clear n0_ n1_ n2_ n3_; clear hb hbox hg; have hcz9_0 : w8.cell? ⟨gb103, 0, none⟩ = some (.int .i64 0) := (blk_cell BK103.out 0).trans rfl; have hcz9_1 : w8.cell? ⟨gb103, 1, none⟩ = some (.int .i64 0) := (blk_cell BK103.out 1).trans rfl; have hfz9_0 := blk_frozen BK103.out 0; have hfz9_1 := blk_frozen BK103.out 1))
       go_roundg k1
       case measure => have := HK1.out; omega
       case rel => exact ⟨(wrap64 (x3_1 + ((rd_T144 l0 x11_1).f1))), (wrap64 (x11_1 + 1)), (by first | rfl | (simp; done) | (simp [*]; done)), (by first | rfl | (simp; done) | (simp [*]; done)), H', ⟨by have := HK1.out; omega⟩, ⟨by repeat (first | (with_reducible first | exact HB.out | apply below_alloc | apply pw_below_drewN | apply below_drew1 | refine below_set ?_ GE103.out) | exact HB.out)⟩⟩
      ·rw [if_neg c7] at H
       exact absurd H (by simp)
     ·rw [if_neg c6] at H
      exact absurd H (by simp)
    ·rw [if_neg c5] at H
     have c5b0 : decide (x11_1 < (l0.length : Int)) = false := decide_eq_false c5
     clear c5
     obtain rfl := Option.some.inj H
     go_wp2
     go_ret
     exact ⟨by first | rfl | (simp [errW_none, errW_some] <;> rfl) | (simp [*, errW_none, errW_some] <;> rfl), by repeat (first | (with_reducible first | exact HB.out | apply below_alloc | apply pw_below_drewN | apply below_drew1) | exact HB.out)⟩
 ·rw [if_neg c3] at H
  have c3b0 : (t101 == 0) = false := beq_eq_false_iff_ne.mpr c3
  have c3b1 : (t101 != 0) = true := bne_iff_ne.mpr c3
  obtain rfl := Option.some.inj H
  go_enter Try.func187, Try.ntmps187
  go_wp2_with (first | ((with_reducible refine gate_callee (f := 130) rfl ?_); refine goesL_ (some 7) rfl rfl Try.func130 (by kernel_rfl) rfl #[.slice A0 l0.length c0] rfl (by (try simp only [List.map_toArray, List.map_cons, List.map_nil]); first | done | rfl | (simp only [List.length_drop, List.length_take]; rfl)) ?_; (with_reducible refine (span_Check.calls k _ _ l0 t101 _ ?side1 ?side2 A2.out).mono ?_); (case side1 => repeat (first | exact HR0.out | (with_reducible refine Kd.C_alloc ?_ _) | (with_reducible refine Kd.C_drewN ?_ _) | (with_reducible refine Kd.C_drew ?_))); (case side2 => exact HC0.out); rintro e w10 ⟨rfl, hb⟩; refine ⟨_, rfl, ?_⟩; have n0_ := Aside0.mk (below_step (by repeat (first | (with_reducible first | exact HB.out | apply below_alloc | apply pw_below_drewN | apply below_drew1) | exact HB.out)) hb); clear HB; have HB := n0_; clear n0_; (try clear hb); (try clear hb2); (try clear hk); (try clear hi); clear A2))
  go_ret
  exact ⟨by first | rfl | (simp [errW_none, errW_some] <;> rfl) | (simp [*, errW_none, errW_some] <;> rfl), by repeat (first | (with_reducible first | exact HB.out | apply below_alloc | apply pw_below_drewN | apply below_drew1) | exact HB.out)⟩

end Go.Proofs.Ytacgeafjilipdaa.P
