-- made by tprint.py, a program of this session over the kit's print
import Derived.Test.YtacgeafjilipdaaP0
import Derived.Test.YtacgeafjilipdaaMAwake07
import Derived.Test.YtacgeafjilipdaaPH07
import Derived.Test.YtacgeafjilipdaaPPairs
import Derived.Test.YtacgeafjilipdaaPR07
namespace Go.Proofs.Ytacgeafjilipdaa.P
open Go.RowKit Go.Proofs.YtacgeafjilipdaaW.PrintWords Go.Proofs.YtacgeafjilipdaaW.PrintLast Go.Proofs.YtacgeafjilipdaaW.PrintMore
attribute [local go_sem] max2_int min2_int max_two min_two max_three min_three max_four min_four
set_option linter.unusedVariables false
set_option linter.unusedSimpArgs false

/-! ### tidepolelaw07_PairsDeltas: function 7 -/
mutual
def tidepolelaw07_PairsDeltas.j0 : Nat → List Int → List Int → List Int → Int → Int → Bool → Option (Bool)
 | 0, _, _, _, _, _, _ => none
 | k + 1, x0, x3, x5, x6, x11, x86 => if x86 = true then (some false) else (if x6 = 1 then (tidepolelaw07_PairsDeltas.j1 k x0 x3 x5 x11 true) else (tidepolelaw07_PairsDeltas.j1 k x0 x3 x5 x11 ((x0.length : Int) == 0)))
def tidepolelaw07_PairsDeltas.j1 : Nat → List Int → List Int → List Int → Int → Bool → Option (Bool)
 | 0, _, _, _, _, _ => none
 | k + 1, x0, x3, x5, x11, x93 => if x93 = true then (if x11 = 0 then ((tidepolelaw07_awake.f).bind fun t122 => (some t122)) else (some false)) else ((pairs_Deltas.f k x3).bind fun bt123 => (if 0 ≤ (wrap64 ((x5.length : Int) - 1)) then (if (wrap64 ((x5.length : Int) - 1)) < (x5.length : Int) then (if x11 = (rd x5 (wrap64 ((x5.length : Int) - 1))) then (if bt123.2 = 0 then ((tidepolelaw07_same.f k bt123.1 x0).bind fun t128 => (if t128 = true then ((tidepolelaw07_awake.f).bind fun t129 => (some t129)) else (some false))) else ((tidepolelaw07_awake.f).bind fun t130 => (some t130))) else (some false)) else (none)) else (none)))
end
def tidepolelaw07_PairsDeltas.f (k : Nat) (l0 : List Int) : Option (Bool) := if (l0.length : Int) > 200 then ((tidepolelaw07_awake.f).bind fun t101 => (some t101)) else ((pairs_Absolute.f k l0).bind fun bt102 => ((tidepoleref07_Absolute.f k l0).bind fun bt106 => ((pairs_Deltas.f k l0).bind fun bt110 => ((tidepoleref07_Deltas.f k l0).bind fun bt114 => ((pairs_Sum.f k l0).bind fun bt118 => (if ((bt102.2 == 28) != (bt106.2 == 1)) = true then (tidepolelaw07_PairsDeltas.j0 k l0 bt102.1 bt106.1 bt106.2 bt118.1 true) else (if ((bt102.2 == 0) != (bt106.2 == 0)) = true then (tidepolelaw07_PairsDeltas.j0 k l0 bt102.1 bt106.1 bt106.2 bt118.1 true) else (if ((bt110.2 == 28) != (bt114.2 == 1)) = true then (tidepolelaw07_PairsDeltas.j0 k l0 bt102.1 bt106.1 bt106.2 bt118.1 true) else (if ((bt110.2 == 0) != (bt114.2 == 0)) = true then (tidepolelaw07_PairsDeltas.j0 k l0 bt102.1 bt106.1 bt106.2 bt118.1 true) else (if bt118.2 = bt102.2 then ((tidepolelaw07_same.f k bt102.1 bt106.1).bind fun t120 => (if t120 = true then ((tidepolelaw07_same.f k bt110.1 bt114.1).bind fun t121 => (tidepolelaw07_PairsDeltas.j0 k l0 bt102.1 bt106.1 bt106.2 bt118.1 (!t121))) else (tidepolelaw07_PairsDeltas.j0 k l0 bt102.1 bt106.1 bt106.2 bt118.1 true))) else (tidepolelaw07_PairsDeltas.j0 k l0 bt102.1 bt106.1 bt106.2 bt118.1 true)))))))))))
theorem tidepolelaw07_PairsDeltas.mono_l : ∀ k, (∀ y0 y1 y2 y3 y4 y5, LeO (tidepolelaw07_PairsDeltas.j0 k y0 y1 y2 y3 y4 y5) (tidepolelaw07_PairsDeltas.j0 (k + 1) y0 y1 y2 y3 y4 y5)) ∧ (∀ y0 y1 y2 y3 y4, LeO (tidepolelaw07_PairsDeltas.j1 k y0 y1 y2 y3 y4) (tidepolelaw07_PairsDeltas.j1 (k + 1) y0 y1 y2 y3 y4))
 | 0 => ⟨fun _ _ _ _ _ _ r h => by simp [tidepolelaw07_PairsDeltas.j0] at h, fun _ _ _ _ _ r h => by simp [tidepolelaw07_PairsDeltas.j1] at h⟩
 | k + 1 => by
  obtain ⟨ih0, ih1⟩ := tidepolelaw07_PairsDeltas.mono_l k
  refine ⟨?_, ?_⟩
  ·intro y0 y1 y2 y3 y4 y5
   unfold tidepolelaw07_PairsDeltas.j0
   repeat' first
   | (with_reducible exact ih0 _ _ _ _ _ _)
   | (with_reducible exact ih1 _ _ _ _ _)
   | (with_reducible exact pairs_Absolute.mono _ _)
   | (with_reducible exact pairs_Deltas.mono _ _)
   | (with_reducible exact pairs_Sum.mono _ _)
   | (with_reducible exact tidepolelaw07_same.mono _ _ _)
   | (with_reducible exact tidepoleref07_Absolute.mono _ _)
   | (with_reducible exact tidepoleref07_Deltas.mono _ _)
   | (with_reducible exact LeO.refl _)
   | (with_reducible exact LeO.none _)
   | (with_reducible refine LeO.ite ?_ ?_)
   | (with_reducible refine LeO.bind ?_ (fun _ => ?_))
   | exact ih0 _ _ _ _ _ _
   | exact ih1 _ _ _ _ _
   | exact pairs_Absolute.mono _ _
   | exact pairs_Deltas.mono _ _
   | exact pairs_Sum.mono _ _
   | exact tidepolelaw07_same.mono _ _ _
   | exact tidepoleref07_Absolute.mono _ _
   | exact tidepoleref07_Deltas.mono _ _
   | exact LeO.none _
   | refine LeO.ite ?_ ?_
   | refine LeO.bind ?_ (fun _ => ?_)
  ·intro y0 y1 y2 y3 y4
   unfold tidepolelaw07_PairsDeltas.j1
   repeat' first
   | (with_reducible exact ih0 _ _ _ _ _ _)
   | (with_reducible exact ih1 _ _ _ _ _)
   | (with_reducible exact pairs_Absolute.mono _ _)
   | (with_reducible exact pairs_Deltas.mono _ _)
   | (with_reducible exact pairs_Sum.mono _ _)
   | (with_reducible exact tidepolelaw07_same.mono _ _ _)
   | (with_reducible exact tidepoleref07_Absolute.mono _ _)
   | (with_reducible exact tidepoleref07_Deltas.mono _ _)
   | (with_reducible exact LeO.refl _)
   | (with_reducible exact LeO.none _)
   | (with_reducible refine LeO.ite ?_ ?_)
   | (with_reducible refine LeO.bind ?_ (fun _ => ?_))
   | exact ih0 _ _ _ _ _ _
   | exact ih1 _ _ _ _ _
   | exact pairs_Absolute.mono _ _
   | exact pairs_Deltas.mono _ _
   | exact pairs_Sum.mono _ _
   | exact tidepolelaw07_same.mono _ _ _
   | exact tidepoleref07_Absolute.mono _ _
   | exact tidepoleref07_Deltas.mono _ _
   | exact LeO.none _
   | refine LeO.ite ?_ ?_
   | refine LeO.bind ?_ (fun _ => ?_)
theorem tidepolelaw07_PairsDeltas.mono : ∀ a0 k, LeO (tidepolelaw07_PairsDeltas.f k a0) (tidepolelaw07_PairsDeltas.f (k + 1) a0) := by
 intro a0 k
 obtain ⟨ih0, ih1⟩ := tidepolelaw07_PairsDeltas.mono_l k
 unfold tidepolelaw07_PairsDeltas.f
 repeat' first
   | (with_reducible exact ih0 _ _ _ _ _ _)
   | (with_reducible exact ih1 _ _ _ _ _)
   | (with_reducible exact pairs_Absolute.mono _ _)
   | (with_reducible exact pairs_Deltas.mono _ _)
   | (with_reducible exact pairs_Sum.mono _ _)
   | (with_reducible exact tidepolelaw07_same.mono _ _ _)
   | (with_reducible exact tidepoleref07_Absolute.mono _ _)
   | (with_reducible exact tidepoleref07_Deltas.mono _ _)
   | (with_reducible exact LeO.refl _)
   | (with_reducible exact LeO.none _)
   | (with_reducible refine LeO.ite ?_ ?_)
   | (with_reducible refine LeO.bind ?_ (fun _ => ?_))
   | exact ih0 _ _ _ _ _ _
   | exact ih1 _ _ _ _ _
   | exact pairs_Absolute.mono _ _
   | exact pairs_Deltas.mono _ _
   | exact pairs_Sum.mono _ _
   | exact tidepolelaw07_same.mono _ _ _
   | exact tidepoleref07_Absolute.mono _ _
   | exact tidepoleref07_Deltas.mono _ _
   | exact LeO.none _
   | refine LeO.ite ?_ ?_
   | refine LeO.bind ?_ (fun _ => ?_)
set_option maxHeartbeats 8000000 in
set_option maxRecDepth 100000 in
theorem tidepolelaw07_PairsDeltas.calls (k : Nat) (A0 : Option Addr) (c0 : Nat) (l0 : List Int) (r : Bool) (w : World) (hr0 : Kd.C (Kd.int .i64) w A0 l0.length l0) (hc0 : l0.length ≤ c0) (h : tidepolelaw07_PairsDeltas.f k l0 = some r) :
  Calls Try.prog 7 #[.slice A0 l0.length c0] w fun e w' => e = .returned (.bool r) ∧ Below w.heap.size w w' := by
 have HR0 := Aside0.mk hr0
 have HC0 := Aside0.mk hc0
 clear hr0 hc0
 have HB := Aside0.mk (Below.refl w.heap.size w)
 have H : (if (l0.length : Int) > 200 then ((tidepolelaw07_awake.f).bind fun t101 => (some t101)) else ((pairs_Absolute.f k l0).bind fun bt102 => ((tidepoleref07_Absolute.f k l0).bind fun bt106 => ((pairs_Deltas.f k l0).bind fun bt110 => ((tidepoleref07_Deltas.f k l0).bind fun bt114 => ((pairs_Sum.f k l0).bind fun bt118 => (if ((bt102.2 == 28) != (bt106.2 == 1)) = true then (tidepolelaw07_PairsDeltas.j0 k l0 bt102.1 bt106.1 bt106.2 bt118.1 true) else (if ((bt102.2 == 0) != (bt106.2 == 0)) = true then (tidepolelaw07_PairsDeltas.j0 k l0 bt102.1 bt106.1 bt106.2 bt118.1 true) else (if ((bt110.2 == 28) != (bt114.2 == 1)) = true then (tidepolelaw07_PairsDeltas.j0 k l0 bt102.1 bt106.1 bt106.2 bt118.1 true) else (if ((bt110.2 == 0) != (bt114.2 == 0)) = true then (tidepolelaw07_PairsDeltas.j0 k l0 bt102.1 bt106.1 bt106.2 bt118.1 true) else (if bt118.2 = bt102.2 then ((tidepolelaw07_same.f k bt102.1 bt106.1).bind fun t120 => (if t120 = true then ((tidepolelaw07_same.f k bt110.1 bt114.1).bind fun t121 => (tidepolelaw07_PairsDeltas.j0 k l0 bt102.1 bt106.1 bt106.2 bt118.1 (!t121))) else (tidepolelaw07_PairsDeltas.j0 k l0 bt102.1 bt106.1 bt106.2 bt118.1 true))) else (tidepolelaw07_PairsDeltas.j0 k l0 bt102.1 bt106.1 bt106.2 bt118.1 true)))))))))))) = some r := h
 clear h
 by_cases c2 : (l0.length : Int) > 200
 ·rw [if_pos c2] at H
  have c2b0 : decide (200 < (l0.length : Int)) = true := decide_eq_true c2
  have c2b1 : decide (200 < l0.length) = true := decide_eq_true (by omega)
  clear c2
  replace H := Option.bind_eq_some_iff.mp H
  obtain ⟨t101, A30, H⟩ := H
  replace H : (some t101) = some r := H
  have A3 := Aside0.mk A30
  clear A30
  obtain rfl := Option.some.inj H
  go_enter Try.func7, Try.ntmps7
  go_wp2_with (first | ((with_reducible refine gate_callee (f := 30) rfl ?_); refine goesL_ (some 18) rfl rfl Try.func30 (by kernel_rfl) rfl #[] rfl (by (try simp only [List.map_toArray, List.map_cons, List.map_nil]); first | done | rfl | (simp only [List.length_drop, List.length_take]; rfl)) ?_; (with_reducible refine (tidepolelaw07_awake.calls  t101 _ A3.out).mono ?_); rintro e w4 ⟨rfl, hb⟩; refine ⟨_, rfl, ?_⟩; have n0_ := Aside0.mk (below_step (by repeat (first | (with_reducible first | exact HB.out | apply below_alloc | apply pw_below_drewN | apply below_drew1) | exact HB.out)) hb); clear HB; have HB := n0_; clear n0_; (try clear hb); (try clear hb2); (try clear hk); (try clear hi); clear A3))
  go_ret
  exact ⟨by first | rfl | (simp [errW_none, errW_some] <;> rfl) | (simp [*, errW_none, errW_some] <;> rfl), by repeat (first | (with_reducible first | exact HB.out | apply below_alloc | apply pw_below_drewN | apply below_drew1) | exact HB.out)⟩
 ·rw [if_neg c2] at H
  have c2b0 : decide (200 < (l0.length : Int)) = false := decide_eq_false c2
  have c2b1 : decide (200 < l0.length) = false := decide_eq_false (by omega)
  clear c2
  replace H := Option.bind_eq_some_iff.mp H
  obtain ⟨⟨t102, t103⟩, A50, H⟩ := H
  replace H : ((tidepoleref07_Absolute.f k l0).bind fun bt106 => ((pairs_Deltas.f k l0).bind fun bt110 => ((tidepoleref07_Deltas.f k l0).bind fun bt114 => ((pairs_Sum.f k l0).bind fun bt118 => (if ((t103 == 28) != (bt106.2 == 1)) = true then (tidepolelaw07_PairsDeltas.j0 k l0 t102 bt106.1 bt106.2 bt118.1 true) else (if ((t103 == 0) != (bt106.2 == 0)) = true then (tidepolelaw07_PairsDeltas.j0 k l0 t102 bt106.1 bt106.2 bt118.1 true) else (if ((bt110.2 == 28) != (bt114.2 == 1)) = true then (tidepolelaw07_PairsDeltas.j0 k l0 t102 bt106.1 bt106.2 bt118.1 true) else (if ((bt110.2 == 0) != (bt114.2 == 0)) = true then (tidepolelaw07_PairsDeltas.j0 k l0 t102 bt106.1 bt106.2 bt118.1 true) else (if bt118.2 = t103 then ((tidepolelaw07_same.f k t102 bt106.1).bind fun t120 => (if t120 = true then ((tidepolelaw07_same.f k bt110.1 bt114.1).bind fun t121 => (tidepolelaw07_PairsDeltas.j0 k l0 t102 bt106.1 bt106.2 bt118.1 (!t121))) else (tidepolelaw07_PairsDeltas.j0 k l0 t102 bt106.1 bt106.2 bt118.1 true))) else (tidepolelaw07_PairsDeltas.j0 k l0 t102 bt106.1 bt106.2 bt118.1 true)))))))))) = some r := H
  have A5 := Aside0.mk A50
  clear A50
  replace H := Option.bind_eq_some_iff.mp H
  obtain ⟨⟨t106, t107⟩, A60, H⟩ := H
  replace H : ((pairs_Deltas.f k l0).bind fun bt110 => ((tidepoleref07_Deltas.f k l0).bind fun bt114 => ((pairs_Sum.f k l0).bind fun bt118 => (if ((t103 == 28) != (t107 == 1)) = true then (tidepolelaw07_PairsDeltas.j0 k l0 t102 t106 t107 bt118.1 true) else (if ((t103 == 0) != (t107 == 0)) = true then (tidepolelaw07_PairsDeltas.j0 k l0 t102 t106 t107 bt118.1 true) else (if ((bt110.2 == 28) != (bt114.2 == 1)) = true then (tidepolelaw07_PairsDeltas.j0 k l0 t102 t106 t107 bt118.1 true) else (if ((bt110.2 == 0) != (bt114.2 == 0)) = true then (tidepolelaw07_PairsDeltas.j0 k l0 t102 t106 t107 bt118.1 true) else (if bt118.2 = t103 then ((tidepolelaw07_same.f k t102 t106).bind fun t120 => (if t120 = true then ((tidepolelaw07_same.f k bt110.1 bt114.1).bind fun t121 => (tidepolelaw07_PairsDeltas.j0 k l0 t102 t106 t107 bt118.1 (!t121))) else (tidepolelaw07_PairsDeltas.j0 k l0 t102 t106 t107 bt118.1 true))) else (tidepolelaw07_PairsDeltas.j0 k l0 t102 t106 t107 bt118.1 true))))))))) = some r := H
  have A6 := Aside0.mk A60
  clear A60
  replace H := Option.bind_eq_some_iff.mp H
  obtain ⟨⟨t110, t111⟩, A70, H⟩ := H
  replace H : ((tidepoleref07_Deltas.f k l0).bind fun bt114 => ((pairs_Sum.f k l0).bind fun bt118 => (if ((t103 == 28) != (t107 == 1)) = true then (tidepolelaw07_PairsDeltas.j0 k l0 t102 t106 t107 bt118.1 true) else (if ((t103 == 0) != (t107 == 0)) = true then (tidepolelaw07_PairsDeltas.j0 k l0 t102 t106 t107 bt118.1 true) else (if ((t111 == 28) != (bt114.2 == 1)) = true then (tidepolelaw07_PairsDeltas.j0 k l0 t102 t106 t107 bt118.1 true) else (if ((t111 == 0) != (bt114.2 == 0)) = true then (tidepolelaw07_PairsDeltas.j0 k l0 t102 t106 t107 bt118.1 true) else (if bt118.2 = t103 then ((tidepolelaw07_same.f k t102 t106).bind fun t120 => (if t120 = true then ((tidepolelaw07_same.f k t110 bt114.1).bind fun t121 => (tidepolelaw07_PairsDeltas.j0 k l0 t102 t106 t107 bt118.1 (!t121))) else (tidepolelaw07_PairsDeltas.j0 k l0 t102 t106 t107 bt118.1 true))) else (tidepolelaw07_PairsDeltas.j0 k l0 t102 t106 t107 bt118.1 true)))))))) = some r := H
  have A7 := Aside0.mk A70
  clear A70
  replace H := Option.bind_eq_some_iff.mp H
  obtain ⟨⟨t114, t115⟩, A80, H⟩ := H
  replace H : ((pairs_Sum.f k l0).bind fun bt118 => (if ((t103 == 28) != (t107 == 1)) = true then (tidepolelaw07_PairsDeltas.j0 k l0 t102 t106 t107 bt118.1 true) else (if ((t103 == 0) != (t107 == 0)) = true then (tidepolelaw07_PairsDeltas.j0 k l0 t102 t106 t107 bt118.1 true) else (if ((t111 == 28) != (t115 == 1)) = true then (tidepolelaw07_PairsDeltas.j0 k l0 t102 t106 t107 bt118.1 true) else (if ((t111 == 0) != (t115 == 0)) = true then (tidepolelaw07_PairsDeltas.j0 k l0 t102 t106 t107 bt118.1 true) else (if bt118.2 = t103 then ((tidepolelaw07_same.f k t102 t106).bind fun t120 => (if t120 = true then ((tidepolelaw07_same.f k t110 t114).bind fun t121 => (tidepolelaw07_PairsDeltas.j0 k l0 t102 t106 t107 bt118.1 (!t121))) else (tidepolelaw07_PairsDeltas.j0 k l0 t102 t106 t107 bt118.1 true))) else (tidepolelaw07_PairsDeltas.j0 k l0 t102 t106 t107 bt118.1 true))))))) = some r := H
  have A8 := Aside0.mk A80
  clear A80
  replace H := Option.bind_eq_some_iff.mp H
  obtain ⟨⟨t118, t119⟩, A90, H⟩ := H
  replace H : (if ((t103 == 28) != (t107 == 1)) = true then (tidepolelaw07_PairsDeltas.j0 k l0 t102 t106 t107 t118 true) else (if ((t103 == 0) != (t107 == 0)) = true then (tidepolelaw07_PairsDeltas.j0 k l0 t102 t106 t107 t118 true) else (if ((t111 == 28) != (t115 == 1)) = true then (tidepolelaw07_PairsDeltas.j0 k l0 t102 t106 t107 t118 true) else (if ((t111 == 0) != (t115 == 0)) = true then (tidepolelaw07_PairsDeltas.j0 k l0 t102 t106 t107 t118 true) else (if t119 = t103 then ((tidepolelaw07_same.f k t102 t106).bind fun t120 => (if t120 = true then ((tidepolelaw07_same.f k t110 t114).bind fun t121 => (tidepolelaw07_PairsDeltas.j0 k l0 t102 t106 t107 t118 (!t121))) else (tidepolelaw07_PairsDeltas.j0 k l0 t102 t106 t107 t118 true))) else (tidepolelaw07_PairsDeltas.j0 k l0 t102 t106 t107 t118 true)))))) = some r := H
  have A9 := Aside0.mk A90
  clear A90
  have HC10 := Aside0.mk H
  clear H
  go_enter Try.func7, Try.ntmps7
  go_upto_region 8 with (first | ((with_reducible refine gate_callee (f := 48) rfl ?_); refine goesL_ (some 21) rfl rfl Try.func48 (by kernel_rfl) rfl #[.slice A0 l0.length c0] rfl (by (try simp only [List.map_toArray, List.map_cons, List.map_nil]); first | done | rfl | (simp only [List.length_drop, List.length_take]; rfl)) ?_; (with_reducible refine (pairs_Absolute.calls k _ _ l0 t102 t103 _ ?side1 ?side2 A5.out).mono ?_); (case side1 => repeat (first | exact HR0.out | (with_reducible refine Kd.C_alloc ?_ _) | (with_reducible refine Kd.C_drewN ?_ _) | (with_reducible refine Kd.C_drew ?_))); (case side2 => exact HC0.out); rintro e w11 ⟨v104, rfl, ho0, hb⟩; refine ⟨_, rfl, ?_⟩; have n0_ := Aside0.mk (Kd.R_lower ho0 (below_size (by repeat (first | (with_reducible first | exact HB.out | apply below_alloc | apply pw_below_drewN | apply below_drew1) | exact HB.out)))); have n1_ := Aside0.mk (below_step (by repeat (first | (with_reducible first | exact HB.out | apply below_alloc | apply pw_below_drewN | apply below_drew1) | exact HB.out)) hb); clear HB; have HO105 := n0_; have HB := n1_; clear n0_ n1_; (try clear hb); (try clear hb2); (try clear hk); (try clear hi); (try clear ho0); clear A5) | ((with_reducible refine gate_callee (f := 49) rfl ?_); refine goesL_ (some 26) rfl rfl Try.func49 (by kernel_rfl) rfl #[.slice A0 l0.length c0] rfl (by (try simp only [List.map_toArray, List.map_cons, List.map_nil]); first | done | rfl | (simp only [List.length_drop, List.length_take]; rfl)) ?_; (with_reducible refine (tidepoleref07_Absolute.calls k _ _ l0 t106 t107 _ ?side1 ?side2 A6.out).mono ?_); (case side1 => repeat (first | exact (Kd.C_below HR0.out HB.out) | (with_reducible refine Kd.C_alloc ?_ _) | (with_reducible refine Kd.C_drewN ?_ _) | (with_reducible refine Kd.C_drew ?_))); (case side2 => exact HC0.out); rintro e w12 ⟨v108, rfl, ho0, hb⟩; refine ⟨_, rfl, ?_⟩; have n0_ := Aside0.mk (Kd.R_elder' (by (with_reducible repeat (first | apply Kd.R_alloc | apply Kd.R_drewN | apply Kd.R_drew)); exact HO105.out) (Kd.R_base ho0) hb); have n1_ := Aside0.mk (Kd.R_lower (Kd.R_new' ho0 (Kd.R_lt (by (with_reducible repeat (first | apply Kd.R_alloc | apply Kd.R_drewN | apply Kd.R_drew)); exact HO105.out))) (below_size (by repeat (first | (with_reducible first | exact HB.out | apply below_alloc | apply pw_below_drewN | apply below_drew1) | exact HB.out)))); have n2_ := Aside0.mk (below_step (by repeat (first | (with_reducible first | exact HB.out | apply below_alloc | apply pw_below_drewN | apply below_drew1) | exact HB.out)) hb); clear HO105; clear HB; have HO105 := n0_; have HO109 := n1_; have HB := n2_; clear n0_ n1_ n2_; (try clear hb); (try clear hb2); (try clear hk); (try clear hi); (try clear ho0); clear A6) | ((with_reducible refine gate_callee (f := 50) rfl ?_); refine goesL_ (some 31) rfl rfl Try.func50 (by kernel_rfl) rfl #[.slice A0 l0.length c0] rfl (by (try simp only [List.map_toArray, List.map_cons, List.map_nil]); first | done | rfl | (simp only [List.length_drop, List.length_take]; rfl)) ?_; (with_reducible refine (pairs_Deltas.calls k _ _ l0 t110 t111 _ ?side1 ?side2 A7.out).mono ?_); (case side1 => repeat (first | exact (Kd.C_below HR0.out HB.out) | (with_reducible refine Kd.C_alloc ?_ _) | (with_reducible refine Kd.C_drewN ?_ _) | (with_reducible refine Kd.C_drew ?_))); (case side2 => exact HC0.out); rintro e w13 ⟨v112, rfl, ho0, hb⟩; refine ⟨_, rfl, ?_⟩; have n0_ := Aside0.mk (Kd.R_elder' (by (with_reducible repeat (first | apply Kd.R_alloc | apply Kd.R_drewN | apply Kd.R_drew)); exact HO105.out) (Kd.R_base ho0) hb); have n1_ := Aside0.mk (Kd.R_elder' (by (with_reducible repeat (first | apply Kd.R_alloc | apply Kd.R_drewN | apply Kd.R_drew)); exact HO109.out) (Kd.R_base ho0) hb); have n2_ := Aside0.mk (Kd.R_lower (Kd.R_new' (Kd.R_new' ho0 (Kd.R_lt (by (with_reducible repeat (first | apply Kd.R_alloc | apply Kd.R_drewN | apply Kd.R_drew)); exact HO105.out))) (Kd.R_lt (by (with_reducible repeat (first | apply Kd.R_alloc | apply Kd.R_drewN | apply Kd.R_drew)); exact HO109.out))) (below_size (by repeat (first | (with_reducible first | exact HB.out | apply below_alloc | apply pw_below_drewN | apply below_drew1) | exact HB.out)))); have n3_ := Aside0.mk (below_step (by repeat (first | (with_reducible first | exact HB.out | apply below_alloc | apply pw_below_drewN | apply below_drew1) | exact HB.out)) hb); clear HO105; clear HO109; clear HB; have HO105 := n0_; have HO109 := n1_; have HO113 := n2_; have HB := n3_; clear n0_ n1_ n2_ n3_; (try clear hb); (try clear hb2); (try clear hk); (try clear hi); (try clear ho0); clear A7) | ((with_reducible refine gate_callee (f := 51) rfl ?_); refine goesL_ (some 36) rfl rfl Try.func51 (by kernel_rfl) rfl #[.slice A0 l0.length c0] rfl (by (try simp only [List.map_toArray, List.map_cons, List.map_nil]); first | done | rfl | (simp only [List.length_drop, List.length_take]; rfl)) ?_; (with_reducible refine (tidepoleref07_Deltas.calls k _ _ l0 t114 t115 _ ?side1 ?side2 A8.out).mono ?_); (case side1 => repeat (first | exact (Kd.C_below HR0.out HB.out) | (with_reducible refine Kd.C_alloc ?_ _) | (with_reducible refine Kd.C_drewN ?_ _) | (with_reducible refine Kd.C_drew ?_))); (case side2 => exact HC0.out); rintro e w14 ⟨v116, rfl, ho0, hb⟩; refine ⟨_, rfl, ?_⟩; have n0_ := Aside0.mk (Kd.R_elder' (by (with_reducible repeat (first | apply Kd.R_alloc | apply Kd.R_drewN | apply Kd.R_drew)); exact HO105.out) (Kd.R_base ho0) hb); have n1_ := Aside0.mk (Kd.R_elder' (by (with_reducible repeat (first | apply Kd.R_alloc | apply Kd.R_drewN | apply Kd.R_drew)); exact HO109.out) (Kd.R_base ho0) hb); have n2_ := Aside0.mk (Kd.R_elder' (by (with_reducible repeat (first | apply Kd.R_alloc | apply Kd.R_drewN | apply Kd.R_drew)); exact HO113.out) (Kd.R_base ho0) hb); have n3_ := Aside0.mk (Kd.R_lower (Kd.R_new' (Kd.R_new' (Kd.R_new' ho0 (Kd.R_lt (by (with_reducible repeat (first | apply Kd.R_alloc | apply Kd.R_drewN | apply Kd.R_drew)); exact HO105.out))) (Kd.R_lt (by (with_reducible repeat (first | apply Kd.R_alloc | apply Kd.R_drewN | apply Kd.R_drew)); exact HO109.out))) (Kd.R_lt (by (with_reducible repeat (first | apply Kd.R_alloc | apply Kd.R_drewN | apply Kd.R_drew)); exact HO113.out))) (below_size (by repeat (first | (with_reducible first | exact HB.out | apply below_alloc | apply pw_below_drewN | apply below_drew1) | exact HB.out)))); have n4_ := Aside0.mk (below_step (by repeat (first | (with_reducible first | exact HB.out | apply below_alloc | apply pw_below_drewN | apply below_drew1) | exact HB.out)) hb); clear HO105; clear HO109; clear HO113; clear HB; have HO105 := n0_; have HO109 := n1_; have HO113 := n2_; have HO117 := n3_; have HB := n4_; clear n0_ n1_ n2_ n3_ n4_; (try clear hb); (try clear hb2); (try clear hk); (try clear hi); (try clear ho0); clear A8) | ((with_reducible refine gate_callee (f := 52) rfl ?_); refine goesL_ (some 41) rfl rfl Try.func52 (by kernel_rfl) rfl #[.slice A0 l0.length c0] rfl (by (try simp only [List.map_toArray, List.map_cons, List.map_nil]); first | done | rfl | (simp only [List.length_drop, List.length_take]; rfl)) ?_; (with_reducible refine (pairs_Sum.calls k _ _ l0 t118 t119 _ ?side1 ?side2 A9.out).mono ?_); (case side1 => repeat (first | exact (Kd.C_below HR0.out HB.out) | (with_reducible refine Kd.C_alloc ?_ _) | (with_reducible refine Kd.C_drewN ?_ _) | (with_reducible refine Kd.C_drew ?_))); (case side2 => exact HC0.out); rintro e w15 ⟨rfl, hb⟩; refine ⟨_, rfl, ?_⟩; have n0_ := Aside0.mk (Kd.R_below (by (with_reducible repeat (first | apply Kd.R_alloc | apply Kd.R_drewN | apply Kd.R_drew)); exact HO105.out) hb); have n1_ := Aside0.mk (Kd.R_below (by (with_reducible repeat (first | apply Kd.R_alloc | apply Kd.R_drewN | apply Kd.R_drew)); exact HO109.out) hb); have n2_ := Aside0.mk (Kd.R_below (by (with_reducible repeat (first | apply Kd.R_alloc | apply Kd.R_drewN | apply Kd.R_drew)); exact HO113.out) hb); have n3_ := Aside0.mk (Kd.R_below (by (with_reducible repeat (first | apply Kd.R_alloc | apply Kd.R_drewN | apply Kd.R_drew)); exact HO117.out) hb); have n4_ := Aside0.mk (below_step (by repeat (first | (with_reducible first | exact HB.out | apply below_alloc | apply pw_below_drewN | apply below_drew1) | exact HB.out)) hb); clear HO105; clear HO109; clear HO113; clear HO117; clear HB; have HO105 := n0_; have HO109 := n1_; have HO113 := n2_; have HO117 := n3_; have HB := n4_; clear n0_ n1_ n2_ n3_ n4_; (try clear hb); (try clear hb2); (try clear hk); (try clear hi); clear A9))
  (try simp only [Act.put, List.setIfInBounds_toArray, List.set_cons_zero, List.set_cons_succ])
  go_cut [86] (fun v86 wc => ∃ (kq : Nat) (x86_9 : Bool), v86 = .bool x86_9 ∧ Aside0 (tidepolelaw07_PairsDeltas.j0 kq l0 t102 t106 t107 t118 x86_9 = some r) ∧ Aside0 (kq ≤ k) ∧ Aside0 (Kd.R (Kd.int .i64) 2 wc w.heap.size (fun k_ => some k_ ≠ (v108 : Value).ownBlock) v104 t102) ∧ Aside0 (Kd.R (Kd.int .i64) 2 wc w.heap.size (fun k_ => some k_ ≠ (v104 : Value).ownBlock) v108 t106) ∧ Aside0 (Below w.heap.size w wc))
  case first =>
   have H := HC10.out
   clear HC10
   by_cases c16 : ((t103 == 28) != (t107 == 1)) = true
   ·rw [if_pos c16] at H
    have c16b0 : ((t103 == 28) != (t107 == 1)) = true := c16
    (try (have c16b1 : decide ((t103 == 28) = (t107 == 1)) = false := by simpa using c16))
    (try (have c16b2 : ((t103 == 28) == (t107 == 1)) = false := by simpa using c16))
    (try (have c16b3 : ¬ ((t103 == 28) = (t107 == 1)) := by simpa using c16))
    clear c16
    (first | rw [c16b0] | (simp only [i64_w, i32_w]; rw [c16b0]) | skip)
    have H' := Aside0.mk H
    clear H
    go_wp2
    go_meet
    case rel => exact ⟨_, (true), (by first | rfl | (simp; done) | (simp [*]; done)), H', ⟨by first | omega | exact Nat.le_refl _⟩, ⟨by (with_reducible repeat (first | apply Kd.R_alloc | apply Kd.R_drewN | apply Kd.R_drew)); exact Kd.R_mono HO105.out (fun _ hk => hk.1.1.2)⟩, ⟨by (with_reducible repeat (first | apply Kd.R_alloc | apply Kd.R_drewN | apply Kd.R_drew)); exact Kd.R_mono HO109.out (fun _ hk => hk.1.1.2)⟩, ⟨by repeat (first | (with_reducible first | exact HB.out | apply below_alloc | apply pw_below_drewN | apply below_drew1) | exact HB.out)⟩⟩
   ·rw [if_neg c16] at H
    have c16b0 : ((t103 == 28) != (t107 == 1)) = false := by simpa using c16
    (try (have c16b1 : decide ((t103 == 28) = (t107 == 1)) = true := by simpa using c16))
    (try (have c16b2 : ((t103 == 28) == (t107 == 1)) = true := by simpa using c16))
    clear c16
    (first | rw [c16b0] | (simp only [i64_w, i32_w]; rw [c16b0]) | skip)
    by_cases c17 : ((t103 == 0) != (t107 == 0)) = true
    ·rw [if_pos c17] at H
     have c17b0 : ((t103 == 0) != (t107 == 0)) = true := c17
     (try (have c17b1 : decide ((t103 == 0) = (t107 == 0)) = false := by simpa using c17))
     (try (have c17b2 : ((t103 == 0) == (t107 == 0)) = false := by simpa using c17))
     (try (have c17b3 : ¬ ((t103 == 0) = (t107 == 0)) := by simpa using c17))
     clear c17
     have H' := Aside0.mk H
     clear H
     go_wp2
     go_meet
     case rel => exact ⟨_, (true), (by first | rfl | (simp; done) | (simp [*]; done)), H', ⟨by first | omega | exact Nat.le_refl _⟩, ⟨by (with_reducible repeat (first | apply Kd.R_alloc | apply Kd.R_drewN | apply Kd.R_drew)); exact Kd.R_mono HO105.out (fun _ hk => hk.1.1.2)⟩, ⟨by (with_reducible repeat (first | apply Kd.R_alloc | apply Kd.R_drewN | apply Kd.R_drew)); exact Kd.R_mono HO109.out (fun _ hk => hk.1.1.2)⟩, ⟨by repeat (first | (with_reducible first | exact HB.out | apply below_alloc | apply pw_below_drewN | apply below_drew1) | exact HB.out)⟩⟩
    ·rw [if_neg c17] at H
     have c17b0 : ((t103 == 0) != (t107 == 0)) = false := by simpa using c17
     (try (have c17b1 : decide ((t103 == 0) = (t107 == 0)) = true := by simpa using c17))
     (try (have c17b2 : ((t103 == 0) == (t107 == 0)) = true := by simpa using c17))
     clear c17
     by_cases c18 : ((t111 == 28) != (t115 == 1)) = true
     ·rw [if_pos c18] at H
      have c18b0 : ((t111 == 28) != (t115 == 1)) = true := c18
      (try (have c18b1 : decide ((t111 == 28) = (t115 == 1)) = false := by simpa using c18))
      (try (have c18b2 : ((t111 == 28) == (t115 == 1)) = false := by simpa using c18))
      (try (have c18b3 : ¬ ((t111 == 28) = (t115 == 1)) := by simpa using c18))
      clear c18
      have H' := Aside0.mk H
      clear H
      go_wp2
      go_meet
      case rel => exact ⟨_, (true), (by first | rfl | (simp; done) | (simp [*]; done)), H', ⟨by first | omega | exact Nat.le_refl _⟩, ⟨by (with_reducible repeat (first | apply Kd.R_alloc | apply Kd.R_drewN | apply Kd.R_drew)); exact Kd.R_mono HO105.out (fun _ hk => hk.1.1.2)⟩, ⟨by (with_reducible repeat (first | apply Kd.R_alloc | apply Kd.R_drewN | apply Kd.R_drew)); exact Kd.R_mono HO109.out (fun _ hk => hk.1.1.2)⟩, ⟨by repeat (first | (with_reducible first | exact HB.out | apply below_alloc | apply pw_below_drewN | apply below_drew1) | exact HB.out)⟩⟩
     ·rw [if_neg c18] at H
      have c18b0 : ((t111 == 28) != (t115 == 1)) = false := by simpa using c18
      (try (have c18b1 : decide ((t111 == 28) = (t115 == 1)) = true := by simpa using c18))
      (try (have c18b2 : ((t111 == 28) == (t115 == 1)) = true := by simpa using c18))
      clear c18
      by_cases c19 : ((t111 == 0) != (t115 == 0)) = true
      ·rw [if_pos c19] at H
       have c19b0 : ((t111 == 0) != (t115 == 0)) = true := c19
       (try (have c19b1 : decide ((t111 == 0) = (t115 == 0)) = false := by simpa using c19))
       (try (have c19b2 : ((t111 == 0) == (t115 == 0)) = false := by simpa using c19))
       (try (have c19b3 : ¬ ((t111 == 0) = (t115 == 0)) := by simpa using c19))
       clear c19
       have H' := Aside0.mk H
       clear H
       go_wp2
       go_meet
       case rel => exact ⟨_, (true), (by first | rfl | (simp; done) | (simp [*]; done)), H', ⟨by first | omega | exact Nat.le_refl _⟩, ⟨by (with_reducible repeat (first | apply Kd.R_alloc | apply Kd.R_drewN | apply Kd.R_drew)); exact Kd.R_mono HO105.out (fun _ hk => hk.1.1.2)⟩, ⟨by (with_reducible repeat (first | apply Kd.R_alloc | apply Kd.R_drewN | apply Kd.R_drew)); exact Kd.R_mono HO109.out (fun _ hk => hk.1.1.2)⟩, ⟨by repeat (first | (with_reducible first | exact HB.out | apply below_alloc | apply pw_below_drewN | apply below_drew1) | exact HB.out)⟩⟩
      ·rw [if_neg c19] at H
       have c19b0 : ((t111 == 0) != (t115 == 0)) = false := by simpa using c19
       (try (have c19b1 : decide ((t111 == 0) = (t115 == 0)) = true := by simpa using c19))
       (try (have c19b2 : ((t111 == 0) == (t115 == 0)) = true := by simpa using c19))
       clear c19
       by_cases c20 : t119 = t103
       ·rw [if_pos c20] at H
        have c20b0 : (t119 == t103) = true := beq_iff_eq.mpr c20
        have c20b1 : (t119 != t103) = false := bne_eq_false_iff_eq.mpr c20
        clear c20
        replace H := Option.bind_eq_some_iff.mp H
        obtain ⟨t120, A210, H⟩ := H
        replace H : (if t120 = true then ((tidepolelaw07_same.f k t110 t114).bind fun t121 => (tidepolelaw07_PairsDeltas.j0 k l0 t102 t106 t107 t118 (!t121))) else (tidepolelaw07_PairsDeltas.j0 k l0 t102 t106 t107 t118 true)) = some r := H
        have A21 := Aside0.mk A210
        clear A210
        by_cases c22 : t120 = true
        ·subst c22
         have H1 : ((tidepolelaw07_same.f k t110 t114).bind fun t121 => (tidepolelaw07_PairsDeltas.j0 k l0 t102 t106 t107 t118 (!t121))) = some r := by rw [if_pos rfl] at H; exact H
         clear H
         have H := H1
         clear H1
         replace H := Option.bind_eq_some_iff.mp H
         obtain ⟨t121, A230, H⟩ := H
         replace H : (tidepolelaw07_PairsDeltas.j0 k l0 t102 t106 t107 t118 (!t121)) = some r := H
         have A23 := Aside0.mk A230
         clear A230
         have H' := Aside0.mk H
         clear H
         obtain ⟨Ao24, co24, eo24⟩ := Kd.R_slice HO105.out
         subst eo24
         obtain ⟨Ao25, co25, eo25⟩ := Kd.R_slice HO109.out
         subst eo25
         go_wp2_with (first | (go_at_call 53; (with_reducible refine (tidepolelaw07_same.calls k _ _ t102 _ _ t106 true _ ?side1 ?side2 ?side3 ?side4 A21.out).mono ?_); (case side1 => repeat (first | exact (Kd.R_reads' HO105.out).2.2 | (with_reducible refine Kd.C_alloc ?_ _) | (with_reducible refine Kd.C_drewN ?_ _) | (with_reducible refine Kd.C_drew ?_))); (case side2 => exact (Kd.R_reads' HO105.out).2.1); (case side3 => repeat (first | exact (Kd.R_reads' HO109.out).2.2 | (with_reducible refine Kd.C_alloc ?_ _) | (with_reducible refine Kd.C_drewN ?_ _) | (with_reducible refine Kd.C_drew ?_))); (case side4 => exact (Kd.R_reads' HO109.out).2.1); rintro e w' ⟨rfl, ⟨nd, rfl⟩⟩; clear A21; obtain ⟨Ao26, co26, eo26⟩ := Kd.R_slice HO113.out; subst eo26; obtain ⟨Ao27, co27, eo27⟩ := Kd.R_slice HO117.out; subst eo27) | (go_at_call 53; (with_reducible refine (tidepolelaw07_same.calls k _ _ t110 _ _ t114 t121 _ ?side1 ?side2 ?side3 ?side4 A23.out).mono ?_); (case side1 => repeat (first | exact (Kd.R_reads' HO113.out).2.2 | (with_reducible refine Kd.C_alloc ?_ _) | (with_reducible refine Kd.C_drewN ?_ _) | (with_reducible refine Kd.C_drew ?_))); (case side2 => exact (Kd.R_reads' HO113.out).2.1); (case side3 => repeat (first | exact (Kd.R_reads' HO117.out).2.2 | (with_reducible refine Kd.C_alloc ?_ _) | (with_reducible refine Kd.C_drewN ?_ _) | (with_reducible refine Kd.C_drew ?_))); (case side4 => exact (Kd.R_reads' HO117.out).2.1); rintro e w' ⟨rfl, ⟨nd, rfl⟩⟩; clear A23))
         go_meet
         case rel => exact ⟨_, (!t121), (by first | rfl | (simp; done) | (simp [*]; done)), H', ⟨by first | omega | exact Nat.le_refl _⟩, ⟨by (with_reducible repeat (first | apply Kd.R_alloc | apply Kd.R_drewN | apply Kd.R_drew)); exact Kd.R_mono HO105.out (fun _ hk => hk.1.1.2)⟩, ⟨by (with_reducible repeat (first | apply Kd.R_alloc | apply Kd.R_drewN | apply Kd.R_drew)); exact Kd.R_mono HO109.out (fun _ hk => hk.1.1.2)⟩, ⟨by repeat (first | (with_reducible first | exact HB.out | apply below_alloc | apply pw_below_drewN | apply below_drew1) | exact HB.out)⟩⟩
        ·replace c22 := Bool.eq_false_iff.mpr c22
         subst c22
         have H1 : (tidepolelaw07_PairsDeltas.j0 k l0 t102 t106 t107 t118 true) = some r := by rw [if_neg (show ¬ (false = true) by decide)] at H; exact H
         clear H
         have H := H1
         clear H1
         have H' := Aside0.mk H
         clear H
         obtain ⟨Ao28, co28, eo28⟩ := Kd.R_slice HO105.out
         subst eo28
         obtain ⟨Ao29, co29, eo29⟩ := Kd.R_slice HO109.out
         subst eo29
         go_wp2_with (first | (go_at_call 53; (with_reducible refine (tidepolelaw07_same.calls k _ _ t102 _ _ t106 false _ ?side1 ?side2 ?side3 ?side4 A21.out).mono ?_); (case side1 => repeat (first | exact (Kd.R_reads' HO105.out).2.2 | (with_reducible refine Kd.C_alloc ?_ _) | (with_reducible refine Kd.C_drewN ?_ _) | (with_reducible refine Kd.C_drew ?_))); (case side2 => exact (Kd.R_reads' HO105.out).2.1); (case side3 => repeat (first | exact (Kd.R_reads' HO109.out).2.2 | (with_reducible refine Kd.C_alloc ?_ _) | (with_reducible refine Kd.C_drewN ?_ _) | (with_reducible refine Kd.C_drew ?_))); (case side4 => exact (Kd.R_reads' HO109.out).2.1); rintro e w' ⟨rfl, ⟨nd, rfl⟩⟩; clear A21))
         go_meet
         case rel => exact ⟨_, (true), (by first | rfl | (simp; done) | (simp [*]; done)), H', ⟨by first | omega | exact Nat.le_refl _⟩, ⟨by (with_reducible repeat (first | apply Kd.R_alloc | apply Kd.R_drewN | apply Kd.R_drew)); exact Kd.R_mono HO105.out (fun _ hk => hk.1.1.2)⟩, ⟨by (with_reducible repeat (first | apply Kd.R_alloc | apply Kd.R_drewN | apply Kd.R_drew)); exact Kd.R_mono HO109.out (fun _ hk => hk.1.1.2)⟩, ⟨by repeat (first | (with_reducible first | exact HB.out | apply below_alloc | apply pw_below_drewN | apply below_drew1) | exact HB.out)⟩⟩
       ·rw [if_neg c20] at H
        have c20b0 : (t119 == t103) = false := beq_eq_false_iff_ne.mpr c20
        have c20b1 : (t119 != t103) = true := bne_iff_ne.mpr c20
        have H' := Aside0.mk H
        clear H
        go_wp2
        go_meet
        case rel => exact ⟨_, (true), (by first | rfl | (simp; done) | (simp [*]; done)), H', ⟨by first | omega | exact Nat.le_refl _⟩, ⟨by (with_reducible repeat (first | apply Kd.R_alloc | apply Kd.R_drewN | apply Kd.R_drew)); exact Kd.R_mono HO105.out (fun _ hk => hk.1.1.2)⟩, ⟨by (with_reducible repeat (first | apply Kd.R_alloc | apply Kd.R_drewN | apply Kd.R_drew)); exact Kd.R_mono HO109.out (fun _ hk => hk.1.1.2)⟩, ⟨by repeat (first | (with_reducible first | exact HB.out | apply below_alloc | apply pw_below_drewN | apply below_drew1) | exact HB.out)⟩⟩
  case rest =>
   clear HC10
   try clear c1
   try clear c2
   try clear c2b0
   try clear c2b1
   try clear p2
   try clear c3
   try clear c4
   try clear c5
   try clear c7
   try clear c16
   try clear c16b0
   try clear c16b1
   try clear c16b2
   try clear c17
   try clear c17b0
   try clear c17b1
   try clear c17b2
   try clear c18
   try clear c18b0
   try clear c18b1
   try clear c18b2
   try clear c19
   try clear c19b0
   try clear c19b1
   try clear c19b2
   try clear c20
   try clear c20b0
   try clear c20b1
   try clear c22
   obtain ⟨kq, x86_9, rfl, HA, HJ9, HO_3, HO_5, HB⟩ := hcut
   cases kq with
   | zero => exact absurd HA.out (by simp [tidepolelaw07_PairsDeltas.j0])
   | succ kj9 =>
    have H := HA.out
    clear HA
    simp only [tidepolelaw07_PairsDeltas.j0] at H
    by_cases c30 : x86_9 = true
    ·subst c30
     have H1 : (some false) = some r := by rw [if_pos rfl] at H; exact H
     clear H
     have H := H1
     clear H1
     obtain rfl := Option.some.inj H
     go_wp2
     go_ret
     exact ⟨by first | rfl | (simp [errW_none, errW_some] <;> rfl) | (simp [*, errW_none, errW_some] <;> rfl), by repeat (first | (with_reducible first | exact HB.out | apply below_alloc | apply pw_below_drewN | apply below_drew1) | exact HB.out)⟩
    ·replace c30 := Bool.eq_false_iff.mpr c30
     subst c30
     have H1 : (if t107 = 1 then (tidepolelaw07_PairsDeltas.j1 kj9 l0 t102 t106 t118 true) else (tidepolelaw07_PairsDeltas.j1 kj9 l0 t102 t106 t118 ((l0.length : Int) == 0))) = some r := by rw [if_neg (show ¬ (false = true) by decide)] at H; exact H
     clear H
     have H := H1
     clear H1
     have HC31 := Aside0.mk H
     clear H
     go_upto_region 10 with (fail)
     go_cut [93] (fun v93 wc => ∃ (kq : Nat) (x93_30 : Bool), v93 = .bool x93_30 ∧ Aside0 (tidepolelaw07_PairsDeltas.j1 kq l0 t102 t106 t118 x93_30 = some r) ∧ Aside0 (kq ≤ kj9) ∧ Aside0 (Kd.R (Kd.int .i64) 2 wc w.heap.size (fun k_ => some k_ ≠ (v108 : Value).ownBlock) v104 t102) ∧ Aside0 (Kd.R (Kd.int .i64) 2 wc w.heap.size (fun k_ => some k_ ≠ (v104 : Value).ownBlock) v108 t106) ∧ Aside0 (Below w.heap.size w wc))
     case first =>
      have H := HC31.out
      clear HC31
      by_cases c32 : t107 = 1
      ·rw [if_pos c32] at H
       have c32b0 : (t107 == 1) = true := beq_iff_eq.mpr c32
       have c32b1 : (t107 != 1) = false := bne_eq_false_iff_eq.mpr c32
       clear c32
       (first | rw [c32b0] | (simp only [i64_w, i32_w]; rw [c32b0]) | skip)
       have H' := Aside0.mk H
       clear H
       go_wp2
       go_meet
       case rel => exact ⟨_, (true), (by first | rfl | (simp; done) | (simp [*]; done)), H', ⟨by have := HJ9.out; first | omega | exact Nat.le_refl _⟩, ⟨by (with_reducible repeat (first | apply Kd.R_alloc | apply Kd.R_drewN | apply Kd.R_drew)); exact HO_3.out⟩, ⟨by (with_reducible repeat (first | apply Kd.R_alloc | apply Kd.R_drewN | apply Kd.R_drew)); exact HO_5.out⟩, ⟨by repeat (first | (with_reducible first | exact HB.out | apply below_alloc | apply pw_below_drewN | apply below_drew1) | exact HB.out)⟩⟩
      ·rw [if_neg c32] at H
       have c32b0 : (t107 == 1) = false := beq_eq_false_iff_ne.mpr c32
       have c32b1 : (t107 != 1) = true := bne_iff_ne.mpr c32
       (first | rw [c32b0] | (simp only [i64_w, i32_w]; rw [c32b0]) | skip)
       have H' := Aside0.mk H
       clear H
       go_wp2
       go_meet
       case rel => exact ⟨_, (((l0.length : Int) == 0)), (by first | rfl | (simp; done) | (simp [*]; done)), H', ⟨by have := HJ9.out; first | omega | exact Nat.le_refl _⟩, ⟨by (with_reducible repeat (first | apply Kd.R_alloc | apply Kd.R_drewN | apply Kd.R_drew)); exact HO_3.out⟩, ⟨by (with_reducible repeat (first | apply Kd.R_alloc | apply Kd.R_drewN | apply Kd.R_drew)); exact HO_5.out⟩, ⟨by repeat (first | (with_reducible first | exact HB.out | apply below_alloc | apply pw_below_drewN | apply below_drew1) | exact HB.out)⟩⟩
     case rest =>
      clear HC31
      try clear c1
      try clear c2
      try clear c2b0
      try clear c2b1
      try clear p2
      try clear c3
      try clear c4
      try clear c5
      try clear c7
      try clear c16
      try clear c16b0
      try clear c16b1
      try clear c16b2
      try clear c17
      try clear c17b0
      try clear c17b1
      try clear c17b2
      try clear c18
      try clear c18b0
      try clear c18b1
      try clear c18b2
      try clear c19
      try clear c19b0
      try clear c19b1
      try clear c19b2
      try clear c20
      try clear c20b0
      try clear c20b1
      try clear c22
      try clear c30
      try clear c32
      try clear c32b0
      try clear c32b1
      try clear p2
      obtain ⟨kq, x93_30, rfl, HA, HJ30, HO_3, HO_5, HB⟩ := hcut
      cases kq with
      | zero => exact absurd HA.out (by simp [tidepolelaw07_PairsDeltas.j1])
      | succ kj30 =>
       have H := HA.out
       clear HA
       simp only [tidepolelaw07_PairsDeltas.j1] at H
       by_cases c33 : x93_30 = true
       ·subst c33
        have H1 : (if t118 = 0 then ((tidepolelaw07_awake.f).bind fun t122 => (some t122)) else (some false)) = some r := by rw [if_pos rfl] at H; exact H
        clear H
        have H := H1
        clear H1
        by_cases c34 : t118 = 0
        ·rw [if_pos c34] at H
         have c34b0 : (t118 == 0) = true := beq_iff_eq.mpr c34
         have c34b1 : (t118 != 0) = false := bne_eq_false_iff_eq.mpr c34
         clear c34
         replace H := Option.bind_eq_some_iff.mp H
         obtain ⟨t122, A350, H⟩ := H
         replace H : (some t122) = some r := H
         have A35 := Aside0.mk A350
         clear A350
         obtain rfl := Option.some.inj H
         go_wp2_with (first | (go_at_call 30; (with_reducible refine (tidepolelaw07_awake.calls  t122 _ A35.out).mono ?_); rintro e w36 ⟨rfl, hb⟩; have n0_ := Aside0.mk (Kd.R_below (by (with_reducible repeat (first | apply Kd.R_alloc | apply Kd.R_drewN | apply Kd.R_drew)); exact HO_3.out) hb); have n1_ := Aside0.mk (Kd.R_below (by (with_reducible repeat (first | apply Kd.R_alloc | apply Kd.R_drewN | apply Kd.R_drew)); exact HO_5.out) hb); have n2_ := Aside0.mk (below_step (by repeat (first | (with_reducible first | exact HB.out | apply below_alloc | apply pw_below_drewN | apply below_drew1) | exact HB.out)) hb); clear HO_3; clear HO_5; clear HB; have HO_3 := n0_; have HO_5 := n1_; have HB := n2_; clear n0_ n1_ n2_; (try clear hb); (try clear hb2); (try clear hk); (try clear hi); clear A35))
         go_ret
         exact ⟨by first | rfl | (simp [errW_none, errW_some] <;> rfl) | (simp [*, errW_none, errW_some] <;> rfl), by repeat (first | (with_reducible first | exact HB.out | apply below_alloc | apply pw_below_drewN | apply below_drew1) | exact HB.out)⟩
        ·rw [if_neg c34] at H
         have c34b0 : (t118 == 0) = false := beq_eq_false_iff_ne.mpr c34
         have c34b1 : (t118 != 0) = true := bne_iff_ne.mpr c34
         obtain rfl := Option.some.inj H
         go_wp2
         go_ret
         exact ⟨by first | rfl | (simp [errW_none, errW_some] <;> rfl) | (simp [*, errW_none, errW_some] <;> rfl), by repeat (first | (with_reducible first | exact HB.out | apply below_alloc | apply pw_below_drewN | apply below_drew1) | exact HB.out)⟩
       ·replace c33 := Bool.eq_false_iff.mpr c33
        subst c33
        have H1 : ((pairs_Deltas.f kj30 t102).bind fun bt123 => (if 0 ≤ (wrap64 ((t106.length : Int) - 1)) then (if (wrap64 ((t106.length : Int) - 1)) < (t106.length : Int) then (if t118 = (rd t106 (wrap64 ((t106.length : Int) - 1))) then (if bt123.2 = 0 then ((tidepolelaw07_same.f kj30 bt123.1 l0).bind fun t128 => (if t128 = true then ((tidepolelaw07_awake.f).bind fun t129 => (some t129)) else (some false))) else ((tidepolelaw07_awake.f).bind fun t130 => (some t130))) else (some false)) else (none)) else (none))) = some r := by rw [if_neg (show ¬ (false = true) by decide)] at H; exact H
        clear H
        have H := H1
        clear H1
        replace H := Option.bind_eq_some_iff.mp H
        obtain ⟨⟨t123, t124⟩, A370, H⟩ := H
        replace H : (if 0 ≤ (wrap64 ((t106.length : Int) - 1)) then (if (wrap64 ((t106.length : Int) - 1)) < (t106.length : Int) then (if t118 = (rd t106 (wrap64 ((t106.length : Int) - 1))) then (if t124 = 0 then ((tidepolelaw07_same.f kj30 t123 l0).bind fun t128 => (if t128 = true then ((tidepolelaw07_awake.f).bind fun t129 => (some t129)) else (some false))) else ((tidepolelaw07_awake.f).bind fun t130 => (some t130))) else (some false)) else (none)) else (none)) = some r := H
        have A37 := Aside0.mk A370
        clear A370
        obtain ⟨ji38, hji38⟩ : ∃ j_ : Int, (wrap64 ((t106.length : Int) - 1)) = j_ := ⟨_, rfl⟩
        replace H : (if 0 ≤ (ji38) then (if (ji38) < (t106.length : Int) then (if t118 = (rd t106 (ji38)) then (if t124 = 0 then ((tidepolelaw07_same.f kj30 t123 l0).bind fun t128 => (if t128 = true then ((tidepolelaw07_awake.f).bind fun t129 => (some t129)) else (some false))) else ((tidepolelaw07_awake.f).bind fun t130 => (some t130))) else (some false)) else (none)) else (none)) = some r := by first | (rw [hji38] at H; exact H) | (simp only [hji38] at H ⊢; exact H)
        (try rw [hji38] at A37)
        have hji38w : (IntKind.i64.wrap ((t106.length : Int) - 1)) = ji38 := (i64_w _).trans hji38
        by_cases c39 : 0 ≤ (ji38)
        ·rw [if_pos c39] at H
         have c39b0 : decide (0 ≤ (ji38)) = true := decide_eq_true c39
         clear c39
         by_cases c40 : (ji38) < (t106.length : Int)
         ·rw [if_pos c40] at H
          have c40b0 : decide ((ji38) < (t106.length : Int)) = true := decide_eq_true c40
          clear c40
          by_cases c41 : t118 = (rd t106 (ji38))
          ·rw [if_pos c41] at H
           have c41b0 : (t118 == (rd t106 (ji38))) = true := beq_iff_eq.mpr c41
           have c41b1 : (t118 != (rd t106 (ji38))) = false := bne_eq_false_iff_eq.mpr c41
           clear c41
           by_cases c42 : t124 = 0
           ·rw [if_pos c42] at H
            have c42b0 : (t124 == 0) = true := beq_iff_eq.mpr c42
            have c42b1 : (t124 != 0) = false := bne_eq_false_iff_eq.mpr c42
            clear c42
            replace H := Option.bind_eq_some_iff.mp H
            obtain ⟨t128, A430, H⟩ := H
            replace H : (if t128 = true then ((tidepolelaw07_awake.f).bind fun t129 => (some t129)) else (some false)) = some r := H
            have A43 := Aside0.mk A430
            clear A430
            by_cases c44 : t128 = true
            ·subst c44
             have H1 : ((tidepolelaw07_awake.f).bind fun t129 => (some t129)) = some r := by rw [if_pos rfl] at H; exact H
             clear H
             have H := H1
             clear H1
             replace H := Option.bind_eq_some_iff.mp H
             obtain ⟨t129, A450, H⟩ := H
             replace H : (some t129) = some r := H
             have A45 := Aside0.mk A450
             clear A450
             obtain rfl := Option.some.inj H
             obtain ⟨Ao46, co46, eo46⟩ := Kd.R_slice HO_3.out
             subst eo46
             go_wp2_with (first | ((with_reducible refine gate_callee (f := 50) rfl ?_); refine goesL_ (some 101) rfl rfl Try.func50 (by kernel_rfl) rfl #[.slice Ao46 t102.length co46] rfl (by (try simp only [List.map_toArray, List.map_cons, List.map_nil]); first | done | rfl | (simp only [List.length_drop, List.length_take]; rfl)) ?_; (with_reducible refine (pairs_Deltas.calls kj30 _ _ t102 t123 t124 _ ?side1 ?side2 A37.out).mono ?_); (case side1 => repeat (first | exact (Kd.R_reads' HO_3.out).2.2 | (with_reducible refine Kd.C_alloc ?_ _) | (with_reducible refine Kd.C_drewN ?_ _) | (with_reducible refine Kd.C_drew ?_))); (case side2 => exact (Kd.R_reads' HO_3.out).2.1); rintro e w47 ⟨v125, rfl, ho0, hb⟩; refine ⟨_, rfl, ?_⟩; have n0_ := Aside0.mk (Kd.R_elder' (by (with_reducible repeat (first | apply Kd.R_alloc | apply Kd.R_drewN | apply Kd.R_drew)); exact HO_3.out) (Kd.R_base ho0) hb); have n1_ := Aside0.mk (Kd.R_elder' (by (with_reducible repeat (first | apply Kd.R_alloc | apply Kd.R_drewN | apply Kd.R_drew)); exact HO_5.out) (Kd.R_base ho0) hb); have n2_ := Aside0.mk (Kd.R_lower (Kd.R_new' (Kd.R_new' ho0 (Kd.R_lt (by (with_reducible repeat (first | apply Kd.R_alloc | apply Kd.R_drewN | apply Kd.R_drew)); exact HO_3.out))) (Kd.R_lt (by (with_reducible repeat (first | apply Kd.R_alloc | apply Kd.R_drewN | apply Kd.R_drew)); exact HO_5.out))) (below_size (by repeat (first | (with_reducible first | exact HB.out | apply below_alloc | apply pw_below_drewN | apply below_drew1) | exact HB.out)))); have n3_ := Aside0.mk (below_step (by repeat (first | (with_reducible first | exact HB.out | apply below_alloc | apply pw_below_drewN | apply below_drew1) | exact HB.out)) hb); clear HO_3; clear HO_5; clear HB; have HO_3 := n0_; have HO_5 := n1_; have HO126 := n2_; have HB := n3_; clear n0_ n1_ n2_ n3_; (try clear hb); (try clear hb2); (try clear hk); (try clear hi); (try clear ho0); clear A37; obtain ⟨Ao48, co48, eo48⟩ := Kd.R_slice HO_5.out; subst eo48; have p127 : 0 ≤ ((ji38) : Int) := of_decide_eq_true (by first | (with_reducible assumption) | assumption); have q127 : (ji38) < (t106.length : Int) := of_decide_eq_true (by first | (with_reducible assumption) | assumption); obtain ⟨ad127, e127, hx127_0⟩ := Kd.at_int (Kd.R_reads' HO_5.out).2.2 (ji38) p127 q127; cases e127; replace p127 := eq_true p127; replace q127 := eq_true q127; obtain ⟨Ao49, co49, eo49⟩ := Kd.R_slice HO126.out; subst eo49) | (go_at_call 53; (with_reducible refine (tidepolelaw07_same.calls kj30 _ _ t123 _ _ l0 true _ ?side1 ?side2 ?side3 ?side4 A43.out).mono ?_); (case side1 => repeat (first | exact (Kd.R_reads' HO126.out).2.2 | (with_reducible refine Kd.C_alloc ?_ _) | (with_reducible refine Kd.C_drewN ?_ _) | (with_reducible refine Kd.C_drew ?_))); (case side2 => exact (Kd.R_reads' HO126.out).2.1); (case side3 => repeat (first | exact (Kd.C_below HR0.out HB.out) | (with_reducible refine Kd.C_alloc ?_ _) | (with_reducible refine Kd.C_drewN ?_ _) | (with_reducible refine Kd.C_drew ?_))); (case side4 => exact HC0.out); rintro e w' ⟨rfl, ⟨nd, rfl⟩⟩; clear A43) | (go_at_call 30; (with_reducible refine (tidepolelaw07_awake.calls  t129 _ A45.out).mono ?_); rintro e w50 ⟨rfl, hb⟩; have n0_ := Aside0.mk (Kd.R_below (by (with_reducible repeat (first | apply Kd.R_alloc | apply Kd.R_drewN | apply Kd.R_drew)); exact HO_3.out) hb); have n1_ := Aside0.mk (Kd.R_below (by (with_reducible repeat (first | apply Kd.R_alloc | apply Kd.R_drewN | apply Kd.R_drew)); exact HO_5.out) hb); have n2_ := Aside0.mk (Kd.R_below (by (with_reducible repeat (first | apply Kd.R_alloc | apply Kd.R_drewN | apply Kd.R_drew)); exact HO126.out) hb); have n3_ := Aside0.mk (below_step (by repeat (first | (with_reducible first | exact HB.out | apply below_alloc | apply pw_below_drewN | apply below_drew1) | exact HB.out)) hb); clear HO_3; clear HO_5; clear HO126; clear HB; have HO_3 := n0_; have HO_5 := n1_; have HO126 := n2_; have HB := n3_; clear n0_ n1_ n2_ n3_; (try clear hb); (try clear hb2); (try clear hk); (try clear hi); clear A45))
             go_ret
             exact ⟨by first | rfl | (simp [errW_none, errW_some] <;> rfl) | (simp only [← hji38]; first | rfl | (simp [errW_none, errW_some] <;> rfl)) | (simp [*, errW_none, errW_some] <;> rfl), by repeat (first | (with_reducible first | exact HB.out | apply below_alloc | apply pw_below_drewN | apply below_drew1) | exact HB.out)⟩
            ·replace c44 := Bool.eq_false_iff.mpr c44
             subst c44
             have H1 : (some false) = some r := by rw [if_neg (show ¬ (false = true) by decide)] at H; exact H
             clear H
             have H := H1
             clear H1
             obtain rfl := Option.some.inj H
             obtain ⟨Ao51, co51, eo51⟩ := Kd.R_slice HO_3.out
             subst eo51
             go_wp2_with (first | ((with_reducible refine gate_callee (f := 50) rfl ?_); refine goesL_ (some 101) rfl rfl Try.func50 (by kernel_rfl) rfl #[.slice Ao51 t102.length co51] rfl (by (try simp only [List.map_toArray, List.map_cons, List.map_nil]); first | done | rfl | (simp only [List.length_drop, List.length_take]; rfl)) ?_; (with_reducible refine (pairs_Deltas.calls kj30 _ _ t102 t123 t124 _ ?side1 ?side2 A37.out).mono ?_); (case side1 => repeat (first | exact (Kd.R_reads' HO_3.out).2.2 | (with_reducible refine Kd.C_alloc ?_ _) | (with_reducible refine Kd.C_drewN ?_ _) | (with_reducible refine Kd.C_drew ?_))); (case side2 => exact (Kd.R_reads' HO_3.out).2.1); rintro e w52 ⟨v125, rfl, ho0, hb⟩; refine ⟨_, rfl, ?_⟩; have n0_ := Aside0.mk (Kd.R_elder' (by (with_reducible repeat (first | apply Kd.R_alloc | apply Kd.R_drewN | apply Kd.R_drew)); exact HO_3.out) (Kd.R_base ho0) hb); have n1_ := Aside0.mk (Kd.R_elder' (by (with_reducible repeat (first | apply Kd.R_alloc | apply Kd.R_drewN | apply Kd.R_drew)); exact HO_5.out) (Kd.R_base ho0) hb); have n2_ := Aside0.mk (Kd.R_lower (Kd.R_new' (Kd.R_new' ho0 (Kd.R_lt (by (with_reducible repeat (first | apply Kd.R_alloc | apply Kd.R_drewN | apply Kd.R_drew)); exact HO_3.out))) (Kd.R_lt (by (with_reducible repeat (first | apply Kd.R_alloc | apply Kd.R_drewN | apply Kd.R_drew)); exact HO_5.out))) (below_size (by repeat (first | (with_reducible first | exact HB.out | apply below_alloc | apply pw_below_drewN | apply below_drew1) | exact HB.out)))); have n3_ := Aside0.mk (below_step (by repeat (first | (with_reducible first | exact HB.out | apply below_alloc | apply pw_below_drewN | apply below_drew1) | exact HB.out)) hb); clear HO_3; clear HO_5; clear HB; have HO_3 := n0_; have HO_5 := n1_; have HO126 := n2_; have HB := n3_; clear n0_ n1_ n2_ n3_; (try clear hb); (try clear hb2); (try clear hk); (try clear hi); (try clear ho0); clear A37; obtain ⟨Ao53, co53, eo53⟩ := Kd.R_slice HO_5.out; subst eo53; have p127 : 0 ≤ ((ji38) : Int) := of_decide_eq_true (by first | (with_reducible assumption) | assumption); have q127 : (ji38) < (t106.length : Int) := of_decide_eq_true (by first | (with_reducible assumption) | assumption); obtain ⟨ad127, e127, hx127_0⟩ := Kd.at_int (Kd.R_reads' HO_5.out).2.2 (ji38) p127 q127; cases e127; replace p127 := eq_true p127; replace q127 := eq_true q127; obtain ⟨Ao54, co54, eo54⟩ := Kd.R_slice HO126.out; subst eo54) | (go_at_call 53; (with_reducible refine (tidepolelaw07_same.calls kj30 _ _ t123 _ _ l0 false _ ?side1 ?side2 ?side3 ?side4 A43.out).mono ?_); (case side1 => repeat (first | exact (Kd.R_reads' HO126.out).2.2 | (with_reducible refine Kd.C_alloc ?_ _) | (with_reducible refine Kd.C_drewN ?_ _) | (with_reducible refine Kd.C_drew ?_))); (case side2 => exact (Kd.R_reads' HO126.out).2.1); (case side3 => repeat (first | exact (Kd.C_below HR0.out HB.out) | (with_reducible refine Kd.C_alloc ?_ _) | (with_reducible refine Kd.C_drewN ?_ _) | (with_reducible refine Kd.C_drew ?_))); (case side4 => exact HC0.out); rintro e w' ⟨rfl, ⟨nd, rfl⟩⟩; clear A43))
             go_ret
             exact ⟨by first | rfl | (simp [errW_none, errW_some] <;> rfl) | (simp only [← hji38]; first | rfl | (simp [errW_none, errW_some] <;> rfl)) | (simp [*, errW_none, errW_some] <;> rfl), by repeat (first | (with_reducible first | exact HB.out | apply below_alloc | apply pw_below_drewN | apply below_drew1) | exact HB.out)⟩
           ·rw [if_neg c42] at H
            have c42b0 : (t124 == 0) = false := beq_eq_false_iff_ne.mpr c42
            have c42b1 : (t124 != 0) = true := bne_iff_ne.mpr c42
            replace H := Option.bind_eq_some_iff.mp H
            obtain ⟨t130, A550, H⟩ := H
            replace H : (some t130) = some r := H
            have A55 := Aside0.mk A550
            clear A550
            obtain rfl := Option.some.inj H
            obtain ⟨Ao56, co56, eo56⟩ := Kd.R_slice HO_3.out
            subst eo56
            go_wp2_with (first | ((with_reducible refine gate_callee (f := 50) rfl ?_); refine goesL_ (some 101) rfl rfl Try.func50 (by kernel_rfl) rfl #[.slice Ao56 t102.length co56] rfl (by (try simp only [List.map_toArray, List.map_cons, List.map_nil]); first | done | rfl | (simp only [List.length_drop, List.length_take]; rfl)) ?_; (with_reducible refine (pairs_Deltas.calls kj30 _ _ t102 t123 t124 _ ?side1 ?side2 A37.out).mono ?_); (case side1 => repeat (first | exact (Kd.R_reads' HO_3.out).2.2 | (with_reducible refine Kd.C_alloc ?_ _) | (with_reducible refine Kd.C_drewN ?_ _) | (with_reducible refine Kd.C_drew ?_))); (case side2 => exact (Kd.R_reads' HO_3.out).2.1); rintro e w57 ⟨v125, rfl, ho0, hb⟩; refine ⟨_, rfl, ?_⟩; have n0_ := Aside0.mk (Kd.R_elder' (by (with_reducible repeat (first | apply Kd.R_alloc | apply Kd.R_drewN | apply Kd.R_drew)); exact HO_3.out) (Kd.R_base ho0) hb); have n1_ := Aside0.mk (Kd.R_elder' (by (with_reducible repeat (first | apply Kd.R_alloc | apply Kd.R_drewN | apply Kd.R_drew)); exact HO_5.out) (Kd.R_base ho0) hb); have n2_ := Aside0.mk (Kd.R_lower (Kd.R_new' (Kd.R_new' ho0 (Kd.R_lt (by (with_reducible repeat (first | apply Kd.R_alloc | apply Kd.R_drewN | apply Kd.R_drew)); exact HO_3.out))) (Kd.R_lt (by (with_reducible repeat (first | apply Kd.R_alloc | apply Kd.R_drewN | apply Kd.R_drew)); exact HO_5.out))) (below_size (by repeat (first | (with_reducible first | exact HB.out | apply below_alloc | apply pw_below_drewN | apply below_drew1) | exact HB.out)))); have n3_ := Aside0.mk (below_step (by repeat (first | (with_reducible first | exact HB.out | apply below_alloc | apply pw_below_drewN | apply below_drew1) | exact HB.out)) hb); clear HO_3; clear HO_5; clear HB; have HO_3 := n0_; have HO_5 := n1_; have HO126 := n2_; have HB := n3_; clear n0_ n1_ n2_ n3_; (try clear hb); (try clear hb2); (try clear hk); (try clear hi); (try clear ho0); clear A37; obtain ⟨Ao58, co58, eo58⟩ := Kd.R_slice HO_5.out; subst eo58; have p127 : 0 ≤ ((ji38) : Int) := of_decide_eq_true (by first | (with_reducible assumption) | assumption); have q127 : (ji38) < (t106.length : Int) := of_decide_eq_true (by first | (with_reducible assumption) | assumption); obtain ⟨ad127, e127, hx127_0⟩ := Kd.at_int (Kd.R_reads' HO_5.out).2.2 (ji38) p127 q127; cases e127; replace p127 := eq_true p127; replace q127 := eq_true q127) | (go_at_call 30; (with_reducible refine (tidepolelaw07_awake.calls  t130 _ A55.out).mono ?_); rintro e w59 ⟨rfl, hb⟩; have n0_ := Aside0.mk (Kd.R_below (by (with_reducible repeat (first | apply Kd.R_alloc | apply Kd.R_drewN | apply Kd.R_drew)); exact HO_3.out) hb); have n1_ := Aside0.mk (Kd.R_below (by (with_reducible repeat (first | apply Kd.R_alloc | apply Kd.R_drewN | apply Kd.R_drew)); exact HO_5.out) hb); have n2_ := Aside0.mk (Kd.R_below (by (with_reducible repeat (first | apply Kd.R_alloc | apply Kd.R_drewN | apply Kd.R_drew)); exact HO126.out) hb); have n3_ := Aside0.mk (below_step (by repeat (first | (with_reducible first | exact HB.out | apply below_alloc | apply pw_below_drewN | apply below_drew1) | exact HB.out)) hb); clear HO_3; clear HO_5; clear HO126; clear HB; have HO_3 := n0_; have HO_5 := n1_; have HO126 := n2_; have HB := n3_; clear n0_ n1_ n2_ n3_; (try clear hb); (try clear hb2); (try clear hk); (try clear hi); clear A55))
            go_ret
            exact ⟨by first | rfl | (simp [errW_none, errW_some] <;> rfl) | (simp only [← hji38]; first | rfl | (simp [errW_none, errW_some] <;> rfl)) | (simp [*, errW_none, errW_some] <;> rfl), by repeat (first | (with_reducible first | exact HB.out | apply below_alloc | apply pw_below_drewN | apply below_drew1) | exact HB.out)⟩
          ·rw [if_neg c41] at H
           have c41b0 : (t118 == (rd t106 (ji38))) = false := beq_eq_false_iff_ne.mpr c41
           have c41b1 : (t118 != (rd t106 (ji38))) = true := bne_iff_ne.mpr c41
           obtain rfl := Option.some.inj H
           obtain ⟨Ao60, co60, eo60⟩ := Kd.R_slice HO_3.out
           subst eo60
           go_wp2_with (first | ((with_reducible refine gate_callee (f := 50) rfl ?_); refine goesL_ (some 101) rfl rfl Try.func50 (by kernel_rfl) rfl #[.slice Ao60 t102.length co60] rfl (by (try simp only [List.map_toArray, List.map_cons, List.map_nil]); first | done | rfl | (simp only [List.length_drop, List.length_take]; rfl)) ?_; (with_reducible refine (pairs_Deltas.calls kj30 _ _ t102 t123 t124 _ ?side1 ?side2 A37.out).mono ?_); (case side1 => repeat (first | exact (Kd.R_reads' HO_3.out).2.2 | (with_reducible refine Kd.C_alloc ?_ _) | (with_reducible refine Kd.C_drewN ?_ _) | (with_reducible refine Kd.C_drew ?_))); (case side2 => exact (Kd.R_reads' HO_3.out).2.1); rintro e w61 ⟨v125, rfl, ho0, hb⟩; refine ⟨_, rfl, ?_⟩; have n0_ := Aside0.mk (Kd.R_elder' (by (with_reducible repeat (first | apply Kd.R_alloc | apply Kd.R_drewN | apply Kd.R_drew)); exact HO_3.out) (Kd.R_base ho0) hb); have n1_ := Aside0.mk (Kd.R_elder' (by (with_reducible repeat (first | apply Kd.R_alloc | apply Kd.R_drewN | apply Kd.R_drew)); exact HO_5.out) (Kd.R_base ho0) hb); have n2_ := Aside0.mk (Kd.R_lower (Kd.R_new' (Kd.R_new' ho0 (Kd.R_lt (by (with_reducible repeat (first | apply Kd.R_alloc | apply Kd.R_drewN | apply Kd.R_drew)); exact HO_3.out))) (Kd.R_lt (by (with_reducible repeat (first | apply Kd.R_alloc | apply Kd.R_drewN | apply Kd.R_drew)); exact HO_5.out))) (below_size (by repeat (first | (with_reducible first | exact HB.out | apply below_alloc | apply pw_below_drewN | apply below_drew1) | exact HB.out)))); have n3_ := Aside0.mk (below_step (by repeat (first | (with_reducible first | exact HB.out | apply below_alloc | apply pw_below_drewN | apply below_drew1) | exact HB.out)) hb); clear HO_3; clear HO_5; clear HB; have HO_3 := n0_; have HO_5 := n1_; have HO126 := n2_; have HB := n3_; clear n0_ n1_ n2_ n3_; (try clear hb); (try clear hb2); (try clear hk); (try clear hi); (try clear ho0); clear A37; obtain ⟨Ao62, co62, eo62⟩ := Kd.R_slice HO_5.out; subst eo62; have p127 : 0 ≤ ((ji38) : Int) := of_decide_eq_true (by first | (with_reducible assumption) | assumption); have q127 : (ji38) < (t106.length : Int) := of_decide_eq_true (by first | (with_reducible assumption) | assumption); obtain ⟨ad127, e127, hx127_0⟩ := Kd.at_int (Kd.R_reads' HO_5.out).2.2 (ji38) p127 q127; cases e127; replace p127 := eq_true p127; replace q127 := eq_true q127))
           go_ret
           exact ⟨by first | rfl | (simp [errW_none, errW_some] <;> rfl) | (simp only [← hji38]; first | rfl | (simp [errW_none, errW_some] <;> rfl)) | (simp [*, errW_none, errW_some] <;> rfl), by repeat (first | (with_reducible first | exact HB.out | apply below_alloc | apply pw_below_drewN | apply below_drew1) | exact HB.out)⟩
         ·rw [if_neg c40] at H
          exact absurd H (by simp)
        ·rw [if_neg c39] at H
         exact absurd H (by simp)

end Go.Proofs.Ytacgeafjilipdaa.P
