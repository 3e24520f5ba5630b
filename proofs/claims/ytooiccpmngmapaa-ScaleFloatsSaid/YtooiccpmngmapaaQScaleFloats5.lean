/- ScaleFloats: the part that this text bears of the proof that the statement answers true for every input. No condition. -/
import Derived.Test.YtooiccpmngmapaaQScaleFloats4
set_option linter.unusedVariables false
set_option linter.unusedSimpArgs false
namespace Go.Proofs.Ytooiccpmngmapaa.P
open Go.RowKit Go.Shelf Go.Proofs.YtooiccpmngmapaaW.PrintWords Go.Proofs.YtooiccpmngmapaaW.PrintLast Go.Proofs.YtooiccpmngmapaaW.PrintMore
attribute [local go_sem] iV iW jH jI gW gX iY iZ
mutual
def tidepoleref25_side.l0 : Nat → List Int → List Int → Int → List Int → List Int → List Int → Int → Option (List Int × List Int × Int)
 | 0, _, _, _, _, _, _, _ => none
 | k + 1, x0, x1, x2, x9, x10, x11, x12 => if x12 < (x11.length : Int) then (tidepoleref25_side.l1 k x0 x1 x2 x9 x10 x11 x12 0 0) else (some (x9, x10, 0))
def tidepoleref25_side.l1 : Nat → List Int → List Int → Int → List Int → List Int → List Int → Int → Int → Int → Option (List Int × List Int × Int)
 | 0, _, _, _, _, _, _, _, _, _ => none
 | k + 1, x0, x1, x2, x9, x10, x11, x12, wE, x14 => if x14 < (x0.length : Int) then (if 0 ≤ x14 then ((tidepoleref25_Place.f k (rd x0 x14) x2).bind fun mM => (if 0 ≤ x12 then (if x12 < (x11.length : Int) then (if mM = (rd x11 x12) then (if x14 < (x1.length : Int) then ((Bj wE (rd x1 x14)).bind fun y15 => (tidepoleref25_side.l1 k x0 x1 x2 x9 x10 x11 x12 ((y15 : Nat) : Int) (wrap64 (x14 + 1)))) else (none)) else (tidepoleref25_side.l1 k x0 x1 x2 x9 x10 x11 x12 wE (wrap64 (x14 + 1)))) else (none)) else (none))) else (none)) else ((tidepoleref10_Right.f wE).bind fun Yl => (if Yl = true then (if wE > 0 then (if 0 ≤ x12 then (if x12 < (x11.length : Int) then (if x9.length < 17592186044416 then (if x10.length < 17592186044416 then (tidepoleref25_side.l0 k x0 x1 x2 (x9 ++ [rd x11 x12]) (x10 ++ [wE]) x11 (wrap64 (x12 + 1))) else (none)) else (none)) else (none)) else (none)) else (tidepoleref25_side.l0 k x0 x1 x2 x9 x10 x11 (wrap64 (x12 + 1)))) else (some (([] : List Int), ([] : List Int), 1))))
end
def tidepoleref25_side.f (k : Nat) (l0 : List Int) (l1 : List Int) (a2 : Int) : Option (List Int × List Int × Int) := (tidepoleref25_wide.f k l0 a2).bind fun dV => (tidepoleref25_side.l0 k l0 l1 a2 ([] : List Int) ([] : List Int) dV 0)
set_option maxHeartbeats 8000000 in
set_option maxRecDepth 100000 in
theorem tidepoleref25_side.calls (k : Nat) (A0 : Option Addr) (c0 : Nat) (l0 : List Int) (A1 : Option Addr) (c1 : Nat) (l1 : List Int) (a2 : Int) (r1 : List Int) (r2 : List Int) (r3 : Int) (w : World) (hr0 : Kd.C (Kd.int .i64) w A0 l0.length l0) (hc0 : l0.length ≤ c0) (hr1 : Kd.C (Kd.int .u64) w A1 l1.length l1) (hc1 : l1.length ≤ c1) (h : tidepoleref25_side.f k l0 l1 a2 = some (r1, r2, r3)) :
  Calls Try.prog 96 #[.slice A0 l0.length c0, .slice A1 l1.length c1, .int .i64 a2] w fun e w' => ∃ mW Np : Value, e = .returned (.tuple #[mW, Np, .int .i64 r3]) ∧ Kd.R (Kd.int .i64) 3 w' w.heap.size (fun _ => True) mW r1 ∧ Kd.R (Kd.int .u64) 25 w' w.heap.size (fun _ => True) Np r2 ∧ Below w.heap.size w w' := by
 have HR0 := ah hr0
 have uH := ah hc0
 clear hr0 hc0
 have HR1 := ah hr1
 have F9 := ah hc1
 clear hr1 hc1
 have HB := ah (Below.refl w.heap.size w)
 have H : ((tidepoleref25_wide.f k l0 a2).bind fun dV => (tidepoleref25_side.l0 k l0 l1 a2 ([] : List Int) ([] : List Int) dV 0)) = some (r1, r2, r3) := h
 clear h
 replace H := Option.bind_eq_some_iff.mp H
 obtain ⟨dV, VJ, H⟩ := H
 replace H : (tidepoleref25_side.l0 k l0 l1 a2 ([] : List Int) ([] : List Int) dV 0) = some (r1, r2, r3) := H
 have A4 := ah VJ
 clear VJ
 have H' := ah H
 clear H
 go_enter Try.func96, Try.ntmps96
 go_wp2_with (first | (go_at_call 103; (with_reducible refine (tidepoleref25_wide.calls k _ _ l0 a2 dV _ ?dK ?dL A4.out).mono ?_); (case dK => exact Kd.jV HR0.out); (case dL => exact uH.out); rintro e w5 ⟨Ve, rfl, ho0, hb⟩; have TD := ah (Kd.dh ho0 (aQ (bg HB.out))); replace HB := ah (aZ (bg HB.out) hb); (try clear hb); (try clear hb2); (try clear hk); (try clear hi); (try clear ho0); clear A4))
 repeat (go_quiet (first | (go_at_call 103; (with_reducible refine (tidepoleref25_wide.calls k _ _ l0 a2 dV _ ?dK ?dL A4.out).mono ?_); (case dK => exact Kd.jV HR0.out); (case dL => exact uH.out); rintro e w5 ⟨Ve, rfl, ho0, hb⟩; have TD := ah (Kd.dh ho0 (aQ (bg HB.out))); replace HB := ah (aZ (bg HB.out) hb); (try clear hb); (try clear hb2); (try clear hk); (try clear hi); (try clear ho0); clear A4)); try go_wp2_with (first | (go_at_call 103; (with_reducible refine (tidepoleref25_wide.calls k _ _ l0 a2 dV _ ?dK ?dL A4.out).mono ?_); (case dK => exact Kd.jV HR0.out); (case dL => exact uH.out); rintro e w5 ⟨Ve, rfl, ho0, hb⟩; have TD := ah (Kd.dh ho0 (aQ (bg HB.out))); replace HB := ah (aZ (bg HB.out) hb); (try clear hb); (try clear hb2); (try clear hk); (try clear hi); (try clear ho0); clear A4)))
 go_loopg [9, 10, 12] k (fun kq v9 v10 v12 w' => ∃ (fO : List Int) (dI : List Int) (dR : Int), v12 = .int .i64 dR ∧ aj (tidepoleref25_side.l0 kq l0 l1 a2 fO dI dV dR = some (r1, r2, r3)) ∧ aj (kq ≤ k) ∧ aj (Kd.R (Kd.int .i64) 3 w' w.heap.size (fun k_ => some k_ ≠ (Ve : Value).ownBlock) v9 fO) ∧ aj (Kd.R (Kd.int .u64) 25 w' w.heap.size (fun _ => True) v10 dI) ∧ aj (Kd.R (Kd.int .i64) 3 w' w.heap.size (fun k_ => some k_ ≠ (v9 : Value).ownBlock) Ve dV) ∧ aj (Below w.heap.size w w'))
 case atStart => exact ⟨(([] : List Int)), (([] : List Int)), (0), (by first | rfl | (simp; done) | (simp [*]; done)), H', ⟨Nat.le_refl _⟩, ⟨by first | exact Kd.eY _ _ _ _ _ | exact Kd.ig _ _ _ _ _ | exact Kd.iq _ _ _ _ _ | exact Kd.gY _ _ _ _ _ | exact Kd.gZ _ _ _ _ _⟩, ⟨by first | exact Kd.eY _ _ _ _ _ | exact Kd.ig _ _ _ _ _ | exact Kd.iq _ _ _ _ _ | exact Kd.gY _ _ _ _ _ | exact Kd.gZ _ _ _ _ _⟩, ⟨by (repeat with_reducible refine Kd.kQ ?_); exact Kd.bZ TD.out (fun _ hk => (by simp [Value.ownBlock]))⟩, ⟨by repeat (first | (with_reducible first | exact HB.out | apply ak | apply ay | apply aH) | exact HB.out)⟩⟩
 case round =>
  clear H'
  try clear c1
  try clear p2
  obtain ⟨fO, dI, dR, rfl, HA, jy, HO_9, HO_10, HO_11, HB⟩ := hrel
  cases gk with
  | zero => exact absurd HA.out (by simp [tidepoleref25_side.l0])
  | succ k1 =>
   have H := HA.out
   clear HA
   simp only [tidepoleref25_side.l0] at H
   by_cases c6 : dR < (dV.length : Int)
   ·rw [if_pos c6] at H
    have c6b0 : decide (dR < (dV.length : Int)) = true := ahG c6
    clear c6
    have H' := ah H
    clear H
    obtain ⟨Nl, JH, UA⟩ := Kd.dw HO_11.out
    subst UA
    go_wp2
    repeat (go_quiet (fail); try go_wp2)
    go_loopg [13, 14] k1 (fun kq v13 v14 w' => ∃ (jv : Nat) (iR : Int), v13 = .float .f64 jv ∧ v14 = .int .i64 iR ∧ aj (tidepoleref25_side.l1 kq l0 l1 a2 fO dI dV dR jv iR = some (r1, r2, r3)) ∧ aj (kq ≤ k1) ∧ aj (Kd.R (Kd.int .i64) 3 w' w.heap.size (fun k_ => some k_ ≠ ((.slice Nl dV.length JH) : Value).ownBlock) u9 fO) ∧ aj (Kd.R (Kd.int .u64) 25 w' w.heap.size (fun _ => True) u10 dI) ∧ aj (Kd.R (Kd.int .i64) 3 w' w.heap.size (fun k_ => some k_ ≠ (u9 : Value).ownBlock) (.slice Nl dV.length JH) dV) ∧ aj (Below w.heap.size w w'))
    case atStart => exact ⟨(0), (0), (by first | rfl | (simp; done) | (simp [*]; done)), (by first | rfl | (simp; done) | (simp [*]; done)), H', ⟨Nat.le_refl _⟩, ⟨by (repeat with_reducible refine Kd.kQ ?_); exact HO_9.out⟩, ⟨by (repeat with_reducible refine Kd.kQ ?_); exact HO_10.out⟩, ⟨by (repeat with_reducible refine Kd.kQ ?_); exact HO_11.out⟩, ⟨by repeat (first | (with_reducible first | exact HB.out | apply ak | apply ay | apply aH) | exact HB.out)⟩⟩
    case round =>
     clear H'
     try clear c1
     try clear p2
     try clear c6
     try clear c6b0
     try clear p2
     obtain ⟨jv, iR, rfl, rfl, HA, ML, HO_9, HO_10, HO_11, HB⟩ := hrel
     cases gk with
     | zero => exact absurd HA.out (by simp [tidepoleref25_side.l1])
     | succ k2 =>
      have H := HA.out
      clear HA
      simp only [tidepoleref25_side.l1] at H
      by_cases c8 : iR < (l0.length : Int)
      ·rw [if_pos c8] at H
       have c8b0 : decide (iR < (l0.length : Int)) = true := ahG c8
       clear c8
       by_cases c9 : 0 ≤ iR
       ·rw [if_pos c9] at H
        have c9b0 : decide (0 ≤ iR) = true := ahG c9
        clear c9
        replace H := Option.bind_eq_some_iff.mp H
        obtain ⟨mM, SA, H⟩ := H
        replace H : (if 0 ≤ dR then (if dR < (dV.length : Int) then (if mM = (rd dV dR) then (if iR < (l1.length : Int) then ((Bj jv (rd l1 iR)).bind fun y15 => (tidepoleref25_side.l1 k2 l0 l1 a2 fO dI dV dR ((y15 : Nat) : Int) (wrap64 (iR + 1)))) else (none)) else (tidepoleref25_side.l1 k2 l0 l1 a2 fO dI dV dR jv (wrap64 (iR + 1)))) else (none)) else (none)) = some (r1, r2, r3) := H
        have NJ := ah SA
        clear SA
        by_cases c11 : 0 ≤ dR
        ·rw [if_pos c11] at H
         have c11b0 : decide (0 ≤ dR) = true := ahG c11
         clear c11
         by_cases c12 : dR < (dV.length : Int)
         ·rw [if_pos c12] at H
          have c12b0 : decide (dR < (dV.length : Int)) = true := ahG c12
          clear c12
          by_cases c13 : mM = (rd dV dR)
          ·rw [if_pos c13] at H
           have c13b0 : (mM == (rd dV dR)) = true := beq_iff_eq.mpr c13
           have c13b1 : (mM != (rd dV dR)) = false := bne_eq_false_iff_eq.mpr c13
           clear c13
           by_cases c14 : iR < (l1.length : Int)
           ·rw [if_pos c14] at H
            have c14b0 : decide (iR < (l1.length : Int)) = true := ahG c14
            clear c14
            replace H := Option.bind_eq_some_iff.mp H
            obtain ⟨s15, Ym, H⟩ := H
            have hfb := CJ (rd l1 iR)
            have hfa := Lu (jv : Int) (rd l1 iR) s15 Ym 150
            rw [Int.toNat_natCast] at hfa
            clear Ym
            have H' := ah H
            clear H
            have zq : 0 ≤ (iR : Int) := ahF (by assumption)
            have zu : iR < (l0.length : Int) := ahF (by assumption)
            obtain ⟨Ou, MZ, ou⟩ := Kd.gB HR0.out iR zq zu
            cases MZ
            replace ou := (HB.out.cell (World.block_lt_of_cell? w _ ou)).trans ou
            replace zq := eq_true zq
            replace zu := eq_true zu
            go_wp2_with (first | (go_at_call 144; (with_reducible refine (tidepoleref25_Place.calls k2 (rd l0 iR) a2 mM _ NJ.out).mono ?_); rintro e w' ⟨rfl, ⟨nd, rfl⟩⟩; (try first | exact ⟨rfl, _, World.drewN_drewN _ _ _⟩ | exact ⟨rfl, _, Eq.trans (World.drewN_drewN _ _ _) (congrArg (World.drewN _) (Nat.add_assoc _ _ _))⟩); clear NJ; have rO : 0 ≤ (dR : Int) := ahF (by assumption); have rP : dR < (dV.length : Int) := ahF (by assumption); obtain ⟨G8, BO, wu⟩ := Kd.gB (Kd.bF HO_11.out).2.2 dR rO rP; cases BO; replace rO := eq_true rO; replace rP := eq_true rP; have Fv : 0 ≤ (iR : Int) := ahF (by assumption); have Fz : iR < (l1.length : Int) := ahF (by assumption); obtain ⟨L8, TF, qX⟩ := Kd.gB HR1.out iR Fv Fz; cases TF; replace qX := (HB.out.cell (World.block_lt_of_cell? w _ qX)).trans qX; replace Fv := eq_true Fv; replace Fz := eq_true Fz; have FB : 0 ≤ (iR : Int) := ahF (by assumption); have FC : iR < (l1.length : Int) := ahF (by assumption); obtain ⟨L9, e115, qY⟩ := Kd.gB HR1.out iR FB FC; obtain rfl : L8 = L9 := (by injection e115); replace qY := (HB.out.cell (World.block_lt_of_cell? w _ qY)).trans qY; replace FB := eq_true FB; replace FC := eq_true FC))
            repeat (go_quiet (first | (go_at_call 144; (with_reducible refine (tidepoleref25_Place.calls k2 (rd l0 iR) a2 mM _ NJ.out).mono ?_); rintro e w' ⟨rfl, ⟨nd, rfl⟩⟩; (try first | exact ⟨rfl, _, World.drewN_drewN _ _ _⟩ | exact ⟨rfl, _, Eq.trans (World.drewN_drewN _ _ _) (congrArg (World.drewN _) (Nat.add_assoc _ _ _))⟩); clear NJ; have rO : 0 ≤ (dR : Int) := ahF (by assumption); have rP : dR < (dV.length : Int) := ahF (by assumption); obtain ⟨G8, BO, wu⟩ := Kd.gB (Kd.bF HO_11.out).2.2 dR rO rP; cases BO; replace rO := eq_true rO; replace rP := eq_true rP; have Fv : 0 ≤ (iR : Int) := ahF (by assumption); have Fz : iR < (l1.length : Int) := ahF (by assumption); obtain ⟨L8, TF, qX⟩ := Kd.gB HR1.out iR Fv Fz; cases TF; replace qX := (HB.out.cell (World.block_lt_of_cell? w _ qX)).trans qX; replace Fv := eq_true Fv; replace Fz := eq_true Fz; have FB : 0 ≤ (iR : Int) := ahF (by assumption); have FC : iR < (l1.length : Int) := ahF (by assumption); obtain ⟨L9, e115, qY⟩ := Kd.gB HR1.out iR FB FC; obtain rfl : L8 = L9 := (by injection e115); replace qY := (HB.out.cell (World.block_lt_of_cell? w _ qY)).trans qY; replace FB := eq_true FB; replace FC := eq_true FC)); try go_wp2_with (first | (go_at_call 144; (with_reducible refine (tidepoleref25_Place.calls k2 (rd l0 iR) a2 mM _ NJ.out).mono ?_); rintro e w' ⟨rfl, ⟨nd, rfl⟩⟩; (try first | exact ⟨rfl, _, World.drewN_drewN _ _ _⟩ | exact ⟨rfl, _, Eq.trans (World.drewN_drewN _ _ _) (congrArg (World.drewN _) (Nat.add_assoc _ _ _))⟩); clear NJ; have rO : 0 ≤ (dR : Int) := ahF (by assumption); have rP : dR < (dV.length : Int) := ahF (by assumption); obtain ⟨G8, BO, wu⟩ := Kd.gB (Kd.bF HO_11.out).2.2 dR rO rP; cases BO; replace rO := eq_true rO; replace rP := eq_true rP; have Fv : 0 ≤ (iR : Int) := ahF (by assumption); have Fz : iR < (l1.length : Int) := ahF (by assumption); obtain ⟨L8, TF, qX⟩ := Kd.gB HR1.out iR Fv Fz; cases TF; replace qX := (HB.out.cell (World.block_lt_of_cell? w _ qX)).trans qX; replace Fv := eq_true Fv; replace Fz := eq_true Fz; have FB : 0 ≤ (iR : Int) := ahF (by assumption); have FC : iR < (l1.length : Int) := ahF (by assumption); obtain ⟨L9, e115, qY⟩ := Kd.gB HR1.out iR FB FC; obtain rfl : L8 = L9 := (by injection e115); replace qY := (HB.out.cell (World.block_lt_of_cell? w _ qY)).trans qY; replace FB := eq_true FB; replace FC := eq_true FC)))
            go_roundg k2
            case measure => have := jy.out; have := ML.out; omega
            case rel => exact ⟨s15, (wrap64 (iR + 1)), (by first | rfl | (simp; done) | (simp [*]; done)), (by first | rfl | (simp; done) | (simp [*]; done)), H', ⟨by have := jy.out; have := ML.out; omega⟩, ⟨by (repeat with_reducible refine Kd.kQ ?_); exact HO_9.out⟩, ⟨by (repeat with_reducible refine Kd.kQ ?_); exact HO_10.out⟩, ⟨by (repeat with_reducible refine Kd.kQ ?_); exact HO_11.out⟩, ⟨by repeat (first | (with_reducible first | exact HB.out | apply ak | apply ay | apply aH) | exact HB.out)⟩⟩
           rw [if_neg c14] at H
           exact absurd H (by simp)
          rw [if_neg c13] at H
          have c13b0 : (mM == (rd dV dR)) = false := beq_eq_false_iff_ne.mpr c13
          have c13b1 : (mM != (rd dV dR)) = true := bne_iff_ne.mpr c13
          have H' := ah H
          clear H
          have zq : 0 ≤ (iR : Int) := ahF (by assumption)
          have zu : iR < (l0.length : Int) := ahF (by assumption)
          obtain ⟨Ou, MZ, ou⟩ := Kd.gB HR0.out iR zq zu
          cases MZ
          replace ou := (HB.out.cell (World.block_lt_of_cell? w _ ou)).trans ou
          replace zq := eq_true zq
          replace zu := eq_true zu
          go_wp2_with (first | (go_at_call 144; (with_reducible refine (tidepoleref25_Place.calls k2 (rd l0 iR) a2 mM _ NJ.out).mono ?_); rintro e w' ⟨rfl, ⟨nd, rfl⟩⟩; (try first | exact ⟨rfl, _, World.drewN_drewN _ _ _⟩ | exact ⟨rfl, _, Eq.trans (World.drewN_drewN _ _ _) (congrArg (World.drewN _) (Nat.add_assoc _ _ _))⟩); clear NJ; have rO : 0 ≤ (dR : Int) := ahF (by assumption); have rP : dR < (dV.length : Int) := ahF (by assumption); obtain ⟨G8, BO, wu⟩ := Kd.gB (Kd.bF HO_11.out).2.2 dR rO rP; cases BO; replace rO := eq_true rO; replace rP := eq_true rP))
          repeat (go_quiet (first | (go_at_call 144; (with_reducible refine (tidepoleref25_Place.calls k2 (rd l0 iR) a2 mM _ NJ.out).mono ?_); rintro e w' ⟨rfl, ⟨nd, rfl⟩⟩; (try first | exact ⟨rfl, _, World.drewN_drewN _ _ _⟩ | exact ⟨rfl, _, Eq.trans (World.drewN_drewN _ _ _) (congrArg (World.drewN _) (Nat.add_assoc _ _ _))⟩); clear NJ; have rO : 0 ≤ (dR : Int) := ahF (by assumption); have rP : dR < (dV.length : Int) := ahF (by assumption); obtain ⟨G8, BO, wu⟩ := Kd.gB (Kd.bF HO_11.out).2.2 dR rO rP; cases BO; replace rO := eq_true rO; replace rP := eq_true rP)); try go_wp2_with (first | (go_at_call 144; (with_reducible refine (tidepoleref25_Place.calls k2 (rd l0 iR) a2 mM _ NJ.out).mono ?_); rintro e w' ⟨rfl, ⟨nd, rfl⟩⟩; (try first | exact ⟨rfl, _, World.drewN_drewN _ _ _⟩ | exact ⟨rfl, _, Eq.trans (World.drewN_drewN _ _ _) (congrArg (World.drewN _) (Nat.add_assoc _ _ _))⟩); clear NJ; have rO : 0 ≤ (dR : Int) := ahF (by assumption); have rP : dR < (dV.length : Int) := ahF (by assumption); obtain ⟨G8, BO, wu⟩ := Kd.gB (Kd.bF HO_11.out).2.2 dR rO rP; cases BO; replace rO := eq_true rO; replace rP := eq_true rP)))
          go_roundg k2
          case measure => have := jy.out; have := ML.out; omega
          case rel => exact ⟨(jv), (wrap64 (iR + 1)), (by first | rfl | (simp; done) | (simp [*]; done)), (by first | rfl | (simp; done) | (simp [*]; done)), H', ⟨by have := jy.out; have := ML.out; omega⟩, ⟨by (repeat with_reducible refine Kd.kQ ?_); exact HO_9.out⟩, ⟨by (repeat with_reducible refine Kd.kQ ?_); exact HO_10.out⟩, ⟨by (repeat with_reducible refine Kd.kQ ?_); exact HO_11.out⟩, ⟨by repeat (first | (with_reducible first | exact HB.out | apply ak | apply ay | apply aH) | exact HB.out)⟩⟩
         rw [if_neg c12] at H
         exact absurd H (by simp)
        rw [if_neg c11] at H
        exact absurd H (by simp)
       rw [if_neg c9] at H
       exact absurd H (by simp)
      rw [if_neg c8] at H
      have c8b0 : decide (iR < (l0.length : Int)) = false := ahH c8
      clear c8
      replace H := Option.bind_eq_some_iff.mp H
      obtain ⟨Yl, aah, H⟩ := H
      have Mc := ah aah
      clear aah
      have htb := CO jv
      cases Yl with
      | false =>
       rw [if_neg (by decide)] at H
       simp only [Option.some.injEq, Prod.mk.injEq] at H
       obtain ⟨rfl, rfl, rfl⟩ := H
       go_wp2_with (first | (go_at_call 151; (with_reducible refine (tidepoleref10_Right.calls (jv : Int) _ _ Mc.out).mono ?_); rintro e DF ⟨rfl, ⟨yY, rfl⟩⟩; (try first | exact ⟨rfl, _, World.drewN_drewN _ _ _⟩ | exact ⟨rfl, _, Eq.trans (World.drewN_drewN _ _ _) (congrArg (World.drewN _) (Nat.add_assoc _ _ _))⟩)))
       repeat (go_quiet (first | (go_at_call 151; (with_reducible refine (tidepoleref10_Right.calls (jv : Int) _ _ Mc.out).mono ?_); rintro e DF ⟨rfl, ⟨yY, rfl⟩⟩; (try first | exact ⟨rfl, _, World.drewN_drewN _ _ _⟩ | exact ⟨rfl, _, Eq.trans (World.drewN_drewN _ _ _) (congrArg (World.drewN _) (Nat.add_assoc _ _ _))⟩))); try go_wp2_with (first | (go_at_call 151; (with_reducible refine (tidepoleref10_Right.calls (jv : Int) _ _ Mc.out).mono ?_); rintro e DF ⟨rfl, ⟨yY, rfl⟩⟩; (try first | exact ⟨rfl, _, World.drewN_drewN _ _ _⟩ | exact ⟨rfl, _, Eq.trans (World.drewN_drewN _ _ _) (congrArg (World.drewN _) (Nat.add_assoc _ _ _))⟩))))
       go_ret3
       exact ⟨_, _, by first | rfl | (simp [aU, aV] <;> rfl), Kd.eY _ _ _ _ _, Kd.eY _ _ _ _ _, by repeat (first | (with_reducible first | exact HB.out | apply ak | apply ay | apply aH) | exact HB.out)⟩
      | true =>
      rw [if_pos rfl] at H
      by_cases c16 : (jv : Int) > 0
      ·rw [if_pos c16] at H
       have c16b0 : decide (0 < (jv : Int)) = true := ahG c16
       have c16n : decide (0 < jv) = true := ahG (by omega)
       have c16m : (0 < jv) = True := eq_true (by omega)
       clear c16
       by_cases c17 : 0 ≤ dR
       ·rw [if_pos c17] at H
        have c17b0 : decide (0 ≤ dR) = true := ahG c17
        clear c17
        by_cases c18 : dR < (dV.length : Int)
        ·rw [if_pos c18] at H
         have c18b0 : decide (dR < (dV.length : Int)) = true := ahG c18
         clear c18
         by_cases c19 : fO.length < 17592186044416
         ·rw [if_pos c19] at H
          have TG := ah c19
          clear c19
          obtain ⟨Jk, xZ⟩ : ∃ y_ : List Int, y_ = (fO ++ [rd dV dR]) := ⟨_, rfl⟩
          replace H : (if dI.length < 17592186044416 then (tidepoleref25_side.l0 k2 l0 l1 a2 Jk (dI ++ [((jv : Nat) : Int)]) dV (wrap64 (dR + 1))) else (none)) = some (r1, r2, r3) := by first | (rw [xZ]; with_reducible exact H) | (have jA := (Option.bind_some _ _).symm.trans H; rw [xZ]; with_reducible exact jA) | (have jA := (Option.bind_some _ _).symm.trans H; with_reducible exact jA) | with_reducible exact H | (rw [xZ]; exact H) | exact H
          have Ht := ah xZ
          clear xZ
          by_cases c20 : dI.length < 17592186044416
          ·rw [if_pos c20] at H
           have TI := ah c20
           clear c20
           obtain ⟨jm, nJ⟩ : ∃ y_ : List Int, y_ = (dI ++ [((jv : Nat) : Int)]) := ⟨_, rfl⟩
           replace H : (tidepoleref25_side.l0 k2 l0 l1 a2 Jk jm dV (wrap64 (dR + 1))) = some (r1, r2, r3) := by first | (rw [nJ]; with_reducible exact H) | (have jA := (Option.bind_some _ _).symm.trans H; rw [nJ]; with_reducible exact jA) | (have jA := (Option.bind_some _ _).symm.trans H; with_reducible exact jA) | with_reducible exact H | (rw [nJ]; exact H) | exact H
           have vJ := ah nJ
           clear nJ
           have H' := ah H
           clear H
           have Ci : 0 ≤ (dR : Int) := ahF (by assumption)
           have Cj : dR < (dV.length : Int) := ahF (by assumption)
           obtain ⟨Ba, RZ, mY⟩ := Kd.gB (Kd.bF HO_11.out).2.2 dR Ci Cj
           cases RZ
           replace Ci := eq_true Ci
           replace Cj := eq_true Cj
           go_wp2_with (first | (go_at_call 151; (with_reducible refine (tidepoleref10_Right.calls (jv : Int) _ _ Mc.out).mono ?_); rintro e DF ⟨rfl, ⟨yY, rfl⟩⟩; (try first | exact ⟨rfl, _, World.drewN_drewN _ _ _⟩ | exact ⟨rfl, _, Eq.trans (World.drewN_drewN _ _ _) (congrArg (World.drewN _) (Nat.add_assoc _ _ _))⟩)) | ((with_reducible refine eG (b := .append) (xs := #[.tmp 56, .tmp 61]) rfl ?_); at_builtin; refine Kd.je (Kd.int .i64) (w0 := w) w.heap.size rfl (.tmp 56) (.tmp 61) 30 3 (.int .i64 0) 8 rfl Try.underlying30 info3 rfl (by decide) (by omega) u9 fO (rd dV dR) [.int .i64 (rd dV dR)] (fun k_ => some k_ ≠ (.slice (some Ba) dV.length JH : Value).ownBlock) (fun _ => False) rfl rfl ?aP (fun _ hk => hk.elim) ?aF ?aO ?aB ?aS ?aL ?_; (case aP => exact rfl); (case aB => exact (bg HB.out)); (case aF => exact (fun k_ hk => Kd.fresh' (Kd.kW (Kd.fJ HO_11.out)) k_ hk)); (case aO => exact (Kd.fJ HO_9.out)); (case aS => exact (aQ (bg HB.out))); (case aL => have := TG.out; omega); intro Jf w21 ho hb hg hat; rw [← Ht.out] at ho; have fZ := ah (Kd.jG (Kd.fJ HO_10.out) (Kd.jF (Kd.fJ HO_9.out)) (by decide) hg); have kG := ah (ho); replace HO_11 := ah (Kd.qA (ok := (fun _ => True)) (Kd.fJ (Kd.bZ HO_11.out (fun _ hk => ⟨trivial, hk⟩))) hg hat); replace HB := ah (hb); clear HO_9 HO_10; have HO_10 := fZ; clear fZ ho hb hg hat) | ((with_reducible refine eG (b := .append) (xs := #[.tmp 63, .tmp 65]) rfl ?_); at_builtin; refine Kd.je (Kd.int .u64) (w0 := w) w.heap.size rfl (.tmp 63) (.tmp 65) 53 25 (.int .u64 0) 8 rfl Try.underlying53 info25 rfl (by decide) (by omega) u10 dI jv [.int .u64 ((jv : Nat) : Int)] (fun _ => True) (fun _ => False) rfl rfl ?aP (fun _ hk => hk.elim) ?aF ?aO ?aB ?aS ?aL ?_; (case aP => exact rfl); (case aB => exact (bg HB.out)); (case aF => exact (fun _ _ => trivial)); (case aO => exact (Kd.fJ HO_10.out)); (case aS => exact (aQ (bg HB.out))); (case aL => have := TI.out; omega); intro v109 VZ ho hb hg hat; rw [← vJ.out] at ho; have fZ := ah (Kd.jG (Kd.fJ HO_11.out) (Kd.jF (Kd.fJ HO_10.out)) (by decide) hg); have gG := ah (Kd.jG (Kd.fJ kG.out) (Kd.jF (Kd.fJ HO_10.out)) (by decide) hg); have vK := ah (ho); replace HB := ah (hb); clear HO_10 HO_11; have HO_11 := fZ; clear fZ kG; have kG := gG; clear gG ho hb hg hat))
           repeat (go_quiet (first | (go_at_call 151; (with_reducible refine (tidepoleref10_Right.calls (jv : Int) _ _ Mc.out).mono ?_); rintro e DF ⟨rfl, ⟨yY, rfl⟩⟩; (try first | exact ⟨rfl, _, World.drewN_drewN _ _ _⟩ | exact ⟨rfl, _, Eq.trans (World.drewN_drewN _ _ _) (congrArg (World.drewN _) (Nat.add_assoc _ _ _))⟩)) | ((with_reducible refine eG (b := .append) (xs := #[.tmp 56, .tmp 61]) rfl ?_); at_builtin; refine Kd.je (Kd.int .i64) (w0 := w) w.heap.size rfl (.tmp 56) (.tmp 61) 30 3 (.int .i64 0) 8 rfl Try.underlying30 info3 rfl (by decide) (by omega) u9 fO (rd dV dR) [.int .i64 (rd dV dR)] (fun k_ => some k_ ≠ (.slice (some Ba) dV.length JH : Value).ownBlock) (fun _ => False) rfl rfl ?aP (fun _ hk => hk.elim) ?aF ?aO ?aB ?aS ?aL ?_; (case aP => exact rfl); (case aB => exact (by repeat (first | (go_at_call 151; (with_reducible refine (tidepoleref10_Right.calls (jv : Int) _ _ Mc.out).mono ?_); rintro e DF ⟨rfl, ⟨yY, rfl⟩⟩; (try first | exact ⟨rfl, _, World.drewN_drewN _ _ _⟩ | exact ⟨rfl, _, Eq.trans (World.drewN_drewN _ _ _) (congrArg (World.drewN _) (Nat.add_assoc _ _ _))⟩)) | (with_reducible first | exact HB.out | apply ak | apply ay | apply aH) | exact HB.out))); (case aF => exact (fun k_ hk => Kd.fresh' (Kd.kW (Kd.fJ HO_11.out)) k_ hk)); (case aO => exact (Kd.fJ HO_9.out)); (case aS => exact (aQ (by repeat (first | (go_at_call 151; (with_reducible refine (tidepoleref10_Right.calls (jv : Int) _ _ Mc.out).mono ?_); rintro e DF ⟨rfl, ⟨yY, rfl⟩⟩; (try first | exact ⟨rfl, _, World.drewN_drewN _ _ _⟩ | exact ⟨rfl, _, Eq.trans (World.drewN_drewN _ _ _) (congrArg (World.drewN _) (Nat.add_assoc _ _ _))⟩)) | (with_reducible first | exact HB.out | apply ak | apply ay | apply aH) | exact HB.out)))); (case aL => have := TG.out; omega); intro Jf w21 ho hb hg hat; rw [← Ht.out] at ho; have fZ := ah (Kd.jG (Kd.fJ HO_10.out) (Kd.jF (Kd.fJ HO_9.out)) (by decide) hg); have kG := ah (ho); replace HO_11 := ah (Kd.qA (ok := (fun _ => True)) (Kd.fJ (Kd.bZ HO_11.out (fun _ hk => ⟨trivial, hk⟩))) hg hat); replace HB := ah (hb); clear HO_9 HO_10; have HO_10 := fZ; clear fZ ho hb hg hat) | ((with_reducible refine eG (b := .append) (xs := #[.tmp 63, .tmp 65]) rfl ?_); at_builtin; refine Kd.je (Kd.int .u64) (w0 := w) w.heap.size rfl (.tmp 63) (.tmp 65) 53 25 (.int .u64 0) 8 rfl Try.underlying53 info25 rfl (by decide) (by omega) u10 dI jv [.int .u64 ((jv : Nat) : Int)] (fun _ => True) (fun _ => False) rfl rfl ?aP (fun _ hk => hk.elim) ?aF ?aO ?aB ?aS ?aL ?_; (case aP => exact rfl); (case aB => exact (by repeat (first | (go_at_call 151; (with_reducible refine (tidepoleref10_Right.calls (jv : Int) _ _ Mc.out).mono ?_); rintro e DF ⟨rfl, ⟨yY, rfl⟩⟩; (try first | exact ⟨rfl, _, World.drewN_drewN _ _ _⟩ | exact ⟨rfl, _, Eq.trans (World.drewN_drewN _ _ _) (congrArg (World.drewN _) (Nat.add_assoc _ _ _))⟩)) | (with_reducible first | exact HB.out | apply ak | apply ay | apply aH) | exact HB.out))); (case aF => exact (fun _ _ => trivial)); (case aO => exact (Kd.fJ HO_10.out)); (case aS => exact (aQ (by repeat (first | (go_at_call 151; (with_reducible refine (tidepoleref10_Right.calls (jv : Int) _ _ Mc.out).mono ?_); rintro e DF ⟨rfl, ⟨yY, rfl⟩⟩; (try first | exact ⟨rfl, _, World.drewN_drewN _ _ _⟩ | exact ⟨rfl, _, Eq.trans (World.drewN_drewN _ _ _) (congrArg (World.drewN _) (Nat.add_assoc _ _ _))⟩)) | (with_reducible first | exact HB.out | apply ak | apply ay | apply aH) | exact HB.out)))); (case aL => have := TI.out; omega); intro v109 VZ ho hb hg hat; rw [← vJ.out] at ho; have fZ := ah (Kd.jG (Kd.fJ HO_11.out) (Kd.jF (Kd.fJ HO_10.out)) (by decide) hg); have gG := ah (Kd.jG (Kd.fJ kG.out) (Kd.jF (Kd.fJ HO_10.out)) (by decide) hg); have vK := ah (ho); replace HB := ah (hb); clear HO_10 HO_11; have HO_11 := fZ; clear fZ kG; have kG := gG; clear gG ho hb hg hat)); try go_wp2_with (first | (go_at_call 151; (with_reducible refine (tidepoleref10_Right.calls (jv : Int) _ _ Mc.out).mono ?_); rintro e DF ⟨rfl, ⟨yY, rfl⟩⟩; (try first | exact ⟨rfl, _, World.drewN_drewN _ _ _⟩ | exact ⟨rfl, _, Eq.trans (World.drewN_drewN _ _ _) (congrArg (World.drewN _) (Nat.add_assoc _ _ _))⟩)) | ((with_reducible refine eG (b := .append) (xs := #[.tmp 56, .tmp 61]) rfl ?_); at_builtin; refine Kd.je (Kd.int .i64) (w0 := w) w.heap.size rfl (.tmp 56) (.tmp 61) 30 3 (.int .i64 0) 8 rfl Try.underlying30 info3 rfl (by decide) (by omega) u9 fO (rd dV dR) [.int .i64 (rd dV dR)] (fun k_ => some k_ ≠ (.slice (some Ba) dV.length JH : Value).ownBlock) (fun _ => False) rfl rfl ?aP (fun _ hk => hk.elim) ?aF ?aO ?aB ?aS ?aL ?_; (case aP => exact rfl); (case aB => exact (by repeat (first | (go_at_call 151; (with_reducible refine (tidepoleref10_Right.calls (jv : Int) _ _ Mc.out).mono ?_); rintro e DF ⟨rfl, ⟨yY, rfl⟩⟩; (try first | exact ⟨rfl, _, World.drewN_drewN _ _ _⟩ | exact ⟨rfl, _, Eq.trans (World.drewN_drewN _ _ _) (congrArg (World.drewN _) (Nat.add_assoc _ _ _))⟩)) | (with_reducible first | exact HB.out | apply ak | apply ay | apply aH) | exact HB.out))); (case aF => exact (fun k_ hk => Kd.fresh' (Kd.kW (Kd.fJ HO_11.out)) k_ hk)); (case aO => exact (Kd.fJ HO_9.out)); (case aS => exact (aQ (by repeat (first | (go_at_call 151; (with_reducible refine (tidepoleref10_Right.calls (jv : Int) _ _ Mc.out).mono ?_); rintro e DF ⟨rfl, ⟨yY, rfl⟩⟩; (try first | exact ⟨rfl, _, World.drewN_drewN _ _ _⟩ | exact ⟨rfl, _, Eq.trans (World.drewN_drewN _ _ _) (congrArg (World.drewN _) (Nat.add_assoc _ _ _))⟩)) | (with_reducible first | exact HB.out | apply ak | apply ay | apply aH) | exact HB.out)))); (case aL => have := TG.out; omega); intro Jf w21 ho hb hg hat; rw [← Ht.out] at ho; have fZ := ah (Kd.jG (Kd.fJ HO_10.out) (Kd.jF (Kd.fJ HO_9.out)) (by decide) hg); have kG := ah (ho); replace HO_11 := ah (Kd.qA (ok := (fun _ => True)) (Kd.fJ (Kd.bZ HO_11.out (fun _ hk => ⟨trivial, hk⟩))) hg hat); replace HB := ah (hb); clear HO_9 HO_10; have HO_10 := fZ; clear fZ ho hb hg hat) | ((with_reducible refine eG (b := .append) (xs := #[.tmp 63, .tmp 65]) rfl ?_); at_builtin; refine Kd.je (Kd.int .u64) (w0 := w) w.heap.size rfl (.tmp 63) (.tmp 65) 53 25 (.int .u64 0) 8 rfl Try.underlying53 info25 rfl (by decide) (by omega) u10 dI jv [.int .u64 ((jv : Nat) : Int)] (fun _ => True) (fun _ => False) rfl rfl ?aP (fun _ hk => hk.elim) ?aF ?aO ?aB ?aS ?aL ?_; (case aP => exact rfl); (case aB => exact (by repeat (first | (go_at_call 151; (with_reducible refine (tidepoleref10_Right.calls (jv : Int) _ _ Mc.out).mono ?_); rintro e DF ⟨rfl, ⟨yY, rfl⟩⟩; (try first | exact ⟨rfl, _, World.drewN_drewN _ _ _⟩ | exact ⟨rfl, _, Eq.trans (World.drewN_drewN _ _ _) (congrArg (World.drewN _) (Nat.add_assoc _ _ _))⟩)) | (with_reducible first | exact HB.out | apply ak | apply ay | apply aH) | exact HB.out))); (case aF => exact (fun _ _ => trivial)); (case aO => exact (Kd.fJ HO_10.out)); (case aS => exact (aQ (by repeat (first | (go_at_call 151; (with_reducible refine (tidepoleref10_Right.calls (jv : Int) _ _ Mc.out).mono ?_); rintro e DF ⟨rfl, ⟨yY, rfl⟩⟩; (try first | exact ⟨rfl, _, World.drewN_drewN _ _ _⟩ | exact ⟨rfl, _, Eq.trans (World.drewN_drewN _ _ _) (congrArg (World.drewN _) (Nat.add_assoc _ _ _))⟩)) | (with_reducible first | exact HB.out | apply ak | apply ay | apply aH) | exact HB.out)))); (case aL => have := TI.out; omega); intro v109 VZ ho hb hg hat; rw [← vJ.out] at ho; have fZ := ah (Kd.jG (Kd.fJ HO_11.out) (Kd.jF (Kd.fJ HO_10.out)) (by decide) hg); have gG := ah (Kd.jG (Kd.fJ kG.out) (Kd.jF (Kd.fJ HO_10.out)) (by decide) hg); have vK := ah (ho); replace HB := ah (hb); clear HO_10 HO_11; have HO_11 := fZ; clear fZ kG; have kG := gG; clear gG ho hb hg hat)))
           go_roundg k2
           case measure => have := jy.out; have := ML.out; omega
           case rel => exact ⟨(Jk), (jm), (wrap64 (dR + 1)), (by first | rfl | (simp; done) | (simp [*]; done)), H', ⟨by have := jy.out; have := ML.out; omega⟩, ⟨by (repeat with_reducible refine Kd.kQ ?_); exact kG.out⟩, ⟨by (repeat with_reducible refine Kd.kQ ?_); exact vK.out⟩, ⟨by (repeat with_reducible refine Kd.kQ ?_); exact Kd.bZ HO_11.out (fun _ hk => hk.2)⟩, ⟨by repeat (first | (with_reducible first | exact HB.out | apply ak | apply ay | apply aH) | exact HB.out)⟩⟩
          rw [if_neg c20] at H
          exact absurd H (by simp)
         rw [if_neg c19] at H
         exact absurd H (by simp)
        rw [if_neg c18] at H
        exact absurd H (by simp)
       rw [if_neg c17] at H
       exact absurd H (by simp)
      rw [if_neg c16] at H
      have c16b0 : decide (0 < (jv : Int)) = false := ahH c16
      have c16n : decide (0 < jv) = false := ahH (by omega)
      have c16m : (0 < jv) = False := eq_false (by omega)
      clear c16
      have H' := ah H
      clear H
      go_wp2_with (first | (go_at_call 151; (with_reducible refine (tidepoleref10_Right.calls (jv : Int) _ _ Mc.out).mono ?_); rintro e DF ⟨rfl, ⟨yY, rfl⟩⟩; (try first | exact ⟨rfl, _, World.drewN_drewN _ _ _⟩ | exact ⟨rfl, _, Eq.trans (World.drewN_drewN _ _ _) (congrArg (World.drewN _) (Nat.add_assoc _ _ _))⟩)))
      repeat (go_quiet (first | (go_at_call 151; (with_reducible refine (tidepoleref10_Right.calls (jv : Int) _ _ Mc.out).mono ?_); rintro e DF ⟨rfl, ⟨yY, rfl⟩⟩; (try first | exact ⟨rfl, _, World.drewN_drewN _ _ _⟩ | exact ⟨rfl, _, Eq.trans (World.drewN_drewN _ _ _) (congrArg (World.drewN _) (Nat.add_assoc _ _ _))⟩))); try go_wp2_with (first | (go_at_call 151; (with_reducible refine (tidepoleref10_Right.calls (jv : Int) _ _ Mc.out).mono ?_); rintro e DF ⟨rfl, ⟨yY, rfl⟩⟩; (try first | exact ⟨rfl, _, World.drewN_drewN _ _ _⟩ | exact ⟨rfl, _, Eq.trans (World.drewN_drewN _ _ _) (congrArg (World.drewN _) (Nat.add_assoc _ _ _))⟩))))
      go_roundg k2
      case measure => have := jy.out; have := ML.out; omega
      case rel => exact ⟨(fO), (dI), (wrap64 (dR + 1)), (by first | rfl | (simp; done) | (simp [*]; done)), H', ⟨by have := jy.out; have := ML.out; omega⟩, ⟨by (repeat with_reducible refine Kd.kQ ?_); exact HO_9.out⟩, ⟨by (repeat with_reducible refine Kd.kQ ?_); exact HO_10.out⟩, ⟨by (repeat with_reducible refine Kd.kQ ?_); exact HO_11.out⟩, ⟨by repeat (first | (with_reducible first | exact HB.out | apply ak | apply ay | apply aH) | exact HB.out)⟩⟩
   rw [if_neg c6] at H
   have c6b0 : decide (dR < (dV.length : Int)) = false := ahH c6
   clear c6
   simp only [Option.some.injEq, Prod.mk.injEq] at H
   obtain ⟨rfl, rfl, rfl⟩ := H
   obtain ⟨Jr, Js, U5⟩ := Kd.dw HO_11.out
   subst U5
   go_wp2
   repeat (go_quiet (fail); try go_wp2)
   go_ret3
   exact ⟨_, _, by first | rfl | (simp [aU, aV] <;> rfl) | (simp [*, aU, aV] <;> rfl), by (repeat with_reducible refine Kd.kQ ?_); exact Kd.bZ HO_9.out (fun _ hk => trivial), by (repeat with_reducible refine Kd.kQ ?_); exact HO_10.out, by repeat (first | (with_reducible first | exact HB.out | apply ak | apply ay | apply aH) | exact HB.out)⟩
end Go.Proofs.Ytooiccpmngmapaa.P
namespace Go.Proofs.Ytooiccpmngmapaa.P
open Go.RowKit Go.Shelf Go.Proofs.YtooiccpmngmapaaW.PrintWords Go.Proofs.YtooiccpmngmapaaW.PrintLast Go.Proofs.YtooiccpmngmapaaW.PrintMore
def FD (l : List Pu) : Prop := ∀ p ∈ l, i64 p.f0 ∧ 0 ≤ p.f1 ∧ dY p.f1 = true
theorem JA {a : Int} (h : LU a) : 0 ≤ a := by
 rcases h with h | h
 ·exact h.1
 ·rw [h]; unfold CU; omega
theorem Md (s : Int) (l : List Pu) (hr : FD l) (hm : l.length ≤ 4096) (o n all : List Int) (i : Nat) (hi : i < all.length) (ha : all.length ≤ 4096) (ho : o.length ≤ i) (hn : n.length ≤ i) : ∀ (d m j : Nat) (acc : Int), l.length - j = d → 67 ≤ m → j ≤ l.length → LU acc →
    tidepoleref25_side.l1 (d + 1 + m) (l.map (·.f0)) (l.map (·.f1)) s o n all (i : Int) acc (j : Int) = if dY (mO s all[i] acc (l.drop j)) = true then
      (if mO s all[i] acc (l.drop j) = 0 then tidepoleref25_side.l0 m (l.map (·.f0)) (l.map (·.f1)) s o n all ((i + 1 : Nat) : Int) else tidepoleref25_side.l0 m (l.map (·.f0)) (l.map (·.f1)) s (o ++ [all[i]]) (n ++ [mO s all[i] acc (l.drop j)]) all ((i + 1 : Nat) : Int)) else some ([], [], 1) := by
  intro d
  induction d with
  | zero =>
    intro m j acc hd hm hj h0
    have hnn := JA h0
    have hrt : tidepoleref10_Right.f acc = some (dY acc) := rfl
    rw [show 0 + 1 + m = m + 1 by omega, tidepoleref25_side.l1, if_neg (by rw [List.length_map]; omega), List.drop_eq_nil_of_le (by omega), show mO s all[i] acc [] = acc from rfl, hrt, Option.bind_some, wrap_succ (by omega)]
    by_cases c1 : dY acc = true
    · rw [if_pos c1, if_pos c1]
      by_cases c : acc = 0
      · rw [if_neg (by omega), if_pos c]
      · rw [if_pos (by omega), if_neg c, if_pos (by omega), if_pos (by omega), sK hi, if_pos (by omega), if_pos (by omega)]
    · rw [if_neg c1, if_neg c1]
  | succ d ih =>
    intro m j acc hd hm hj h0
    have hlt : j < l.length := by omega
    obtain ⟨p0, p1, p2⟩ := hr l[j] (List.getElem_mem hlt)
    have e0 : rd (l.map (·.f0)) (j : Int) = l[j].f0 := RU (·.f0) hlt
    have e1 : rd (l.map (·.f1)) (j : Int) = l[j].f1 := RU (·.f1) hlt
    rw [show d + 1 + 1 + m = (d + 1 + m) + 1 by omega, tidepoleref25_side.l1, if_pos (by rw [List.length_map]; omega), if_pos (by omega), e0, zI _ (by omega) _ _ p0, Option.bind_some, if_pos (by omega), if_pos (by omega), sK hi]
    rw [List.drop_eq_getElem_cons hlt, mO]
    by_cases c : dW l[j].f0 s = all[i]
    · obtain ⟨q1, q2⟩ := Qe h0 p1 p2
      rw [if_pos c, if_pos c, if_pos (by rw [List.length_map]; omega), e1, q1, Option.bind_some, wrap_succ (by omega), ih m (j + 1) _ (by omega) hm (by omega) q2]
    · rw [if_neg c, if_neg c, wrap_succ (by omega), ih m (j + 1) acc (by omega) hm (by omega) h0]
theorem Me (s : Int) (l : List Pu) (hr : FD l) (hm : l.length ≤ 4096) (all : List Int) (ha : all.length ≤ 4096) : ∀ (d k i : Nat) (o n : List Int), all.length - i = d → d * (l.length + 2) + 68 ≤ k → i ≤ all.length → o.length ≤ i → n.length ≤ i →
    tidepoleref25_side.l0 k (l.map (·.f0)) (l.map (·.f1)) s o n all (i : Int) = if zO ((all.drop i).map (fun q => (⟨q, mO s q 0 l⟩ : Pu))) = true then some ([], [], 1) else some (o ++ (gK ((all.drop i).map (fun q => (⟨q, mO s q 0 l⟩ : Pu)))).map (·.f0), n ++ (gK ((all.drop i).map (fun q => (⟨q, mO s q 0 l⟩ : Pu)))).map (·.f1), 0) := by
  intro d
  induction d with
  | zero =>
    intro k i o n hd hk hi ho hn
    obtain ⟨k, rfl⟩ : ∃ m, k = m + 1 := ⟨k - 1, by omega⟩
    rw [tidepoleref25_side.l0, if_neg (by omega), List.drop_eq_nil_of_le (by omega)]
    simp [zO, gK]
  | succ d ih =>
    intro k i o n hd hk hi ho hn
    have hlt : i < all.length := by omega
    have hmul : (d + 1) * (l.length + 2) = d * (l.length + 2) + (l.length + 2) := by rw [Nat.add_mul, Nat.one_mul]
    obtain ⟨m, rfl⟩ : ∃ m, k = (l.length + 1 + m) + 1 := ⟨k - l.length - 2, by omega⟩
    have z0 : LU 0 := .inl ⟨by decide, by decide⟩
    have h1 := Md s l hr hm o n all i hlt ha ho hn l.length m 0 0 (by omega) (by omega) (by omega) z0
    rw [tidepoleref25_side.l0, if_pos (by omega)]
    rw [show ((0 : Nat) : Int) = 0 from rfl, List.drop_zero] at h1
    rw [h1, List.drop_eq_getElem_cons hlt, List.map_cons]
    generalize mO s all[i] 0 l = v at *
    have tb : ∀ t, zO ((⟨all[i], v⟩ : Pu) :: t) = (!dY v || zO t) := fun t => by simp [zO]
    by_cases c : dY v = true
    · rw [if_pos c, tb, c, Bool.not_true, Bool.false_or]
      by_cases c0 : v = 0
      · have e0 : ∀ t, gK ((⟨all[i], v⟩ : Pu) :: t) = gK t := fun t => by unfold gK; rw [List.filter_cons]; simp [c0]
        rw [if_pos c0, e0, ih m (i + 1) o n (by omega) (by omega) (by omega) (by omega) (by omega)]
      · have e0 : ∀ t, gK ((⟨all[i], v⟩ : Pu) :: t) = (⟨all[i], v⟩ : Pu) :: gK t := fun t => by unfold gK; rw [List.filter_cons]; simp [c0]
        rw [if_neg c0, e0, ih m (i + 1) (o ++ [all[i]]) (n ++ [v]) (by omega) (by omega) (by omega) (by simp <;> omega) (by simp <;> omega)]
        simp
    · rw [if_neg c, tb, Bool.not_eq_true] at *
      rw [c]
      simp
def NY (s : Int) (l : List Pu) : List Int × List Int × Int := match lq s l with | some r => ((gK r).map (·.f0), (gK r).map (·.f1), 0) | none => ([], [], 1)
theorem zn (s : Int) (l : List Pu) (hr : RowOKU l) (k : Nat) (hk : 17000000 ≤ k) : tidepoleref25_side.f k (l.map (·.f0)) (l.map (·.f1)) s = some (NY s l) := by
 have hl := hr.len
 have hw := Qg s (l.map (·.f0))
 rw [List.length_map] at hw
 have hfr : FD l := fun p hp => ⟨(hr.wf.1 p hp).1, (yt hr p hp).1, (yt hr p hp).2⟩
 unfold tidepoleref25_side.f
 rw [NU _ s (fun x hx => by obtain ⟨p, hp, rfl⟩ := List.mem_map.1 hx; exact (hfr p hp).1) (by rw [List.length_map]; omega) k (by rw [List.length_map]; omega), Option.bind_some]
 have hb : (uz s (l.map (·.f0))).length * (l.length + 2) ≤ 4096 * 4098 := Nat.mul_le_mul (by omega) (by omega)
 have := Me s l hfr hl (uz s (l.map (·.f0))) (by omega) (uz s (l.map (·.f0))).length k 0 [] [] (by omega) (by omega) (by omega) (by simp) (by simp)
 rw [show ((0 : Nat) : Int) = 0 from rfl, List.drop_zero, List.nil_append, List.nil_append] at this
 rw [this]
 unfold NY
 rw [Fp hr]
 show (if zO (Bq s l) = true then some ([], [], 1) else some ((gK (Bq s l)).map (·.f0), (gK (Bq s l)).map (·.f1), 0)) = _
 split <;> rfl
theorem Il : ∀ (l : List Pu), List.zipWith (fun p x => (⟨p, x⟩ : Pu)) (l.map (·.f0)) (l.map (·.f1)) = l
 | [] => rfl
 | x :: l => by simp only [List.map_cons, List.zipWith_cons_cons, Il l]
theorem qj : ∀ (l : List Pu) (e : Int), DI (fun p : Pu => p.f0) l → (∀ p ∈ l, e ≤ p.f0 ∧ p.f0 ≤ 1048576) → rises e (l.map (·.f0)) = true
  | [], _, _, _ => rfl
  | x :: l, e, hu, h => by
    have hx := h x (List.mem_cons_self ..)
    simp only [List.map_cons, rises, Bool.and_eq_true, decide_eq_true_eq]
    exact ⟨hx, qj l (x.f0 + 1) hu.tail (fun p hp => ⟨by have := hu.head p hp; omega, (h p (List.mem_cons_of_mem _ hp)).2⟩)⟩
theorem V6 : ∀ (ps v : List Int), ps.length = v.length → (List.zipWith (fun p x => (⟨p, x⟩ : Pu)) ps v).map (·.f0) = ps ∧ (List.zipWith (fun p x => (⟨p, x⟩ : Pu)) ps v).map (·.f1) = v
 | [], [], _ => ⟨rfl, rfl⟩
 | p :: ps, x :: v, h => by have := V6 ps v (by simpa using h); exact ⟨by simp only [List.zipWith_cons_cons, List.map_cons, this.1], by simp only [List.zipWith_cons_cons, List.map_cons, this.2]⟩
 | [], _ :: _, h => by simp at h
 | _ :: _, [], h => by simp at h
theorem yT {l : List Pu} (h : RowOKU l) : RowOKU (gK l) :=
 ⟨CG h.wf, Nat.le_trans (List.length_filter_le _ _) h.len, fun p hp => h.cnt p (List.mem_filter.1 hp).1, h.ups.filter _⟩
theorem tV {l : List Sp} {c : List Int} (h0 : (jR l c).2 = 0) : (∀ p ∈ (jR l c).1, -1048576 ≤ p.f0 ∧ p.f0 ≤ 1048576) ∧ (jR l c).1.length = c.length ∧ (jR l c).1.map (·.f0) = uN 0 l ∧ fU l = 0 ∧ (jR l c).1.map (·.f1) = c ∧ c.any (fun v => !dY v) = false := by
 unfold jR at h0 ⊢
 by_cases c1 : fU l = 0
 rotate_left
 ·rw [if_neg c1] at h0; exact absurd h0 c1
 rw [if_pos c1] at h0 ⊢
 by_cases c2 : nK l = c.length
 rotate_left
 ·rw [if_neg c2] at h0; cases h0
 rw [if_pos c2] at h0 ⊢
 by_cases c3 : c.any (fun v => !dY v) = true
 ·rw [if_pos c3] at h0; cases h0
 rw [if_neg c3]
 have hr := um c1
 have hpl := rQ l 0 (fun s hs => (nM l _ _ _ (kS c1).2 s hs).1)
 have hz := V6 (uN 0 l) c (by omega)
 refine ⟨fun y hy => ?_, by simp; omega, hz.1, c1, hz.2, by simpa using c3⟩
 have : y.f0 ∈ uN 0 l := by
  obtain ⟨i, hi, rfl⟩ := List.mem_iff_getElem.1 hy
  simp only [List.getElem_zipWith]; exact List.getElem_mem _
 exact yO hr _ this
def xu (h : Fh) : Int := if h.f0 < -4 ∨ h.f0 > 8 then 21 else if dY h.f1 = false then 11 else if (!dY h.f2 || !dY h.f3) = true then 22 else 0
theorem CW (h : Fh) : jU h = if xu h ≠ 0 then xu h else if (jR h.f5 h.f7).2 ≠ 0 then (jR h.f5 h.f7).2 else (jR h.f6 h.f8).2 := by
 unfold jU jw xu
 by_cases c1 : h.f0 < -4 ∨ h.f0 > 8
 ·rw [if_pos c1, if_pos c1, if_pos (by omega)]
 rw [if_neg c1, if_neg c1]
 by_cases c2 : dY h.f1 = false
 ·rw [if_pos c2, if_pos c2, if_pos (by omega)]
 rw [if_neg c2, if_neg c2]
 by_cases c3 : (!dY h.f2 || !dY h.f3) = true
 ·rw [if_pos c3, if_pos c3, if_pos (by omega)]
 rw [if_neg c3, if_neg c3, if_neg (c := (0 : Int) ≠ 0) (by omega)]
 by_cases c4 : (jR h.f5 h.f7).2 ≠ 0
 ·rw [if_pos c4, if_pos c4]
 rw [if_neg c4, if_neg c4]
 by_cases c5 : (jR h.f6 h.f8).2 ≠ 0
 ·rw [if_pos c5]
 ·rw [if_neg c5]; exact (Decidable.not_not.1 c5).symm
theorem Dq {h : Fh} (hc : jU h = 0) : jw h = ((jR h.f5 h.f7).1, (jR h.f6 h.f8).1, 0) := by
 unfold jU jw at *
 split at hc
 ·cases hc
 split at hc
 ·cases hc
 split at hc
 ·cases hc
 split at hc
 ·rename_i h3; exact absurd hc h3
 split at hc
 ·rename_i h3; exact absurd hc h3
 rename_i h1 h2 h3 h4 h5
 rw [if_neg h1, if_neg h2, if_neg h3, if_neg h4, if_neg h5]
theorem Dt {h : Fh} (hc : jU h = 0) : xu h = 0 ∧ (jR h.f5 h.f7).2 = 0 ∧ (jR h.f6 h.f8).2 = 0 := by
 rw [CW] at hc
 by_cases c1 : xu h = 0
 rotate_left
 ·rw [if_pos c1] at hc; exact absurd hc c1
 rw [if_neg (by simp [c1])] at hc
 by_cases c2 : (jR h.f5 h.f7).2 = 0
 rotate_left
 ·rw [if_pos c2] at hc; exact absurd hc c2
 rw [if_neg (by simp [c2])] at hc
 exact ⟨c1, c2, hc⟩
theorem Bv {h : Fh} (c1 : xu h = 0) (c2 : (jR h.f5 h.f7).2 = 0) (c3 : (jR h.f6 h.f8).2 = 0) : jU h = 0 := by
 rw [CW, if_neg (by simp [c1]), if_neg (by simp [c2]), c3]
def Io (a b : Fh) : Prop := a.f0 = b.f0 ∧ a.f1 = b.f1 ∧ a.f2 = b.f2 ∧ a.f3 = b.f3 ∧ a.f4 = b.f4
instance (a b : Fh) : Decidable (Io a b) := by unfold Io; exact inferInstance
theorem MB (s : Int) : ∀ (l : List Int) (cur : Int), (∀ p ∈ l, cur ≤ dW p s) → l.Pairwise (fun x y => dW x s ≤ dW y s) → (kM s cur l).Pairwise (· < ·) ∧ ∀ q ∈ kM s cur l, cur ≤ q := by
  intro l
  induction l with
  | nil => intro cur _ _; simp [kM]
  | cons p t ih =>
    intro cur hle hpw
    obtain ⟨h1, h2⟩ := List.pairwise_cons.1 hpw
    simp only [kM]
    by_cases c : dW p s = cur
    · rw [if_pos c]
      exact ih cur (fun x hx => hle x (List.mem_cons_of_mem _ hx)) h2
    · rw [if_neg c]
      obtain ⟨a, b⟩ := ih (dW p s) h1 h2
      have hp := hle p (by simp)
      refine ⟨List.pairwise_cons.2 ⟨fun q hq => ?_, a⟩, fun q hq => ?_⟩
      · have := b q hq; omega
      · rcases List.mem_cons.1 hq with rfl | hq
        · exact Int.le_refl _
        · have := b q hq; omega
theorem NZ (s : Int) {l : List Int} (h : l.Pairwise (· < ·)) : (uz s l).Pairwise (· < ·) := by
  cases l with
  | nil => simp [uz]
  | cons p t =>
    have hpw : (p :: t).Pairwise (fun x y => dW x s ≤ dW y s) := List.Pairwise.imp (fun h => wH (Int.le_of_lt h)) h
    obtain ⟨h1, h2⟩ := List.pairwise_cons.1 hpw
    exact (MB s t (dW p s) h1 h2).1
theorem Bz (s : Int) (l : List Pu) : (Bq s l).map (·.f0) = uz s (l.map (·.f0)) := by
 unfold Bq
 rw [List.map_map]
 exact List.map_id _
theorem FH {s : Int} {l r : List Pu} (h : RowOKU l) (hw : lq s l = some r) (hb : ∀ p ∈ l, -1048576 ≤ p.f0 ∧ p.f0 ≤ 1048576) : RowOKU r ∧ ∀ p ∈ r, -1048576 ≤ p.f0 ∧ p.f0 ≤ 1048576 := by
 have ok := zM s h
 unfold kT at ok
 rw [hw] at ok
 simp only at ok
 rw [Fp h] at hw
 by_cases c : zO (Bq s l) = true
 ·rw [if_pos c] at hw; cases hw
 rw [if_neg c] at hw
 have e : Bq s l = r := Option.some.inj hw
 subst e
 refine ⟨⟨ok.1, ok.2, fun p hp => ?_, ?_⟩, fun p hp => ?_⟩
 ·rw [Bool.not_eq_true] at c
  have := List.any_eq_false.1 c p hp
  simpa using this
 ·have hu : (l.map (·.f0)).Pairwise (· < ·) := List.pairwise_map.2 h.ups
  have := NZ s hu
  rw [← Bz] at this
  exact List.pairwise_map.1 this
 ·have hq : p.f0 ∈ uz s (l.map (·.f0)) := by rw [← Bz]; exact List.mem_map_of_mem (f := fun q : Pu => q.f0) hp
  obtain ⟨x, hx, e⟩ := (Qd s _ _).1 hq
  obtain ⟨y, hy, rfl⟩ := List.mem_map.1 hx
  have := Ji (s := s) (B := 1048576) (by decide) (hb y hy).1 (hb y hy).2
  rw [← e]
  exact this
theorem wR {l : List Pu} (hr : rises (-1048576) (l.map (·.f0)) = true) (hl : l.length ≤ 4096) : gQ l = if 1024 < (spansOf (l.map (·.f0))).length then ([], [], 12) else (spansOf (l.map (·.f0)), l.map (·.f1), 0) := by
 have hf : jO (l.map (·.f0)) = if 1024 < (spansOf (l.map (·.f0))).length then ([], 12) else (spansOf (l.map (·.f0)), 0) := by
  unfold jO
  rw [if_pos hr, if_neg (by rw [List.length_map]; omega)]
  by_cases c : 1024 < (spansOf (l.map (·.f0))).length
  ·rw [if_pos c, if_pos (by omega)]
  ·rw [if_neg c, if_neg (by omega)]
 by_cases c : 1024 < (spansOf (l.map (·.f0))).length
 ·rw [if_pos c] at hf ⊢
  unfold gQ
  rw [hf]
  exact if_neg (by decide)
 ·rw [if_neg c] at hf ⊢
  unfold gQ
  rw [hf]
  exact if_pos rfl
theorem yU {l : List Pu} (h : RowOKU l) (hb : ∀ p ∈ l, -1048576 ≤ p.f0 ∧ p.f0 ≤ 1048576) (hc1 : (spansOf (l.map (·.f0))).length ≤ 1024) : jR (spansOf (l.map (·.f0))) (l.map (·.f1)) = (l, 0) := by
 have hr := qj l _ h.ups hb
 have hs := uh _ hr
 have hl := h.len
 have hk := Gh hr (by rw [List.length_map]; omega) hc1
 have hcn := hs.cnt
 rw [List.length_map] at hcn
 unfold jR
 rw [if_pos hk, if_pos (by rw [List.length_map]; omega), if_neg ?_, hs.pl, Il]
 rw [Bool.not_eq_true, List.any_eq_false]
 intro v hv
 obtain ⟨p, hp, rfl⟩ := List.mem_map.1 hv
 rw [h.cnt p hp]; decide
theorem Qh {g : Fh} (c1 : xu g = 0) {p n : List Pu} (rp : RowOKU p) (rn : RowOKU n) (bp : ∀ q ∈ p, -1048576 ≤ q.f0 ∧ q.f0 ≤ 1048576) (bn : ∀ q ∈ n, -1048576 ≤ q.f0 ∧ q.f0 ≤ 1048576) :
  zl g p n = if 1024 < (spansOf (p.map (·.f0))).length ∨ 1024 < (spansOf (n.map (·.f0))).length then (qV, 12) else (⟨g.f0, g.f1, g.f2, g.f3, g.f4, spansOf (p.map (·.f0)), spansOf (n.map (·.f0)), p.map (·.f1), n.map (·.f1)⟩, 0) := by
 have e1 := wR (qj p _ rp.ups bp) rp.len
 have e2 := wR (qj n _ rn.ups bn) rn.len
 unfold zl
 by_cases k1 : 1024 < (spansOf (p.map (·.f0))).length
 ·rw [if_pos k1] at e1
  rw [e1, if_pos (by decide), if_pos (.inl k1)]
 rw [if_neg k1] at e1
 by_cases k2 : 1024 < (spansOf (n.map (·.f0))).length
 ·rw [if_pos k2] at e2
  rw [e1, e2, if_neg (by simp), if_pos (by decide), if_pos (.inr k2)]
 rw [if_neg k2] at e2
 have hm : yg g p n = ⟨g.f0, g.f1, g.f2, g.f3, g.f4, spansOf (p.map (·.f0)), spansOf (n.map (·.f0)), p.map (·.f1), n.map (·.f1)⟩ := by unfold yg; rw [e1, e2]
 have s1 := yU rp bp (by omega)
 have s2 := yU rn bn (by omega)
 have hck : jU (yg g p n) = 0 := by
  rw [hm]
  exact Bv c1 (by simp only [s1]) (by simp only [s2])
 rw [if_neg (by rw [e1]; simp), if_neg (by rw [e2]; simp), if_neg (by simp [hck]), if_neg (by omega), hm]
theorem MC {g : Fh} (c1 : xu g = 0) {p n : List Pu} (rp : RowOKU p) (rn : RowOKU n) (bp : ∀ q ∈ p, -1048576 ≤ q.f0 ∧ q.f0 ≤ 1048576) (bn : ∀ q ∈ n, -1048576 ≤ q.f0 ∧ q.f0 ≤ 1048576) (k1 : (spansOf (p.map (·.f0))).length ≤ 1024) (k2 : (spansOf (n.map (·.f0))).length ≤ 1024) :
  jU ⟨g.f0, g.f1, g.f2, g.f3, g.f4, spansOf (p.map (·.f0)), spansOf (n.map (·.f0)), p.map (·.f1), n.map (·.f1)⟩ = 0 :=
 Bv c1 (by simp only [yU rp bp k1]) (by simp only [yU rn bn k2])
theorem Du {h : Fh} (hw : EZ h) (hc : jU h = 0) {tt : Int} (ht0 : -4 ≤ tt) (ht1 : tt ≤ h.f0) {p n : List Pu} (hp : lq (h.f0 - tt) (jw h).1 = some p) (hn : lq (h.f0 - tt) (jw h).2.1 = some n) :
  RowOKU (gK p) ∧ RowOKU (gK n) ∧ (∀ q ∈ gK p, -1048576 ≤ q.f0 ∧ q.f0 ≤ 1048576) ∧ (∀ q ∈ gK n, -1048576 ≤ q.f0 ∧ q.f0 ≤ 1048576) ∧ xu (DL h tt) = 0 ∧
  mG h tt = if 1024 < (spansOf ((gK p).map (·.f0))).length ∨ 1024 < (spansOf ((gK n).map (·.f0))).length then (qV, 12) else (⟨tt, h.f1, h.f2, h.f3, h.f4, spansOf ((gK p).map (·.f0)), spansOf ((gK n).map (·.f0)), (gK p).map (·.f1), (gK n).map (·.f1)⟩, 0) := by
 obtain ⟨z1, z2, z3⟩ := Dt hc
 have ho := Dq hc
 obtain ⟨r1, r2⟩ := yS hw
 have b1 : ∀ q ∈ (jw h).1, -1048576 ≤ q.f0 ∧ q.f0 ≤ 1048576 := by rw [ho]; exact (tV z2).1
 have b2 : ∀ q ∈ (jw h).2.1, -1048576 ≤ q.f0 ∧ q.f0 ≤ 1048576 := by rw [ho]; exact (tV z3).1
 obtain ⟨w1, w2⟩ := FH r1 hp b1
 obtain ⟨v1, v2⟩ := FH r2 hn b2
 have hs := vk hc
 have hd : xu (DL h tt) = 0 := by
  unfold xu at z1 ⊢
  rw [if_neg (by show ¬ (tt < -4 ∨ tt > 8); omega)]
  rw [if_neg (by omega)] at z1
  exact z1
 have g1 : ∀ q ∈ gK p, -1048576 ≤ q.f0 ∧ q.f0 ≤ 1048576 := fun q hq => w2 q (List.mem_filter.1 hq).1
 have g2 : ∀ q ∈ gK n, -1048576 ≤ q.f0 ∧ q.f0 ≤ 1048576 := fun q hq => v2 q (List.mem_filter.1 hq).1
 refine ⟨yT w1, yT v1, g1, g2, hd, ?_⟩
 have := Qh hd (yT w1) (yT v1) g1 g2
 unfold mG
 rw [if_neg (by simp [hc]), if_neg (by omega), hp, hn]
 exact this
theorem FM : ∀ (l : List Int) (e : Int) (i : Nat), rises e l = true → rises e (l.take i) = true
  | [], e, i, h => by simpa using h
  | x :: l, e, 0, h => rfl
  | x :: l, e, i + 1, h => by
    simp only [rises, Bool.and_eq_true] at h
    simp only [List.take_succ_cons, rises, Bool.and_eq_true]
    exact ⟨h.1, FM l _ i h.2⟩
theorem MF {α : Type} (x : List α) (y z : α) : (x ++ [y]).set x.length z = x ++ [z] := by simp
theorem MG (x : List Rsp) (y : Rsp) : aW (x ++ [y]) (x.length : Int) = y := by rw [J8 (by simp)]; simp
theorem V7 (x : List Rsp) (y : Rsp) (h : x.length < 8796093022208) : wrap64 (((x ++ [y]).length : Int) - 1) = (x.length : Int) := by rw [eX (by simp <;> omega) (by simp <;> omega)]; simp
theorem FN (l : List Int) (hr : rises (-1048576) l = true) (hm : l.length ≤ 4096) : ∀ (d k i : Nat), l.length - i = d → d < k → i ≤ l.length →
    tidepoleref17_Runs.l0 k l ((iM (l.take i)).1.map toR) (iM (l.take i)).2 (i : Int) = some ((spansOf l).map toR) := by
  intro d
  induction d with
  | zero =>
    intro k i hd hk hi
    obtain ⟨k, rfl⟩ : ∃ m, k = m + 1 := ⟨k - 1, by omega⟩
    rw [tidepoleref17_Runs.l0, if_neg (by omega), List.take_of_length_le (by omega)]
    rfl
  | succ d ih =>
    intro k i hd hk hi
    obtain ⟨k, rfl⟩ : ∃ m, k = m + 1 := ⟨k - 1, by omega⟩
    have hlt : i < l.length := by omega
    have hsp := uh (l.take i) (FM l _ i hr)
    have hbd := yO hr
    obtain ⟨b3, b4⟩ := hbd l[i] (List.getElem_mem hlt)
    have hs : iM (l.take (i + 1)) = uO (iM (l.take i)) l[i] := by rw [take_at hlt, rV]
    have ih' := ih k (i + 1) (by omega) (by omega) (by omega)
    rw [hs] at ih'
    have hpos := hsp.pos
    have hlen := hsp.len
    have hlast := hsp.last
    have hnil := hsp.nil
    have hfirst := hsp.first
    change ∀ s ∈ (iM (l.take i)).1, _ at hpos
    change (iM (l.take i)).1.length ≤ _ at hlen
    change (iM (l.take i)).1 = [] ↔ _ at hnil
    rw [List.length_take, Nat.min_eq_left (by omega)] at hlen
    have hup : ∀ h0 : 0 < i, l[i - 1]'(by omega) < l[i] := fun h0 => List.pairwise_iff_getElem.1 (yQ l _ hr).1 (i - 1) i (by omega) hlt (by omega)
    have hend : ∀ h0 : 0 < i, (iM (l.take i)).2 = l[i - 1]'(by omega) + 1 := fun h0 => by
      have := Ik (l := l) (i := i - 1) (by omega)
      rwa [show i - 1 + 1 = i by omega] at this
    generalize hg : iM (l.take i) = g at *
    obtain ⟨c, e⟩ := g
    simp only at hpos hlen hlast hnil hfirst hend ⊢
    have hml : (c.map toR).length < 8796093022208 := by rw [List.length_map]; omega
    have app : ∀ v : Int, wrap64 (l[i] - e) = v → v = l[i] - e → (c = [] ∨ l[i] > e) → ((some (c.map toR ++ [(⟨wrap64 (l[i] - e), 0⟩ : Rsp)] : List Rsp)).bind fun y102 => (if 0 ≤ (wrap64 ((y102.length : Int) - 1)) then (if (wrap64 ((y102.length : Int) - 1)) < (y102.length : Int) then (tidepoleref17_Runs.l0 k l (y102.set ((wrap64 ((y102.length : Int) - 1)) : Int).toNat (⟨(aW y102 (wrap64 ((y102.length : Int) - 1))).f0, wrap64 (((aW y102 (wrap64 ((y102.length : Int) - 1))).f1) + 1)⟩ : Rsp)) (wrap64 (l[i] + 1)) (wrap64 ((i : Int) + 1))) else (none)) else (none))) = some ((spansOf l).map toR) := by
      intro v hv hv2 hc
      rw [Option.bind_some, V7 _ _ hml, if_pos (by omega), if_pos (by simp <;> omega), MG, Int.toNat_natCast, MF, hv, hv2, eX (x := l[i] + 1) (by omega) (by omega), wrap_succ (by omega), show wrap64 ((0 : Int) + 1) = 1 from by unfold wrap64; omega]
      unfold uO at ih'
      rw [if_pos hc] at ih'
      simpa [toR] using ih'
    rw [tidepoleref17_Runs.l0, if_pos (by omega), sK hlt]
    cases i with
    | zero =>
      have e0 : c = [] := hnil.2 (by simp)
      have e1 : e = 0 := hfirst (by simp)
      rw [if_pos (by simp), if_pos (by omega), if_pos hml]
      exact app (l[0] - e) (eX (by omega) (by omega)) rfl (.inl e0)
    | succ i =>
      have hi' : i < l.length := by omega
      have hup := hup (by omega)
      have hend := hend (by omega)
      simp only [Nat.add_sub_cancel] at hup hend
      obtain ⟨b1, b2⟩ := hbd l[i] (List.getElem_mem hi')
      have hne : c ≠ [] := fun h => L6 hi' (by rw [hg]; exact h)
      rw [if_neg (by omega), if_pos (by omega)]
      by_cases c1 : l[i + 1] = e
      · obtain ⟨c', s, rfl⟩ : ∃ c' s, c = c' ++ [s] := ⟨c.dropLast, c.getLast hne, (List.dropLast_concat_getLast hne).symm⟩
        obtain ⟨p1, p2, p3, p4⟩ := hpos s (by simp)
        rw [if_pos c1]
        have em : (c' ++ [s]).map toR = c'.map toR ++ [toR s] := by simp
        have hcl : (c'.map toR).length < 8796093022208 := by simp at hml ⊢; omega
        have hp2 : s.f1 ≤ 4096 := by rw [List.length_take] at p2; omega
        rw [em, V7 _ _ hcl, if_pos (by omega), if_pos (by simp <;> omega), MG, Int.toNat_natCast, MF, eX (x := l[i + 1] + 1) (by omega) (by omega), wrap_succ (by omega), show (toR s).f1 = s.f1 from rfl, show (toR s).f0 = s.f0 from rfl, eX (x := s.f1 + 1) (by omega) (by omega)]
        unfold uO at ih'
        rw [if_neg (by simp; omega)] at ih'
        simpa [toR] using ih'
      · rw [if_neg c1, if_pos hml]
        exact app (l[i + 1] - e) (eX (by omega) (by omega)) rfl (.inr (by omega))
theorem BA (l : List Int) (hr : rises (-1048576) l = true) (hm : l.length ≤ 4096) (k : Nat) (hk : 4096 < k) : tidepoleref17_Runs.f k l = some ((spansOf l).map toR) := by
 have := FN l hr hm l.length k 0 (by omega) (by omega) (by omega)
 exact this
theorem Gv (c : List Int) (hm : c.length < 17592186044416) : ∀ (d k i : Nat), c.length - i = d → d < k → i ≤ c.length →
    tidepoleref10_Side.l0 k c (i : Int) = some (if (c.drop i).any (fun v => !dY v) = true then 22 else 0) := by
  intro d
  induction d with
  | zero =>
    intro k i hd hk hi
    obtain ⟨k, rfl⟩ : ∃ m, k = m + 1 := ⟨k - 1, by omega⟩
    rw [tidepoleref10_Side.l0, if_neg (by omega), drop_end (by omega)]; rfl
  | succ d ih =>
    intro k i hd hk hi
    obtain ⟨k, rfl⟩ : ∃ m, k = m + 1 := ⟨k - 1, by omega⟩
    have hlt : i < c.length := by omega
    rw [tidepoleref10_Side.l0, if_pos (by omega), if_pos (by omega), sK hlt, drop_at hlt, wrap_succ (by omega), List.any_cons, show tidepoleref10_Right.f c[i] = some (dY c[i]) from rfl, Option.bind_some]
    cases hq : dY c[i] with
    | true => rw [if_pos rfl, ih k (i + 1) (by omega) (by omega) (by omega)]; simp
    | false => rw [if_neg (by simp)]; simp
theorem Dv (l : List Sp) (c : List Int) (hl : kU l) (hm : c.length < 4398046511104) (k : Nat) (hk : 5120000 + c.length < k) : tidepoleref10_Side.f k (l.map toR) c = some (jR l c).2 := by
 unfold tidepoleref10_Side.f jR
 rw [Kr l hl k (by omega), Option.bind_some]
 by_cases h1 : fU l = 0
 ·have hp := rQ l 0 (fun s hs => (nM l _ _ _ (kS h1).2 s hs).1)
  rw [if_pos h1, if_pos h1, wC l h1 k (by omega), Option.bind_some]
  by_cases h2 : nK l = c.length
  ·rw [if_pos (by omega), if_pos h2]
   have hlp := Gv c (by omega) c.length k 0 (by omega) (by omega) (by omega)
   rw [List.drop_zero, show ((0 : Nat) : Int) = 0 from rfl] at hlp
   rw [hlp]
   by_cases h3 : c.any (fun v => !dY v) = true
   ·rw [if_pos h3, if_pos h3]
   ·rw [if_neg h3, if_neg h3]
  ·rw [if_neg (by omega), if_neg h2]
 ·rw [if_neg h1, if_neg h1]
theorem JB (h : Fh) (hw : EZ h) (k : Nat) (hk : 5120002 + h.f7.length + h.f8.length < k) : tidepoleref10_Check.f k h.f0 h.f1 h.f2 h.f3 h.f4 (h.f5.map toR) (h.f6.map toR) h.f7 h.f8 = some (jU h) := by
  obtain ⟨k, rfl⟩ : ∃ n, k = n + 1 + 1 := ⟨k - 2, by omega⟩
  have c1 := Dv h.f5 h.f7 hw.2.2.2.2.2.1 hw.2.2.2.2.2.2.2.2.2.1 k (by omega)
  have c2 := Dv h.f6 h.f8 hw.2.2.2.2.2.2.1 hw.2.2.2.2.2.2.2.2.2.2 k (by omega)
  have r := fun v => show tidepoleref10_Right.f v = some (dY v) from rfl
  rw [CW]
  unfold xu
  generalize (jR h.f5 h.f7).2 = e5 at *
  generalize (jR h.f6 h.f8).2 = e6 at *
  unfold tidepoleref10_Check.f
  by_cases k1 : h.f0 < -4
  · rw [if_pos k1, if_pos (Or.inl k1), if_pos (by omega)]
    simp [tidepoleref10_Check.j0]
  rw [if_neg k1]
  by_cases k2 : h.f0 > 8
  · rw [if_pos (Or.inr k2), if_pos (by omega), ahG k2]
    simp [tidepoleref10_Check.j0]
  rw [if_neg (show ¬ (h.f0 < -4 ∨ h.f0 > 8) by omega), ahH k2]
  by_cases k3 : h.f1 < 9218868437227405312
  rotate_left
  · rw [if_pos (show dY h.f1 = false from ahH k3), if_pos (by omega)]
    have k3' : h.f1 ≥ 9218868437227405312 := by omega
    simp [tidepoleref10_Check.j0, k3']
  rw [if_neg (show ¬ dY h.f1 = false by unfold dY; rw [ahG k3]; simp)]
  have k3' : ¬ h.f1 ≥ 9218868437227405312 := by omega
  simp only [tidepoleref10_Check.j0, Bool.false_eq_true, if_false, if_neg k3', r, Option.bind_some]
  cases hq2 : dY h.f2 with
  | false => simp [tidepoleref10_Check.j1]
  | true =>
    cases hq3 : dY h.f3 with
    | false => simp [tidepoleref10_Check.j1]
    | true =>
      simp only [tidepoleref10_Check.j1, c1, c2, Option.bind_some]
      by_cases k5 : e5 = 0
      · simp [k5, c2]
      · simp [k5]
attribute [local go_sem] iV iW jH jI gW gX iY iZ
mutual
def tidepoleref25_Floats.j0 : Nat → Int → Bool → Int → Int → Int → Int → Int → List (eP) → List (eP) → List Int → List Int → Option (Int × Int × Int × Int × Int × (List (eP)) × (List (eP)) × List Int × List Int × Int)
 | 0, _, _, _, _, _, _, _, _, _, _, _ => none
 | k + 1, x1, QS, mF, oD, oG, oH, pY, oI, oJ, oK, oL => if QS = true then (some (0, 0, 0, 0, 0, ([] : List (eP)), ([] : List (eP)), ([] : List Int), ([] : List Int), 21)) else ((tidepoleref06_Places.f k oI).bind fun jL => ((tidepoleref25_side.f k jL oK (wrap64 (mF - x1))).bind fun qp => ((tidepoleref06_Places.f k oJ).bind fun zS => ((tidepoleref25_side.f k zS oL (wrap64 (mF - x1))).bind fun kH => (if (wrap64 (qp.2.2 + kH.2.2)) > 0 then (some (0, 0, 0, 0, 0, ([] : List (eP)), ([] : List (eP)), ([] : List Int), ([] : List Int), 28)) else ((tidepoleref06_Runs.f k qp.1).bind fun t124 => (if t124 > 1024 then (tidepoleref25_Floats.j1 k x1 qp.1 qp.2.1 kH.1 kH.2.1 true mF oD oG oH pY oI oJ oK oL) else ((tidepoleref06_Runs.f k kH.1).bind fun yu => (tidepoleref25_Floats.j1 k x1 qp.1 qp.2.1 kH.1 kH.2.1 (decide (yu > 1024)) mF oD oG oH pY oI oJ oK oL)))))))))
def tidepoleref25_Floats.j1 : Nat → Int → List Int → List Int → List Int → List Int → Bool → Int → Int → Int → Int → Int → List (eP) → List (eP) → List Int → List Int → Option (Int × Int × Int × Int × Int × (List (eP)) × (List (eP)) × List Int × List Int × Int)
 | 0, _, _, _, _, _, _, _, _, _, _, _, _, _, _, _ => none
 | k + 1, x1, x7, x8, x10, x11, x68, mF, oD, oG, oH, pY, oI, oJ, oK, oL => if x68 = true then (some (0, 0, 0, 0, 0, ([] : List (eP)), ([] : List (eP)), ([] : List Int), ([] : List Int), 12)) else ((tidepoleref17_Runs.f k x7).bind fun tX => ((tidepoleref17_Runs.f k x10).bind fun wS => (some (x1, oD, oG, oH, pY, tX, wS, x8, x11, 0))))
end
def tidepoleref25_Floats.f (k : Nat) (cO : Int) (dF : Int) (dO : Int) (dP : Int) (dM : Int) (dJ : List (eP)) (dG : List (eP)) (dB : List Int) (dA : List Int) (a1 : Int) : Option (Int × Int × Int × Int × Int × (List (eP)) × (List (eP)) × List Int × List Int × Int) := (tidepoleref10_Check.f k cO dF dO dP dM dJ dG dB dA).bind fun dZ => (if dZ = 0 then (if a1 < (-4) then (tidepoleref25_Floats.j0 k a1 true cO dF dO dP dM dJ dG dB dA) else (tidepoleref25_Floats.j0 k a1 (decide (a1 > cO)) cO dF dO dP dM dJ dG dB dA)) else (some (0, 0, 0, 0, 0, ([] : List (eP)), ([] : List (eP)), ([] : List Int), ([] : List Int), dZ)))
def tidepoleref25_Floats.T6 : Bool × List (List Nat × List Nat) := (true, [([], []), ([0], [0]), ([1], [1]), ([], []), ([3], [3]), ([], []), ([5], [5]), ([], []), ([6, 7], [6, 7]), ([2, 4, 8, 2], [2, 4, 8]), ([9], [9]), ([10], [10]), ([10], [10]), ([10], [10]), ([11, 9, 0, 1, 2, 3, 4, 5, 6, 7, 8, 9, 10, 11], [11]), ([12, 14, 0, 1, 2, 3, 4, 5, 6, 7, 8, 9, 10, 11, 12, 14], [12]), ([13, 15, 0, 1, 2, 3, 4, 5, 6, 7, 8, 9, 10, 11, 12, 13, 14, 15], [13])])
def tidepoleref25_Floats.B6 : List Nat := [0, 1, 3, 0, 8, 0, 32, 0, 224, 511, 1023, 2047, 2047, 2047, 4095, 24575, 65535]
theorem tidepoleref25_Floats.tab6 : ru .any (opsOf Try.f34 6) = tidepoleref25_Floats.T6 := by kernel_rfl
theorem tidepoleref25_Floats.Hg : qG tidepoleref25_Floats.T6.2 tidepoleref25_Floats.B6 = true := by kernel_rfl
def tidepoleref25_Floats.T7 : Bool × List (List Nat × List Nat) := (true, [([], []), ([0], [0]), ([1], [1]), ([], []), ([3], [3]), ([], []), ([5], [5]), ([], []), ([6, 7], [6, 7]), ([2, 4, 8, 2], [2, 4, 8]), ([9], [9]), ([10], [10]), ([10], [10]), ([10], [10]), ([11, 9, 0, 1, 2, 3, 4, 5, 6, 7, 8, 9, 10, 11], [11]), ([12, 14, 0, 1, 2, 3, 4, 5, 6, 7, 8, 9, 10, 11, 12, 14], [12]), ([13, 15, 0, 1, 2, 3, 4, 5, 6, 7, 8, 9, 10, 11, 12, 13, 14, 15], [13])])
def tidepoleref25_Floats.B7 : List Nat := [0, 1, 3, 0, 8, 0, 32, 0, 224, 511, 1023, 2047, 2047, 2047, 4095, 24575, 65535]
theorem tidepoleref25_Floats.aai : ru .any (opsOf Try.f34 7) = tidepoleref25_Floats.T7 := by kernel_rfl
theorem tidepoleref25_Floats.V8 : qG tidepoleref25_Floats.T7.2 tidepoleref25_Floats.B7 = true := by kernel_rfl
set_option maxHeartbeats 8000000 in
set_option maxRecDepth 100000 in
theorem tidepoleref25_Floats.calls (k : Nat) (cO : Int) (dF : Int) (dO : Int) (dP : Int) (dM : Int) (iO : Option Addr) (iP : Nat) (dJ : List (eP)) (iJ : Option Addr) (iK : Nat) (dG : List (eP)) (iw : Option Addr) (iy : Nat) (dB : List Int) (iD : Option Addr) (iE : Nat) (dA : List Int) (a1 : Int) (r1 : Int) (r2 : Int) (r3 : Int) (r4 : Int) (r5 : Int) (r6 : List (eP)) (r7 : List (eP)) (r8 : List Int) (r9 : List Int) (r10 : Int) (w : World) (oP : Kd.C mV w iO dJ.length dJ) (oQ : dJ.length ≤ iP) (oU : Kd.C mV w iJ dG.length dG) (oV : dG.length ≤ iK) (qP : Kd.C (Kd.int .u64) w iw dB.length dB) (qQ : dB.length ≤ iy) (qR : Kd.C (Kd.int .u64) w iD dA.length dA) (qU : dA.length ≤ iE) (h : tidepoleref25_Floats.f k cO dF dO dP dM dJ dG dB dA a1 = some (r1, r2, r3, r4, r5, r6, r7, r8, r9, r10)) :
  Calls Try.prog 34 #[.agg #[.int .i64 cO, .int .u64 dF, .int .u64 dO, .int .u64 dP, .int .u64 dM, .slice iO dJ.length iP, .slice iJ dG.length iK, .slice iw dB.length iy, .slice iD dA.length iE], .int .i64 a1] w fun e w' => ∃ KY La OM OO : Value, e = .returned (.tuple #[.agg #[.int .i64 r1, .int .u64 r2, .int .u64 r3, .int .u64 r4, .int .u64 r5, KY, La, OM, OO], .int .i64 r10]) ∧ Kd.R mV 127 w' w.heap.size (fun k_ => some k_ ≠ (La : Value).ownBlock) KY r6 ∧ Kd.R mV 127 w' w.heap.size (fun k_ => some k_ ≠ (KY : Value).ownBlock) La r7 ∧ Kd.R (Kd.int .u64) 25 w' w.heap.size (fun k_ => some k_ ≠ (OO : Value).ownBlock) OM r8 ∧ Kd.R (Kd.int .u64) 25 w' w.heap.size (fun k_ => some k_ ≠ (OM : Value).ownBlock) OO r9 ∧ Below w.heap.size w w' := by
 have aaf := Try.underlying60
 have nX := ah oP
 have nY := ah oQ
 clear oP oQ
 have oW := ah oU
 have oZ := ah oV
 clear oU oV
 have pK := ah qP
 have pO := ah qQ
 clear qP qQ
 have qm := ah qR
 have qo := ah qU
 clear qR qU
 have HB := ah (Below.refl w.heap.size w)
 have H : ((tidepoleref10_Check.f k cO dF dO dP dM dJ dG dB dA).bind fun dZ => (if dZ = 0 then (if a1 < (-4) then (tidepoleref25_Floats.j0 k a1 true cO dF dO dP dM dJ dG dB dA) else (tidepoleref25_Floats.j0 k a1 (decide (a1 > cO)) cO dF dO dP dM dJ dG dB dA)) else (some (0, 0, 0, 0, 0, ([] : List (eP)), ([] : List (eP)), ([] : List Int), ([] : List Int), dZ)))) = some (r1, r2, r3, r4, r5, r6, r7, r8, r9, r10) := h
 clear h
 replace H := Option.bind_eq_some_iff.mp H
 obtain ⟨dZ, G7, H⟩ := H
 replace H : (if dZ = 0 then (if a1 < (-4) then (tidepoleref25_Floats.j0 k a1 true cO dF dO dP dM dJ dG dB dA) else (tidepoleref25_Floats.j0 k a1 (decide (a1 > cO)) cO dF dO dP dM dJ dG dB dA)) else (some (0, 0, 0, 0, 0, ([] : List (eP)), ([] : List (eP)), ([] : List Int), ([] : List Int), dZ))) = some (r1, r2, r3, r4, r5, r6, r7, r8, r9, r10) := H
 have A3 := ah G7
 clear G7
 by_cases c4 : dZ = 0
 ·rw [if_pos c4] at H
  have c4b0 : (dZ == 0) = true := beq_iff_eq.mpr c4
  have c4b1 : (dZ != 0) = false := bne_eq_false_iff_eq.mpr c4
  clear c4
  have MW := ah H
  clear H
  go_enter Try.func34, Try.ntmps34
  go_upto_region 4 with (first | ((with_reducible refine fK (N := 2) rfl ?_); refine fA ?hg (N := 2) ?hd (cs := #[.int .i64 cO, .int .u64 dF, .int .u64 dO, .int .u64 dP, .int .u64 dM, .slice iO dJ.length iP, .slice iJ dG.length iK, .slice iw dB.length iy, .slice iD dA.length iE]) (t := 60) ?hr ?_; (case hd => rfl); (case hg => rfl); (case hr => first | (go_simp; done) | (go_simp; rfl)); intro bV hg w6 hbox hb; have aN := ah (hbox); have xY := ah ((by rw [hg]; exact (aQ (bg HB.out)) : w.heap.size ≤ bV)); have dH := ah ((by rw [hg]; exact (aQ (bg HB.out)) : w.heap.size ≤ bV)); replace HB := ah (aZ (bg HB.out) hb); clear hb hbox hg) | ((with_reducible refine fK (N := 4) rfl ?_); refine fA ?hg (N := 4) ?hd (cs := #[.int .i64 0, .int .u64 0, .int .u64 0, .int .u64 0, .int .u64 0, .slice none 0 0, .slice none 0 0, .slice none 0 0, .slice none 0 0]) (t := 60) ?hr ?_; (case hd => rfl); (case hg => rfl); (case hr => first | (go_simp; done) | (go_simp; rfl)); intro aI hg w7 hbox hb; have aJ := ah (hbox); have oN := ah ((by rw [hg]; exact (aQ (by repeat (first | (with_reducible first | exact HB.out | refine bJ ?_ | refine aA ?_ dH.out) | exact HB.out))) : w.heap.size ≤ aI)); have bU := ah ((by rw [hg]; exact (aQ (by repeat (first | (with_reducible first | exact HB.out | refine bJ ?_ | refine aA ?_ dH.out) | exact HB.out))) : w.heap.size ≤ aI)); have aT := ah ((by rw [hg]; exact Nat.ne_of_lt (jX (g := bV) (o := .cells #[.int .i64 cO, .int .u64 dF, .int .u64 dO, .int .u64 dP, .int .u64 dM, .slice iO dJ.length iP, .slice iJ dG.length iK, .slice iw dB.length iy, .slice iD dA.length iE] 60 (0, 0)) (jJ aN.out)) : bV ≠ aI)); have fB := ah ((by rw [hg]; exact Nat.ne_of_gt (jX (g := bV) (o := .cells #[.int .i64 cO, .int .u64 dF, .int .u64 dO, .int .u64 dP, .int .u64 dM, .slice iO dJ.length iP, .slice iJ dG.length iK, .slice iw dB.length iy, .slice iD dA.length iE] 60 (0, 0)) (jJ aN.out)) : aI ≠ bV)); replace aN := ah (eH aN.out hb); replace HB := ah (aZ (by repeat (first | (with_reducible first | exact HB.out | refine bJ ?_ | refine aA ?_ dH.out) | exact HB.out)) hb); clear hb hbox hg; have agH := aT.out; have agI := fB.out; have rJ := au aN.out; have rM := aC aN.out) | ((with_reducible refine bP (f := 95) rfl ?_); refine lG (some 14) rfl rfl Try.func95 (by kernel_rfl) rfl #[.agg #[.int .i64 cO, .int .u64 dF, .int .u64 dO, .int .u64 dP, .int .u64 dM, .slice iO dJ.length iP, .slice iJ dG.length iK, .slice iw dB.length iy, .slice iD dA.length iE]] rfl (by (try simp only [List.map_toArray, List.map_cons, List.map_nil]); first | done | rfl | (simp only [List.length_drop, List.length_take]; rfl)) ?_; (with_reducible refine (tidepoleref10_Check.calls k cO dF dO dP dM _ _ dJ _ _ dG _ _ dB _ _ dA dZ _ ?dK ?dL ?kC ?kD ?pR ?pU ?pV ?pW A3.out).mono ?_); (case dK => exact Kd.jV (Kd.bT nX.out HB.out)); (case dL => exact nY.out); (case kC => exact Kd.jV (Kd.bT oW.out HB.out)); (case kD => exact oZ.out); (case pR => exact Kd.jV (Kd.bT pK.out HB.out)); (case pU => exact pO.out); (case pV => exact Kd.jV (Kd.bT qm.out HB.out)); (case pW => exact qo.out); rintro e w10 ⟨rfl, hb⟩; refine ⟨_, rfl, ?_⟩; replace aN := ah (eH aN.out hb); replace aJ := ah (eH aJ.out hb); replace HB := ah (aZ (by repeat (first | (with_reducible first | exact HB.out | refine bJ ?_ | refine aA ?_ dH.out | refine aA ?_ bU.out) | exact HB.out)) hb); (try clear hb); (try clear hb2); (try clear hk); (try clear hi); clear A3))
  (try simp only [Act.put, List.setIfInBounds_toArray, List.set_cons_zero, List.set_cons_succ])
  go_cut [26] (fun v26 wc => ∃ (kq : Nat) (Ah : Bool), v26 = .bool Ah ∧ aj (tidepoleref25_Floats.j0 kq a1 Ah cO dF dO dP dM dJ dG dB dA = some (r1, r2, r3, r4, r5, r6, r7, r8, r9, r10)) ∧ aj (kq ≤ k) ∧ aj (wc.heap[bV]? = some (.cells #[.int .i64 cO, .int .u64 dF, .int .u64 dO, .int .u64 dP, .int .u64 dM, (.slice iO dJ.length iP), (.slice iJ dG.length iK), (.slice iw dB.length iy), (.slice iD dA.length iE)] 60 (0, 0))) ∧ aj (wc.heap[aI]? = some (.cells #[.int .i64 0, .int .u64 0, .int .u64 0, .int .u64 0, .int .u64 0, (.slice none 0 0), (.slice none 0 0), (.slice none 0 0), (.slice none 0 0)] 60 (0, 0))) ∧ aj (Below w.heap.size w wc))
  case first =>
   have H := MW.out
   clear MW
   by_cases c11 : a1 < (-4)
   ·rw [if_pos c11] at H
    have c11b0 : decide (a1 < (-4)) = true := ahG c11
    clear c11
    (first | rw [c11b0] | (simp only [bI, bM]; rw [c11b0]) | skip)
    have H' := ah H
    clear H
    go_wp2
    go_meet
    case rel => exact ⟨_, (true), (by first | rfl | (simp; done) | (simp [*]; done)), H', ⟨by first | omega | exact Nat.le_refl _⟩, ⟨by (repeat with_reducible refine bQ ?_); exact aN.out⟩, ⟨by (repeat with_reducible refine bQ ?_); exact aJ.out⟩, ⟨by repeat (first | (with_reducible first | exact HB.out | apply ak | apply ay | apply aH | refine aA ?_ dH.out | refine aA ?_ bU.out) | exact HB.out)⟩⟩
   rw [if_neg c11] at H
   have c11b0 : decide (a1 < (-4)) = false := ahH c11
   clear c11
   (first | rw [c11b0] | (simp only [bI, bM]; rw [c11b0]) | skip)
   have H' := ah H
   clear H
   have ZH := aT.out
   have ZI := fB.out
   have yG := au aN.out
   have yH := aC aN.out
   go_wp2
   go_meet
   case rel => exact ⟨_, (decide (a1 > cO)), (by first | rfl | (simp; done) | (simp [*]; done)), H', ⟨by first | omega | exact Nat.le_refl _⟩, ⟨by (repeat with_reducible refine bQ ?_); exact aN.out⟩, ⟨by (repeat with_reducible refine bQ ?_); exact aJ.out⟩, ⟨by repeat (first | (with_reducible first | exact HB.out | apply ak | apply ay | apply aH | refine aA ?_ dH.out | refine aA ?_ bU.out) | exact HB.out)⟩⟩
  case rest =>
   clear MW
   try clear c1
   try clear p2
   try clear c3
   try clear c4
   try clear c4b0
   try clear c4b1
   try clear c8
   try clear c9
   try clear c11
   try clear c11b0
   try clear c12
   try clear yG
   try clear rJ
   try clear yH
   try clear rM
   obtain ⟨kq, Ah, rfl, HA, IL, aN, aJ, HB⟩ := hcut
   cases kq with
   | zero => exact absurd HA.out (by simp [tidepoleref25_Floats.j0])
   | succ mZ =>
    have H := HA.out
    clear HA
    simp only [tidepoleref25_Floats.j0] at H
    by_cases c14 : Ah = true
    ·subst c14
     have H1 : (some (0, 0, 0, 0, 0, ([] : List (eP)), ([] : List (eP)), ([] : List Int), ([] : List Int), 21)) = some (r1, r2, r3, r4, r5, r6, r7, r8, r9, r10) := by rw [if_pos rfl] at H; exact H
     clear H
     have H := H1
     clear H1
     simp only [Option.some.injEq, Prod.mk.injEq] at H
     obtain ⟨rfl, rfl, rfl, rfl, rfl, rfl, rfl, rfl, rfl, rfl⟩ := H
     have ae8 := fB.out
     have ae9 := aT.out
     have Ad := au aJ.out
     have Ae := aC aJ.out
     go_wp2
     refine bodyPost_ret (gu rfl _ _ aI 60 #[.int .i64 0, .int .u64 0, .int .u64 0, .int .u64 0, .int .u64 0, .slice none 0 0, .slice none 0 0, .slice none 0 0, .slice none 0 0] (0, 0) _ rfl (by (repeat with_reducible refine bQ ?_); refine bC (cs := #[.int .i64 0, .int .u64 0, .int .u64 0, .int .u64 0, .int .u64 0, .slice none 0 0, .slice none 0 0, .slice none 0 0, .slice none 0 0]) ?_ 8 _ rfl; (repeat with_reducible refine bQ ?_); refine bC (cs := #[.int .i64 0, .int .u64 0, .int .u64 0, .int .u64 0, .int .u64 0, .slice none 0 0, .slice none 0 0, .slice none 0 0, .slice none 0 0]) ?_ 7 _ rfl; (repeat with_reducible refine bQ ?_); refine bC (cs := #[.int .i64 0, .int .u64 0, .int .u64 0, .int .u64 0, .int .u64 0, .slice none 0 0, .slice none 0 0, .slice none 0 0, .slice none 0 0]) ?_ 6 _ rfl; (repeat with_reducible refine bQ ?_); refine bC (cs := #[.int .i64 0, .int .u64 0, .int .u64 0, .int .u64 0, .int .u64 0, .slice none 0 0, .slice none 0 0, .slice none 0 0, .slice none 0 0]) ?_ 5 _ rfl; (repeat with_reducible refine bQ ?_); refine bC (cs := #[.int .i64 0, .int .u64 0, .int .u64 0, .int .u64 0, .int .u64 0, .slice none 0 0, .slice none 0 0, .slice none 0 0, .slice none 0 0]) ?_ 4 _ rfl; (repeat with_reducible refine bQ ?_); refine bC (cs := #[.int .i64 0, .int .u64 0, .int .u64 0, .int .u64 0, .int .u64 0, .slice none 0 0, .slice none 0 0, .slice none 0 0, .slice none 0 0]) ?_ 3 _ rfl; (repeat with_reducible refine bQ ?_); refine bC (cs := #[.int .i64 0, .int .u64 0, .int .u64 0, .int .u64 0, .int .u64 0, .slice none 0 0, .slice none 0 0, .slice none 0 0, .slice none 0 0]) ?_ 2 _ rfl; (repeat with_reducible refine bQ ?_); refine bC (cs := #[.int .i64 0, .int .u64 0, .int .u64 0, .int .u64 0, .int .u64 0, .slice none 0 0, .slice none 0 0, .slice none 0 0, .slice none 0 0]) ?_ 1 _ rfl; (repeat with_reducible refine bQ ?_); refine bC (cs := #[.int .i64 0, .int .u64 0, .int .u64 0, .int .u64 0, .int .u64 0, .slice none 0 0, .slice none 0 0, .slice none 0 0, .slice none 0 0]) ?_ 0 _ rfl; (repeat with_reducible refine bQ ?_); exact aJ.out) Try.underlying60 rfl (by kernel_rfl)) rfl ?_
     exact ⟨_, _, _, _, by first | rfl | (simp [aU, aV] <;> rfl) | (simp [*, aU, aV] <;> rfl), by first | exact Kd.eY _ _ _ _ _ | exact Kd.ig _ _ _ _ _ | exact Kd.iq _ _ _ _ _ | exact Kd.gY _ _ _ _ _ | exact Kd.gZ _ _ _ _ _, by first | exact Kd.eY _ _ _ _ _ | exact Kd.ig _ _ _ _ _ | exact Kd.iq _ _ _ _ _ | exact Kd.gY _ _ _ _ _ | exact Kd.gZ _ _ _ _ _, by first | exact Kd.eY _ _ _ _ _ | exact Kd.ig _ _ _ _ _ | exact Kd.iq _ _ _ _ _ | exact Kd.gY _ _ _ _ _ | exact Kd.gZ _ _ _ _ _, by first | exact Kd.eY _ _ _ _ _ | exact Kd.ig _ _ _ _ _ | exact Kd.iq _ _ _ _ _ | exact Kd.gY _ _ _ _ _ | exact Kd.gZ _ _ _ _ _, by repeat (first | (with_reducible first | exact HB.out | apply ak | apply ay | apply aH | refine aA ?_ dH.out | refine aA ?_ bU.out) | exact HB.out)⟩
    replace c14 := Bool.eq_false_iff.mpr c14
    subst c14
    have H1 : ((tidepoleref06_Places.f mZ dJ).bind fun jL => ((tidepoleref25_side.f mZ jL dB (wrap64 (cO - a1))).bind fun qp => ((tidepoleref06_Places.f mZ dG).bind fun zS => ((tidepoleref25_side.f mZ zS dA (wrap64 (cO - a1))).bind fun kH => (if (wrap64 (qp.2.2 + kH.2.2)) > 0 then (some (0, 0, 0, 0, 0, ([] : List (eP)), ([] : List (eP)), ([] : List Int), ([] : List Int), 28)) else ((tidepoleref06_Runs.f mZ qp.1).bind fun t124 => (if t124 > 1024 then (tidepoleref25_Floats.j1 mZ a1 qp.1 qp.2.1 kH.1 kH.2.1 true cO dF dO dP dM dJ dG dB dA) else ((tidepoleref06_Runs.f mZ kH.1).bind fun yu => (tidepoleref25_Floats.j1 mZ a1 qp.1 qp.2.1 kH.1 kH.2.1 (decide (yu > 1024)) cO dF dO dP dM dJ dG dB dA))))))))) = some (r1, r2, r3, r4, r5, r6, r7, r8, r9, r10) := by rw [if_neg (show ¬ (false = true) by decide)] at H; exact H
    clear H
    have H := H1
    clear H1
    replace H := Option.bind_eq_some_iff.mp H
    obtain ⟨jL, QJ, H⟩ := H
    replace H : ((tidepoleref25_side.f mZ jL dB (wrap64 (cO - a1))).bind fun qp => ((tidepoleref06_Places.f mZ dG).bind fun zS => ((tidepoleref25_side.f mZ zS dA (wrap64 (cO - a1))).bind fun kH => (if (wrap64 (qp.2.2 + kH.2.2)) > 0 then (some (0, 0, 0, 0, 0, ([] : List (eP)), ([] : List (eP)), ([] : List Int), ([] : List Int), 28)) else ((tidepoleref06_Runs.f mZ qp.1).bind fun t124 => (if t124 > 1024 then (tidepoleref25_Floats.j1 mZ a1 qp.1 qp.2.1 kH.1 kH.2.1 true cO dF dO dP dM dJ dG dB dA) else ((tidepoleref06_Runs.f mZ kH.1).bind fun yu => (tidepoleref25_Floats.j1 mZ a1 qp.1 qp.2.1 kH.1 kH.2.1 (decide (yu > 1024)) cO dF dO dP dM dJ dG dB dA)))))))) = some (r1, r2, r3, r4, r5, r6, r7, r8, r9, r10) := H
    have YJ := ah QJ
    clear QJ
    replace H := Option.bind_eq_some_iff.mp H
    obtain ⟨⟨t107, lM, t109⟩, TB, H⟩ := H
    replace H : ((tidepoleref06_Places.f mZ dG).bind fun zS => ((tidepoleref25_side.f mZ zS dA (wrap64 (cO - a1))).bind fun kH => (if (wrap64 (t109 + kH.2.2)) > 0 then (some (0, 0, 0, 0, 0, ([] : List (eP)), ([] : List (eP)), ([] : List Int), ([] : List Int), 28)) else ((tidepoleref06_Runs.f mZ t107).bind fun t124 => (if t124 > 1024 then (tidepoleref25_Floats.j1 mZ a1 t107 lM kH.1 kH.2.1 true cO dF dO dP dM dJ dG dB dA) else ((tidepoleref06_Runs.f mZ kH.1).bind fun yu => (tidepoleref25_Floats.j1 mZ a1 t107 lM kH.1 kH.2.1 (decide (yu > 1024)) cO dF dO dP dM dJ dG dB dA))))))) = some (r1, r2, r3, r4, r5, r6, r7, r8, r9, r10) := H
    have Yk := ah TB
    clear TB
    replace H := Option.bind_eq_some_iff.mp H
    obtain ⟨zS, aaj, H⟩ := H
    replace H : ((tidepoleref25_side.f mZ zS dA (wrap64 (cO - a1))).bind fun kH => (if (wrap64 (t109 + kH.2.2)) > 0 then (some (0, 0, 0, 0, 0, ([] : List (eP)), ([] : List (eP)), ([] : List Int), ([] : List Int), 28)) else ((tidepoleref06_Runs.f mZ t107).bind fun t124 => (if t124 > 1024 then (tidepoleref25_Floats.j1 mZ a1 t107 lM kH.1 kH.2.1 true cO dF dO dP dM dJ dG dB dA) else ((tidepoleref06_Runs.f mZ kH.1).bind fun yu => (tidepoleref25_Floats.j1 mZ a1 t107 lM kH.1 kH.2.1 (decide (yu > 1024)) cO dF dO dP dM dJ dG dB dA)))))) = some (r1, r2, r3, r4, r5, r6, r7, r8, r9, r10) := H
    have A19 := ah aaj
    clear aaj
    replace H := Option.bind_eq_some_iff.mp H
    obtain ⟨⟨t117, vC, t119⟩, EL, H⟩ := H
    replace H : (if (wrap64 (t109 + t119)) > 0 then (some (0, 0, 0, 0, 0, ([] : List (eP)), ([] : List (eP)), ([] : List Int), ([] : List Int), 28)) else ((tidepoleref06_Runs.f mZ t107).bind fun t124 => (if t124 > 1024 then (tidepoleref25_Floats.j1 mZ a1 t107 lM t117 vC true cO dF dO dP dM dJ dG dB dA) else ((tidepoleref06_Runs.f mZ t117).bind fun yu => (tidepoleref25_Floats.j1 mZ a1 t107 lM t117 vC (decide (yu > 1024)) cO dF dO dP dM dJ dG dB dA))))) = some (r1, r2, r3, r4, r5, r6, r7, r8, r9, r10) := H
    have tC := ah EL
    clear EL
    by_cases c21 : (wrap64 (t109 + t119)) > 0
    ·rw [if_pos c21] at H
     have c21b0 : decide (0 < (wrap64 (t109 + t119))) = true := ahG c21
     clear c21
     simp only [Option.some.injEq, Prod.mk.injEq] at H
     obtain ⟨rfl, rfl, rfl, rfl, rfl, rfl, rfl, rfl, rfl, rfl⟩ := H
     try go_wp2
     have fZ := ah (kP aN.out)
     have gG := ah (kP aJ.out)
     have iC := ah (aH HB.out)
     clear aN
     clear aJ
     clear HB
     have aN := fZ
     have aJ := gG
     have HB := iC
     clear fZ gG iC
     refine uX (n := 17) (S := fun w' => w'.cell? ⟨bV, 0, none⟩ = some (.int .i64 cO) ∧ w'.cell? ⟨bV, 1, none⟩ = some (.int .u64 dF) ∧ w'.cell? ⟨bV, 2, none⟩ = some (.int .u64 dO) ∧ w'.cell? ⟨bV, 3, none⟩ = some (.int .u64 dP) ∧ w'.cell? ⟨bV, 4, none⟩ = some (.int .u64 dM) ∧ w'.cell? ⟨bV, 5, none⟩ = some (.slice iO dJ.length iP) ∧ w'.cell? ⟨bV, 6, none⟩ = some (.slice iJ dG.length iK) ∧ w'.cell? ⟨bV, 7, none⟩ = some (.slice iw dB.length iy) ∧ w'.cell? ⟨bV, 8, none⟩ = some (.slice iD dA.length iE)) (ds := []) #[false, false, false, false, false, false, false, false, false, false, false, false, false, false, false, false, false] (by kernel_rfl) rfl rfl ⟨(au aN.out 0).trans rfl, (au aN.out 1).trans rfl, (au aN.out 2).trans rfl, (au aN.out 3).trans rfl, (au aN.out 4).trans rfl, (au aN.out 5).trans rfl, (au aN.out 6).trans rfl, (au aN.out 7).trans rfl, (au aN.out 8).trans rfl⟩ (fun hHeld => ?_); refine mQ tidepoleref25_Floats.tab6 tidepoleref25_Floats.Hg (fun HT_ HW_ => ?_)
     generalize wc.drew = VZ at aN aJ HB hHeld ⊢
     refine dX (i := 0) (N := some 29) (v := ?_) (a' := ?_) #[true, false, false, false, false, false, false, false, false, false, false, false, false, false, false, false, false] rfl rfl (dD HT_.out (by kernel_rfl)) (fun _ _ _ h => h) (Or.inl ⟨by rfl, ?_⟩) ?_ ?_
     rotate_left
     ·intro w'
      go_simp
      with_reducible rfl
     rotate_left
     ·simp only [Act.put, List.setIfInBounds_toArray, List.set_cons_zero, List.set_cons_succ, bI, bM]
      rfl
     refine dX (i := 3) (N := some 32) (v := ?_) (a' := ?_) #[true, false, false, true, false, false, false, false, false, false, false, false, false, false, false, false, false] rfl rfl (dD HT_.out (by kernel_rfl)) (fun _ _ _ h => h) (Or.inl ⟨by rfl, ?_⟩) ?_ ?_
     rotate_left
     ·intro w'
      go_simp
      with_reducible rfl
     rotate_left
     ·simp only [Act.put, List.setIfInBounds_toArray, List.set_cons_zero, List.set_cons_succ, bI, bM]
      rfl
     refine dX (i := 5) (N := some 34) (v := ?_) (a' := ?_) #[true, false, false, true, false, true, false, false, false, false, false, false, false, false, false, false, false] rfl rfl (dD HT_.out (by kernel_rfl)) (fun _ _ _ h => h) (Or.inl ⟨by rfl, ?_⟩) ?_ ?_
     rotate_left
     ·intro w'
      go_simp
      with_reducible rfl
     rotate_left
     ·simp only [Act.put, List.setIfInBounds_toArray, List.set_cons_zero, List.set_cons_succ, bI, bM]
      rfl
     refine dX (i := 7) (N := some 36) (v := ?_) (a' := ?_) #[true, false, false, true, false, true, false, true, false, false, false, false, false, false, false, false, false] rfl rfl (dD HT_.out (by kernel_rfl)) (fun _ _ _ h => h) (Or.inl ⟨by rfl, ?_⟩) ?_ ?_
     rotate_left
     ·intro w'
      go_simp
      with_reducible rfl
     rotate_left
     ·simp only [Act.put, List.setIfInBounds_toArray, List.set_cons_zero, List.set_cons_succ, bI, bM]
      rfl
     refine jT (i := 1) (N := some 30) (v := ?_) (a' := ?_) #[true, true, false, true, false, true, false, true, false, false, false, false, false, false, false, false, false] rfl rfl (fM HT_.out HW_.out (by kernel_rfl)) (fun _ _ _ h => h) (Or.inl ⟨by rfl, ?_⟩) hHeld ?_ ?_
     rotate_left
     ·rintro w' ⟨s0, s1, s2, s3, s4, s5, s6, s7, s8⟩
      go_simp
      with_reducible rfl
     rotate_left
     ·simp only [Act.put, List.setIfInBounds_toArray, List.set_cons_zero, List.set_cons_succ, bI, bM]
      rfl
     refine jT (i := 4) (N := some 33) (v := ?_) (a' := ?_) #[true, true, false, true, true, true, false, true, false, false, false, false, false, false, false, false, false] rfl rfl (fM HT_.out HW_.out (by kernel_rfl)) (fun _ _ _ h => h) (Or.inl ⟨by rfl, ?_⟩) hHeld ?_ ?_
     rotate_left
     ·rintro w' ⟨s0, s1, s2, s3, s4, s5, s6, s7, s8⟩
      go_simp
      with_reducible rfl
     rotate_left
     ·simp only [Act.put, List.setIfInBounds_toArray, List.set_cons_zero, List.set_cons_succ, bI, bM]
      rfl
     refine jT (i := 6) (N := some 35) (v := ?_) (a' := ?_) #[true, true, false, true, true, true, true, true, false, false, false, false, false, false, false, false, false] rfl rfl (fM HT_.out HW_.out (by kernel_rfl)) (fun _ _ _ h => h) (Or.inl ⟨by rfl, ?_⟩) hHeld ?_ ?_
     rotate_left
     ·rintro w' ⟨s0, s1, s2, s3, s4, s5, s6, s7, s8⟩
      go_simp
      with_reducible rfl
     rotate_left
     ·simp only [Act.put, List.setIfInBounds_toArray, List.set_cons_zero, List.set_cons_succ, bI, bM]
      rfl
     refine dX (i := 8) (N := some 37) (v := ?_) (a' := ?_) #[true, true, false, true, true, true, true, true, true, false, false, false, false, false, false, false, false] rfl rfl (dD HT_.out (by kernel_rfl)) (fun _ _ _ h => h) (Or.inl ⟨by rfl, ?_⟩) ?_ ?_
     rotate_left
     ·intro w'
      go_simp
      with_reducible rfl
     rotate_left
     ·simp only [Act.put, List.setIfInBounds_toArray, List.set_cons_zero, List.set_cons_succ, bI, bM]
      rfl
     refine o9 (i := 2) (N := some 31) #[true, true, true, true, true, true, true, true, true, false, false, false, false, false, false, false, false] rfl rfl (jD HT_.out (by kernel_rfl)) (by decide) (fun K hK => ?_)
     refine ql Try.func97 (by kernel_rfl) rfl #[.slice iO dJ.length iP] (by rfl) rfl rfl (by (try simp only [List.map_toArray, List.map_cons, List.map_nil]); first | done | rfl | (simp only [List.length_drop, List.length_take]; rfl)) ?_
     with_reducible refine (tidepoleref06_Places.calls mZ _ _ dJ jL _ ?dK ?dL YJ.out).mono ?_
     (case dK => exact Kd.jV (Kd.bT nX.out HB.out))
     (case dL => exact nY.out)
     rintro e w23 ⟨v105, rfl, ho0, hb⟩
     refine ⟨_, rfl, ?_⟩
     have fZ := ah (Kd.dh ho0 (aQ (by repeat (first | (with_reducible first | exact HB.out | refine bJ ?_ | refine aA ?_ dH.out | refine aA ?_ bU.out) | exact HB.out))))
     have gG := ah (eH aN.out hb)
     have iC := ah (eH aJ.out hb)
     have jg := ah (aZ (by repeat (first | (with_reducible first | exact HB.out | refine bJ ?_ | refine aA ?_ dH.out | refine aA ?_ bU.out) | exact HB.out)) hb)
     clear aN
     clear aJ
     clear HB
     have jE := fZ
     have aN := gG
     have aJ := iC
     have HB := jg
     clear fZ gG iC jg
     (try clear hb)
     (try clear hb2)
     (try clear hk)
     (try clear hi)
     (try clear ho0)
     obtain ⟨Rz, RD, PD⟩ := Kd.dw jE.out
     (first | subst PD | (injection PD with pG uY pI; have uZ := pG.symm; have vg := pI.symm; clear pG uY pI; subst uZ; subst vg))
     refine hK.out _ _ ⟨(au aN.out 0).trans rfl, (au aN.out 1).trans rfl, (au aN.out 2).trans rfl, (au aN.out 3).trans rfl, (au aN.out 4).trans rfl, (au aN.out 5).trans rfl, (au aN.out 6).trans rfl, (au aN.out 7).trans rfl, (au aN.out 8).trans rfl⟩ (fun hHeld => ?_)
     clear hK K
     refine jo (a' := ?_) ?_ ?_
     rotate_left
     ·show Act.put _ (some 31) _ = _
      simp only [Act.put, List.setIfInBounds_toArray, List.set_cons_zero, List.set_cons_succ, bI, bM]
      rfl
     refine o9 (i := 9) (N := some 38) #[true, true, true, true, true, true, true, true, true, true, false, false, false, false, false, false, false] rfl rfl (jD HT_.out (by kernel_rfl)) (by decide) (fun K hK => ?_)
     refine ql Try.func96 (by kernel_rfl) rfl #[.slice Rz jL.length RD, .slice iw dB.length iy, .int .i64 (wrap64 (cO - a1))] (by rfl) rfl rfl (by (try simp only [List.map_toArray, List.map_cons, List.map_nil]); first | done | rfl | (simp only [List.length_drop, List.length_take]; rfl)) ?_
     with_reducible refine (tidepoleref25_side.calls mZ _ _ jL _ _ dB (wrap64 (cO - a1)) t107 lM t109 _ ?dK ?dL ?kC ?kD Yk.out).mono ?_
     (case dK => exact Kd.jV (Kd.bF jE.out).2.2)
     (case dL => exact (Kd.bF jE.out).2.1)
     (case kC => exact Kd.jV (Kd.bT pK.out HB.out))
     (case kD => exact pO.out)
     rintro e BZ ⟨qw, Yn, rfl, ho0, ho1, hb⟩
     refine ⟨_, rfl, ?_⟩
     have fZ := ah (Kd.fV (Kd.fJ jE.out) (Kd.iI ho0) hb)
     have gG := ah (Kd.dh (Kd.jh ho0 (Kd.kW (Kd.fJ jE.out))) (aQ (by repeat (first | (with_reducible first | exact HB.out | refine bJ ?_ | refine aA ?_ dH.out | refine aA ?_ bU.out) | exact HB.out))))
     have iC := ah (Kd.dh ho1 (aQ (by repeat (first | (with_reducible first | exact HB.out | refine bJ ?_ | refine aA ?_ dH.out | refine aA ?_ bU.out) | exact HB.out))))
     have jg := ah (eH aN.out hb)
     have kF := ah (eH aJ.out hb)
     have mJ := ah (aZ (by repeat (first | (with_reducible first | exact HB.out | refine bJ ?_ | refine aA ?_ dH.out | refine aA ?_ bU.out) | exact HB.out)) hb)
     clear jE
     clear aN
     clear aJ
     clear HB
     have jE := fZ
     have eu := gG
     have mP := iC
     have aN := jg
     have aJ := kF
     have HB := mJ
     clear fZ gG iC jg kF mJ
     (try clear hb)
     (try clear hb2)
     (try clear hk)
     (try clear hi)
     (try clear ho0)
     (try clear ho1)
     refine hK.out _ _ ⟨(au aN.out 0).trans rfl, (au aN.out 1).trans rfl, (au aN.out 2).trans rfl, (au aN.out 3).trans rfl, (au aN.out 4).trans rfl, (au aN.out 5).trans rfl, (au aN.out 6).trans rfl, (au aN.out 7).trans rfl, (au aN.out 8).trans rfl⟩ (fun hHeld => ?_)
     clear hK K
     refine jo (a' := ?_) ?_ ?_
     rotate_left
     ·show Act.put _ (some 38) _ = _
      simp only [Act.put, List.setIfInBounds_toArray, List.set_cons_zero, List.set_cons_succ, bI, bM]
      rfl
     refine dX (i := 10) (N := some 28) (v := ?_) (a' := ?_) #[true, true, true, true, true, true, true, true, true, true, true, false, false, false, false, false, false] rfl rfl (dD HT_.out (by kernel_rfl)) (fun _ _ _ h => h) (Or.inl ⟨by rfl, ?_⟩) ?_ ?_
     rotate_left
     ·intro w'
      go_simp
      with_reducible rfl
     rotate_left
     ·simp only [Act.put, List.setIfInBounds_toArray, List.set_cons_zero, List.set_cons_succ, bI, bM]
      rfl
     refine dX (i := 11) (N := some 39) (v := ?_) (a' := ?_) #[true, true, true, true, true, true, true, true, true, true, true, true, false, false, false, false, false] rfl rfl (dD HT_.out (by kernel_rfl)) (fun _ _ _ h => h) (Or.inl ⟨by rfl, ?_⟩) ?_ ?_
     rotate_left
     ·intro w'
      go_simp
      with_reducible rfl
     rotate_left
     ·simp only [Act.put, List.setIfInBounds_toArray, List.set_cons_zero, List.set_cons_succ, bI, bM]
      rfl
     refine dX (i := 12) (N := some 40) (v := ?_) (a' := ?_) #[true, true, true, true, true, true, true, true, true, true, true, true, true, false, false, false, false] rfl rfl (dD HT_.out (by kernel_rfl)) (fun _ _ _ h => h) (Or.inl ⟨by rfl, ?_⟩) ?_ ?_
     rotate_left
     ·intro w'
      go_simp
      with_reducible rfl
     rotate_left
     ·simp only [Act.put, List.setIfInBounds_toArray, List.set_cons_zero, List.set_cons_succ, bI, bM]
      rfl
     refine dX (i := 13) (N := some 41) (v := ?_) (a' := ?_) #[true, true, true, true, true, true, true, true, true, true, true, true, true, true, false, false, false] rfl rfl (dD HT_.out (by kernel_rfl)) (fun _ _ _ h => h) (Or.inl ⟨by rfl, ?_⟩) ?_ ?_
     rotate_left
     ·intro w'
      go_simp
      with_reducible rfl
     rotate_left
     ·simp only [Act.put, List.setIfInBounds_toArray, List.set_cons_zero, List.set_cons_succ, bI, bM]
      rfl
     refine dX (i := 14) (N := some 7) (v := ?_) (a' := ?_) #[true, true, true, true, true, true, true, true, true, true, true, true, true, true, true, false, false] rfl rfl (dD HT_.out (by kernel_rfl)) (fun _ _ _ h => h) (Or.inl ⟨by rfl, ?_⟩) ?_ ?_
     rotate_left
     ·intro w'
      go_simp
      with_reducible rfl
     rotate_left
     ·simp only [Act.put, List.setIfInBounds_toArray, List.set_cons_zero, List.set_cons_succ, bI, bM]
      rfl
     refine dX (i := 15) (N := some 8) (v := ?_) (a' := ?_) #[true, true, true, true, true, true, true, true, true, true, true, true, true, true, true, true, false] rfl rfl (dD HT_.out (by kernel_rfl)) (fun _ _ _ h => h) (Or.inl ⟨by rfl, ?_⟩) ?_ ?_
     rotate_left
     ·intro w'
      go_simp
      with_reducible rfl
     rotate_left
     ·simp only [Act.put, List.setIfInBounds_toArray, List.set_cons_zero, List.set_cons_succ, bI, bM]
      rfl
     refine dX (i := 16) (N := some 9) (v := ?_) (a' := ?_) #[true, true, true, true, true, true, true, true, true, true, true, true, true, true, true, true, true] rfl rfl (dD HT_.out (by kernel_rfl)) (fun _ _ _ h => h) (Or.inl ⟨by rfl, ?_⟩) ?_ ?_
     rotate_left
     ·intro w'
      go_simp
      with_reducible rfl
     rotate_left
     ·simp only [Act.put, List.setIfInBounds_toArray, List.set_cons_zero, List.set_cons_succ, bI, bM]
      rfl
     refine y9 (su HT_.out (by kernel_rfl)) ?_
     try go_wp2
     have fZ := ah (Kd.qB jE.out)
     have gG := ah (Kd.qB eu.out)
     have iC := ah (Kd.qB mP.out)
     have jg := ah (kP aN.out)
     have kF := ah (kP aJ.out)
     have mJ := ah (aH HB.out)
     clear jE
     clear eu
     clear mP
     clear aN
     clear aJ
     clear HB
     have jE := fZ
     have eu := gG
     have mP := iC
     have aN := jg
     have aJ := kF
     have HB := mJ
     clear fZ gG iC jg kF mJ
     refine uX (n := 17) (S := fun w' => w'.cell? ⟨bV, 0, none⟩ = some (.int .i64 cO) ∧ w'.cell? ⟨bV, 1, none⟩ = some (.int .u64 dF) ∧ w'.cell? ⟨bV, 2, none⟩ = some (.int .u64 dO) ∧ w'.cell? ⟨bV, 3, none⟩ = some (.int .u64 dP) ∧ w'.cell? ⟨bV, 4, none⟩ = some (.int .u64 dM) ∧ w'.cell? ⟨bV, 5, none⟩ = some (.slice iO dJ.length iP) ∧ w'.cell? ⟨bV, 6, none⟩ = some (.slice iJ dG.length iK) ∧ w'.cell? ⟨bV, 7, none⟩ = some (.slice iw dB.length iy) ∧ w'.cell? ⟨bV, 8, none⟩ = some (.slice iD dA.length iE)) (ds := []) #[false, false, false, false, false, false, false, false, false, false, false, false, false, false, false, false, false] (by kernel_rfl) rfl rfl ⟨(au aN.out 0).trans rfl, (au aN.out 1).trans rfl, (au aN.out 2).trans rfl, (au aN.out 3).trans rfl, (au aN.out 4).trans rfl, (au aN.out 5).trans rfl, (au aN.out 6).trans rfl, (au aN.out 7).trans rfl, (au aN.out 8).trans rfl⟩ (fun hHeld => ?_); refine mQ tidepoleref25_Floats.aai tidepoleref25_Floats.V8 (fun HT_ HW_ => ?_)
     generalize BZ.drew = TL at jE eu mP aN aJ HB hHeld ⊢
     refine dX (i := 0) (N := some 43) (v := ?_) (a' := ?_) #[true, false, false, false, false, false, false, false, false, false, false, false, false, false, false, false, false] rfl rfl (dD HT_.out (by kernel_rfl)) (fun _ _ _ h => h) (Or.inl ⟨by rfl, ?_⟩) ?_ ?_
     rotate_left
     ·intro w'
      go_simp
      with_reducible rfl
     rotate_left
     ·simp only [Act.put, List.setIfInBounds_toArray, List.set_cons_zero, List.set_cons_succ, bI, bM]
      rfl
     refine dX (i := 3) (N := some 46) (v := ?_) (a' := ?_) #[true, false, false, true, false, false, false, false, false, false, false, false, false, false, false, false, false] rfl rfl (dD HT_.out (by kernel_rfl)) (fun _ _ _ h => h) (Or.inl ⟨by rfl, ?_⟩) ?_ ?_
     rotate_left
     ·intro w'
      go_simp
      with_reducible rfl
     rotate_left
     ·simp only [Act.put, List.setIfInBounds_toArray, List.set_cons_zero, List.set_cons_succ, bI, bM]
      rfl
     refine dX (i := 5) (N := some 48) (v := ?_) (a' := ?_) #[true, false, false, true, false, true, false, false, false, false, false, false, false, false, false, false, false] rfl rfl (dD HT_.out (by kernel_rfl)) (fun _ _ _ h => h) (Or.inl ⟨by rfl, ?_⟩) ?_ ?_
     rotate_left
     ·intro w'
      go_simp
      with_reducible rfl
     rotate_left
     ·simp only [Act.put, List.setIfInBounds_toArray, List.set_cons_zero, List.set_cons_succ, bI, bM]
      rfl
     refine dX (i := 7) (N := some 50) (v := ?_) (a' := ?_) #[true, false, false, true, false, true, false, true, false, false, false, false, false, false, false, false, false] rfl rfl (dD HT_.out (by kernel_rfl)) (fun _ _ _ h => h) (Or.inl ⟨by rfl, ?_⟩) ?_ ?_
     rotate_left
     ·intro w'
      go_simp
      with_reducible rfl
     rotate_left
     ·simp only [Act.put, List.setIfInBounds_toArray, List.set_cons_zero, List.set_cons_succ, bI, bM]
      rfl
     refine jT (i := 1) (N := some 44) (v := ?_) (a' := ?_) #[true, true, false, true, false, true, false, true, false, false, false, false, false, false, false, false, false] rfl rfl (fM HT_.out HW_.out (by kernel_rfl)) (fun _ _ _ h => h) (Or.inl ⟨by rfl, ?_⟩) hHeld ?_ ?_
     rotate_left
     ·rintro w' ⟨s0, s1, s2, s3, s4, s5, s6, s7, s8⟩
      go_simp
      with_reducible rfl
     rotate_left
     ·simp only [Act.put, List.setIfInBounds_toArray, List.set_cons_zero, List.set_cons_succ, bI, bM]
      rfl
     refine jT (i := 4) (N := some 47) (v := ?_) (a' := ?_) #[true, true, false, true, true, true, false, true, false, false, false, false, false, false, false, false, false] rfl rfl (fM HT_.out HW_.out (by kernel_rfl)) (fun _ _ _ h => h) (Or.inl ⟨by rfl, ?_⟩) hHeld ?_ ?_
     rotate_left
     ·rintro w' ⟨s0, s1, s2, s3, s4, s5, s6, s7, s8⟩
      go_simp
      with_reducible rfl
     rotate_left
     ·simp only [Act.put, List.setIfInBounds_toArray, List.set_cons_zero, List.set_cons_succ, bI, bM]
      rfl
     refine jT (i := 6) (N := some 49) (v := ?_) (a' := ?_) #[true, true, false, true, true, true, true, true, false, false, false, false, false, false, false, false, false] rfl rfl (fM HT_.out HW_.out (by kernel_rfl)) (fun _ _ _ h => h) (Or.inl ⟨by rfl, ?_⟩) hHeld ?_ ?_
     rotate_left
     ·rintro w' ⟨s0, s1, s2, s3, s4, s5, s6, s7, s8⟩
      go_simp
      with_reducible rfl
     rotate_left
     ·simp only [Act.put, List.setIfInBounds_toArray, List.set_cons_zero, List.set_cons_succ, bI, bM]
      rfl
     refine dX (i := 8) (N := some 51) (v := ?_) (a' := ?_) #[true, true, false, true, true, true, true, true, true, false, false, false, false, false, false, false, false] rfl rfl (dD HT_.out (by kernel_rfl)) (fun _ _ _ h => h) (Or.inl ⟨by rfl, ?_⟩) ?_ ?_
     rotate_left
     ·intro w'
      go_simp
      with_reducible rfl
     rotate_left
     ·simp only [Act.put, List.setIfInBounds_toArray, List.set_cons_zero, List.set_cons_succ, bI, bM]
      rfl
     refine o9 (i := 2) (N := some 45) #[true, true, true, true, true, true, true, true, true, false, false, false, false, false, false, false, false] rfl rfl (jD HT_.out (by kernel_rfl)) (by decide) (fun K hK => ?_)
     refine ql Try.func97 (by kernel_rfl) rfl #[.slice iJ dG.length iK] (by rfl) rfl rfl (by (try simp only [List.map_toArray, List.map_cons, List.map_nil]); first | done | rfl | (simp only [List.length_drop, List.length_take]; rfl)) ?_
     with_reducible refine (tidepoleref06_Places.calls mZ _ _ dG zS _ ?dK ?dL A19.out).mono ?_
     (case dK => exact Kd.jV (Kd.bT oW.out HB.out))
     (case dL => exact oZ.out)
     rintro e w27 ⟨adz, rfl, ho0, hb⟩
     refine ⟨_, rfl, ?_⟩
     have fZ := ah (Kd.fV (Kd.fJ jE.out) (Kd.iI ho0) hb)
     have gG := ah (Kd.fV (Kd.fJ eu.out) (Kd.iI ho0) hb)
     have iC := ah (Kd.lu mP.out hb)
     have jg := ah (Kd.dh (Kd.jh (Kd.jh ho0 (Kd.kW (Kd.fJ jE.out))) (Kd.kW (Kd.fJ eu.out))) (aQ (by repeat (first | (with_reducible first | exact HB.out | refine bJ ?_ | refine aA ?_ dH.out | refine aA ?_ bU.out) | exact HB.out))))
     have kF := ah (eH aN.out hb)
     have mJ := ah (eH aJ.out hb)
     have LK := ah (aZ (by repeat (first | (with_reducible first | exact HB.out | refine bJ ?_ | refine aA ?_ dH.out | refine aA ?_ bU.out) | exact HB.out)) hb)
     clear jE
     clear eu
     clear mP
     clear aN
     clear aJ
     clear HB
     have jE := fZ
     have eu := gG
     have mP := iC
     have uD := jg
     have aN := kF
     have aJ := mJ
     have HB := LK
     clear fZ gG iC jg kF mJ LK
     (try clear hb)
     (try clear hb2)
     (try clear hk)
     (try clear hi)
     (try clear ho0)
     obtain ⟨adA, adB, aak⟩ := Kd.dw uD.out
     (first | subst aak | (injection aak with pG uY pI; have uZ := pG.symm; have vg := pI.symm; clear pG uY pI; subst uZ; subst vg))
     refine hK.out _ _ ⟨(au aN.out 0).trans rfl, (au aN.out 1).trans rfl, (au aN.out 2).trans rfl, (au aN.out 3).trans rfl, (au aN.out 4).trans rfl, (au aN.out 5).trans rfl, (au aN.out 6).trans rfl, (au aN.out 7).trans rfl, (au aN.out 8).trans rfl⟩ (fun hHeld => ?_)
     clear hK K
     refine jo (a' := ?_) ?_ ?_
     rotate_left
     ·show Act.put _ (some 45) _ = _
      simp only [Act.put, List.setIfInBounds_toArray, List.set_cons_zero, List.set_cons_succ, bI, bM]
      rfl
     refine o9 (i := 9) (N := some 52) #[true, true, true, true, true, true, true, true, true, true, false, false, false, false, false, false, false] rfl rfl (jD HT_.out (by kernel_rfl)) (by decide) (fun K hK => ?_)
     refine ql Try.func96 (by kernel_rfl) rfl #[.slice adA zS.length adB, .slice iD dA.length iE, .int .i64 (wrap64 (cO - a1))] (by rfl) rfl rfl (by (try simp only [List.map_toArray, List.map_cons, List.map_nil]); first | done | rfl | (simp only [List.length_drop, List.length_take]; rfl)) ?_
     with_reducible refine (tidepoleref25_side.calls mZ _ _ zS _ _ dA (wrap64 (cO - a1)) t117 vC t119 _ ?dK ?dL ?kC ?kD tC.out).mono ?_
     (case dK => exact Kd.jV (Kd.bF uD.out).2.2)
     (case dL => exact (Kd.bF uD.out).2.1)
     (case kC => exact Kd.jV (Kd.bT qm.out HB.out))
     (case kD => exact qo.out)
     rintro e TM ⟨Vf, Yo, rfl, ho0, ho1, hb⟩
     refine ⟨_, rfl, ?_⟩
     have fZ := ah (Kd.fV (Kd.fJ jE.out) (Kd.iI ho0) hb)
     have gG := ah (Kd.fV (Kd.fJ eu.out) (Kd.iI ho0) hb)
     have iC := ah (Kd.fV (Kd.fJ mP.out) (Kd.iI ho1) hb)
     have jg := ah (Kd.fV (Kd.fJ uD.out) (Kd.iI ho0) hb)
     have kF := ah (Kd.dh (Kd.jh (Kd.jh (Kd.jh ho0 (Kd.kW (Kd.fJ jE.out))) (Kd.kW (Kd.fJ eu.out))) (Kd.kW (Kd.fJ uD.out))) (aQ (by repeat (first | (with_reducible first | exact HB.out | refine bJ ?_ | refine aA ?_ dH.out | refine aA ?_ bU.out) | exact HB.out))))
     have mJ := ah (Kd.dh (Kd.jh ho1 (Kd.kW (Kd.fJ mP.out))) (aQ (by repeat (first | (with_reducible first | exact HB.out | refine bJ ?_ | refine aA ?_ dH.out | refine aA ?_ bU.out) | exact HB.out))))
     have LK := ah (eH aN.out hb)
     have n7_ := ah (eH aJ.out hb)
     have n8_ := ah (aZ (by repeat (first | (with_reducible first | exact HB.out | refine bJ ?_ | refine aA ?_ dH.out | refine aA ?_ bU.out) | exact HB.out)) hb)
     clear jE
     clear eu
     clear mP
     clear uD
     clear aN
     clear aJ
     clear HB
     have jE := fZ
     have eu := gG
     have mP := iC
     have uD := jg
     have Ip := kF
     have TJ := mJ
     have aN := LK
     have aJ := n7_
     have HB := n8_
     clear fZ gG iC jg kF mJ LK n7_ n8_
     (try clear hb)
     (try clear hb2)
     (try clear hk)
     (try clear hi)
     (try clear ho0)
     (try clear ho1)
     refine hK.out _ _ ⟨(au aN.out 0).trans rfl, (au aN.out 1).trans rfl, (au aN.out 2).trans rfl, (au aN.out 3).trans rfl, (au aN.out 4).trans rfl, (au aN.out 5).trans rfl, (au aN.out 6).trans rfl, (au aN.out 7).trans rfl, (au aN.out 8).trans rfl⟩ (fun hHeld => ?_)
     clear hK K
     refine jo (a' := ?_) ?_ ?_
     rotate_left
     ·show Act.put _ (some 52) _ = _
      simp only [Act.put, List.setIfInBounds_toArray, List.set_cons_zero, List.set_cons_succ, bI, bM]
      rfl
     refine dX (i := 10) (N := some 42) (v := ?_) (a' := ?_) #[true, true, true, true, true, true, true, true, true, true, true, false, false, false, false, false, false] rfl rfl (dD HT_.out (by kernel_rfl)) (fun _ _ _ h => h) (Or.inl ⟨by rfl, ?_⟩) ?_ ?_
     rotate_left
     ·intro w'
      go_simp
      with_reducible rfl
     rotate_left
     ·simp only [Act.put, List.setIfInBounds_toArray, List.set_cons_zero, List.set_cons_succ, bI, bM]
      rfl
     refine dX (i := 11) (N := some 53) (v := ?_) (a' := ?_) #[true, true, true, true, true, true, true, true, true, true, true, true, false, false, false, false, false] rfl rfl (dD HT_.out (by kernel_rfl)) (fun _ _ _ h => h) (Or.inl ⟨by rfl, ?_⟩) ?_ ?_
     rotate_left
     ·intro w'
      go_simp
      with_reducible rfl
     rotate_left
     ·simp only [Act.put, List.setIfInBounds_toArray, List.set_cons_zero, List.set_cons_succ, bI, bM]
      rfl
     refine dX (i := 12) (N := some 54) (v := ?_) (a' := ?_) #[true, true, true, true, true, true, true, true, true, true, true, true, true, false, false, false, false] rfl rfl (dD HT_.out (by kernel_rfl)) (fun _ _ _ h => h) (Or.inl ⟨by rfl, ?_⟩) ?_ ?_
     rotate_left
     ·intro w'
      go_simp
      with_reducible rfl
     rotate_left
     ·simp only [Act.put, List.setIfInBounds_toArray, List.set_cons_zero, List.set_cons_succ, bI, bM]
      rfl
     refine dX (i := 13) (N := some 55) (v := ?_) (a' := ?_) #[true, true, true, true, true, true, true, true, true, true, true, true, true, true, false, false, false] rfl rfl (dD HT_.out (by kernel_rfl)) (fun _ _ _ h => h) (Or.inl ⟨by rfl, ?_⟩) ?_ ?_
     rotate_left
     ·intro w'
      go_simp
      with_reducible rfl
     rotate_left
     ·simp only [Act.put, List.setIfInBounds_toArray, List.set_cons_zero, List.set_cons_succ, bI, bM]
      rfl
     refine dX (i := 14) (N := some 10) (v := ?_) (a' := ?_) #[true, true, true, true, true, true, true, true, true, true, true, true, true, true, true, false, false] rfl rfl (dD HT_.out (by kernel_rfl)) (fun _ _ _ h => h) (Or.inl ⟨by rfl, ?_⟩) ?_ ?_
     rotate_left
     ·intro w'
      go_simp
      with_reducible rfl
     rotate_left
     ·simp only [Act.put, List.setIfInBounds_toArray, List.set_cons_zero, List.set_cons_succ, bI, bM]
      rfl
     refine dX (i := 15) (N := some 11) (v := ?_) (a' := ?_) #[true, true, true, true, true, true, true, true, true, true, true, true, true, true, true, true, false] rfl rfl (dD HT_.out (by kernel_rfl)) (fun _ _ _ h => h) (Or.inl ⟨by rfl, ?_⟩) ?_ ?_
     rotate_left
     ·intro w'
      go_simp
      with_reducible rfl
     rotate_left
     ·simp only [Act.put, List.setIfInBounds_toArray, List.set_cons_zero, List.set_cons_succ, bI, bM]
      rfl
     refine dX (i := 16) (N := some 12) (v := ?_) (a' := ?_) #[true, true, true, true, true, true, true, true, true, true, true, true, true, true, true, true, true] rfl rfl (dD HT_.out (by kernel_rfl)) (fun _ _ _ h => h) (Or.inl ⟨by rfl, ?_⟩) ?_ ?_
     rotate_left
     ·intro w'
      go_simp
      with_reducible rfl
     rotate_left
     ·simp only [Act.put, List.setIfInBounds_toArray, List.set_cons_zero, List.set_cons_succ, bI, bM]
      rfl
     refine y9 (su HT_.out (by kernel_rfl)) ?_
     have afb := fB.out
     have afc := aT.out
     have Ap := au aJ.out
     have Aq := aC aJ.out
     try go_wp2
     refine bodyPost_ret (gu rfl _ _ aI 60 #[.int .i64 0, .int .u64 0, .int .u64 0, .int .u64 0, .int .u64 0, .slice none 0 0, .slice none 0 0, .slice none 0 0, .slice none 0 0] (0, 0) _ rfl (by (repeat with_reducible refine bQ ?_); refine bC (cs := #[.int .i64 0, .int .u64 0, .int .u64 0, .int .u64 0, .int .u64 0, .slice none 0 0, .slice none 0 0, .slice none 0 0, .slice none 0 0]) ?_ 8 _ rfl; (repeat with_reducible refine bQ ?_); refine bC (cs := #[.int .i64 0, .int .u64 0, .int .u64 0, .int .u64 0, .int .u64 0, .slice none 0 0, .slice none 0 0, .slice none 0 0, .slice none 0 0]) ?_ 7 _ rfl; (repeat with_reducible refine bQ ?_); refine bC (cs := #[.int .i64 0, .int .u64 0, .int .u64 0, .int .u64 0, .int .u64 0, .slice none 0 0, .slice none 0 0, .slice none 0 0, .slice none 0 0]) ?_ 6 _ rfl; (repeat with_reducible refine bQ ?_); refine bC (cs := #[.int .i64 0, .int .u64 0, .int .u64 0, .int .u64 0, .int .u64 0, .slice none 0 0, .slice none 0 0, .slice none 0 0, .slice none 0 0]) ?_ 5 _ rfl; (repeat with_reducible refine bQ ?_); refine bC (cs := #[.int .i64 0, .int .u64 0, .int .u64 0, .int .u64 0, .int .u64 0, .slice none 0 0, .slice none 0 0, .slice none 0 0, .slice none 0 0]) ?_ 4 _ rfl; (repeat with_reducible refine bQ ?_); refine bC (cs := #[.int .i64 0, .int .u64 0, .int .u64 0, .int .u64 0, .int .u64 0, .slice none 0 0, .slice none 0 0, .slice none 0 0, .slice none 0 0]) ?_ 3 _ rfl; (repeat with_reducible refine bQ ?_); refine bC (cs := #[.int .i64 0, .int .u64 0, .int .u64 0, .int .u64 0, .int .u64 0, .slice none 0 0, .slice none 0 0, .slice none 0 0, .slice none 0 0]) ?_ 2 _ rfl; (repeat with_reducible refine bQ ?_); refine bC (cs := #[.int .i64 0, .int .u64 0, .int .u64 0, .int .u64 0, .int .u64 0, .slice none 0 0, .slice none 0 0, .slice none 0 0, .slice none 0 0]) ?_ 1 _ rfl; (repeat with_reducible refine bQ ?_); refine bC (cs := #[.int .i64 0, .int .u64 0, .int .u64 0, .int .u64 0, .int .u64 0, .slice none 0 0, .slice none 0 0, .slice none 0 0, .slice none 0 0]) ?_ 0 _ rfl; (repeat with_reducible refine bQ ?_); exact aJ.out) Try.underlying60 rfl (by kernel_rfl)) rfl ?_
     exact ⟨_, _, _, _, by first | rfl | (simp [aU, aV] <;> rfl) | (simp [*, aU, aV] <;> rfl), by first | exact Kd.eY _ _ _ _ _ | exact Kd.ig _ _ _ _ _ | exact Kd.iq _ _ _ _ _ | exact Kd.gY _ _ _ _ _ | exact Kd.gZ _ _ _ _ _, by first | exact Kd.eY _ _ _ _ _ | exact Kd.ig _ _ _ _ _ | exact Kd.iq _ _ _ _ _ | exact Kd.gY _ _ _ _ _ | exact Kd.gZ _ _ _ _ _, by first | exact Kd.eY _ _ _ _ _ | exact Kd.ig _ _ _ _ _ | exact Kd.iq _ _ _ _ _ | exact Kd.gY _ _ _ _ _ | exact Kd.gZ _ _ _ _ _, by first | exact Kd.eY _ _ _ _ _ | exact Kd.ig _ _ _ _ _ | exact Kd.iq _ _ _ _ _ | exact Kd.gY _ _ _ _ _ | exact Kd.gZ _ _ _ _ _, by repeat (first | (with_reducible first | exact HB.out | apply ak | apply ay | apply aH | refine aA ?_ dH.out | refine aA ?_ bU.out) | exact HB.out)⟩
    rw [if_neg c21] at H
    have c21b0 : decide (0 < (wrap64 (t109 + t119))) = false := ahH c21
    clear c21
    have Yp := ah H
    clear H
    try go_wp2
    have fZ := ah (kP aN.out)
    have gG := ah (kP aJ.out)
    have iC := ah (aH HB.out)
    clear aN
    clear aJ
    clear HB
    have aN := fZ
    have aJ := gG
    have HB := iC
    clear fZ gG iC
    refine uX (n := 17) (S := fun w' => w'.cell? ⟨bV, 0, none⟩ = some (.int .i64 cO) ∧ w'.cell? ⟨bV, 1, none⟩ = some (.int .u64 dF) ∧ w'.cell? ⟨bV, 2, none⟩ = some (.int .u64 dO) ∧ w'.cell? ⟨bV, 3, none⟩ = some (.int .u64 dP) ∧ w'.cell? ⟨bV, 4, none⟩ = some (.int .u64 dM) ∧ w'.cell? ⟨bV, 5, none⟩ = some (.slice iO dJ.length iP) ∧ w'.cell? ⟨bV, 6, none⟩ = some (.slice iJ dG.length iK) ∧ w'.cell? ⟨bV, 7, none⟩ = some (.slice iw dB.length iy) ∧ w'.cell? ⟨bV, 8, none⟩ = some (.slice iD dA.length iE)) (ds := []) #[false, false, false, false, false, false, false, false, false, false, false, false, false, false, false, false, false] (by kernel_rfl) rfl rfl ⟨(au aN.out 0).trans rfl, (au aN.out 1).trans rfl, (au aN.out 2).trans rfl, (au aN.out 3).trans rfl, (au aN.out 4).trans rfl, (au aN.out 5).trans rfl, (au aN.out 6).trans rfl, (au aN.out 7).trans rfl, (au aN.out 8).trans rfl⟩ (fun hHeld => ?_); refine mQ tidepoleref25_Floats.tab6 tidepoleref25_Floats.Hg (fun HT_ HW_ => ?_)
    generalize wc.drew = w33 at aN aJ HB hHeld ⊢
    refine dX (i := 0) (N := some 29) (v := ?_) (a' := ?_) #[true, false, false, false, false, false, false, false, false, false, false, false, false, false, false, false, false] rfl rfl (dD HT_.out (by kernel_rfl)) (fun _ _ _ h => h) (Or.inl ⟨by rfl, ?_⟩) ?_ ?_
    rotate_left
    ·intro w'
     go_simp
     with_reducible rfl
    rotate_left
    ·simp only [Act.put, List.setIfInBounds_toArray, List.set_cons_zero, List.set_cons_succ, bI, bM]
     rfl
    refine dX (i := 3) (N := some 32) (v := ?_) (a' := ?_) #[true, false, false, true, false, false, false, false, false, false, false, false, false, false, false, false, false] rfl rfl (dD HT_.out (by kernel_rfl)) (fun _ _ _ h => h) (Or.inl ⟨by rfl, ?_⟩) ?_ ?_
    rotate_left
    ·intro w'
     go_simp
     with_reducible rfl
    rotate_left
    ·simp only [Act.put, List.setIfInBounds_toArray, List.set_cons_zero, List.set_cons_succ, bI, bM]
     rfl
    refine dX (i := 5) (N := some 34) (v := ?_) (a' := ?_) #[true, false, false, true, false, true, false, false, false, false, false, false, false, false, false, false, false] rfl rfl (dD HT_.out (by kernel_rfl)) (fun _ _ _ h => h) (Or.inl ⟨by rfl, ?_⟩) ?_ ?_
    rotate_left
    ·intro w'
     go_simp
     with_reducible rfl
    rotate_left
    ·simp only [Act.put, List.setIfInBounds_toArray, List.set_cons_zero, List.set_cons_succ, bI, bM]
     rfl
    refine dX (i := 7) (N := some 36) (v := ?_) (a' := ?_) #[true, false, false, true, false, true, false, true, false, false, false, false, false, false, false, false, false] rfl rfl (dD HT_.out (by kernel_rfl)) (fun _ _ _ h => h) (Or.inl ⟨by rfl, ?_⟩) ?_ ?_
    rotate_left
    ·intro w'
     go_simp
     with_reducible rfl
    rotate_left
    ·simp only [Act.put, List.setIfInBounds_toArray, List.set_cons_zero, List.set_cons_succ, bI, bM]
     rfl
    refine jT (i := 1) (N := some 30) (v := ?_) (a' := ?_) #[true, true, false, true, false, true, false, true, false, false, false, false, false, false, false, false, false] rfl rfl (fM HT_.out HW_.out (by kernel_rfl)) (fun _ _ _ h => h) (Or.inl ⟨by rfl, ?_⟩) hHeld ?_ ?_
    rotate_left
    ·rintro w' ⟨s0, s1, s2, s3, s4, s5, s6, s7, s8⟩
     go_simp
     with_reducible rfl
    rotate_left
    ·simp only [Act.put, List.setIfInBounds_toArray, List.set_cons_zero, List.set_cons_succ, bI, bM]
     rfl
    refine jT (i := 4) (N := some 33) (v := ?_) (a' := ?_) #[true, true, false, true, true, true, false, true, false, false, false, false, false, false, false, false, false] rfl rfl (fM HT_.out HW_.out (by kernel_rfl)) (fun _ _ _ h => h) (Or.inl ⟨by rfl, ?_⟩) hHeld ?_ ?_
    rotate_left
    ·rintro w' ⟨s0, s1, s2, s3, s4, s5, s6, s7, s8⟩
     go_simp
     with_reducible rfl
    rotate_left
    ·simp only [Act.put, List.setIfInBounds_toArray, List.set_cons_zero, List.set_cons_succ, bI, bM]
     rfl
    refine jT (i := 6) (N := some 35) (v := ?_) (a' := ?_) #[true, true, false, true, true, true, true, true, false, false, false, false, false, false, false, false, false] rfl rfl (fM HT_.out HW_.out (by kernel_rfl)) (fun _ _ _ h => h) (Or.inl ⟨by rfl, ?_⟩) hHeld ?_ ?_
    rotate_left
    ·rintro w' ⟨s0, s1, s2, s3, s4, s5, s6, s7, s8⟩
     go_simp
     with_reducible rfl
    rotate_left
    ·simp only [Act.put, List.setIfInBounds_toArray, List.set_cons_zero, List.set_cons_succ, bI, bM]
     rfl
    refine dX (i := 8) (N := some 37) (v := ?_) (a' := ?_) #[true, true, false, true, true, true, true, true, true, false, false, false, false, false, false, false, false] rfl rfl (dD HT_.out (by kernel_rfl)) (fun _ _ _ h => h) (Or.inl ⟨by rfl, ?_⟩) ?_ ?_
    rotate_left
    ·intro w'
     go_simp
     with_reducible rfl
    rotate_left
    ·simp only [Act.put, List.setIfInBounds_toArray, List.set_cons_zero, List.set_cons_succ, bI, bM]
     rfl
    refine o9 (i := 2) (N := some 31) #[true, true, true, true, true, true, true, true, true, false, false, false, false, false, false, false, false] rfl rfl (jD HT_.out (by kernel_rfl)) (by decide) (fun K hK => ?_)
    refine ql Try.func97 (by kernel_rfl) rfl #[.slice iO dJ.length iP] (by rfl) rfl rfl (by (try simp only [List.map_toArray, List.map_cons, List.map_nil]); first | done | rfl | (simp only [List.length_drop, List.length_take]; rfl)) ?_
    with_reducible refine (tidepoleref06_Places.calls mZ _ _ dJ jL _ ?dK ?dL YJ.out).mono ?_
    (case dK => exact Kd.jV (Kd.bT nX.out HB.out))
    (case dL => exact nY.out)
    rintro e w34 ⟨v105, rfl, ho0, hb⟩
    refine ⟨_, rfl, ?_⟩
    have fZ := ah (Kd.dh ho0 (aQ (by repeat (first | (with_reducible first | exact HB.out | refine bJ ?_ | refine aA ?_ dH.out | refine aA ?_ bU.out) | exact HB.out))))
    have gG := ah (eH aN.out hb)
    have iC := ah (eH aJ.out hb)
    have jg := ah (aZ (by repeat (first | (with_reducible first | exact HB.out | refine bJ ?_ | refine aA ?_ dH.out | refine aA ?_ bU.out) | exact HB.out)) hb)
    clear aN
    clear aJ
    clear HB
    have jE := fZ
    have aN := gG
    have aJ := iC
    have HB := jg
    clear fZ gG iC jg
    (try clear hb)
    (try clear hb2)
    (try clear hk)
    (try clear hi)
    (try clear ho0)
    obtain ⟨adC, adD, aan⟩ := Kd.dw jE.out
    (first | subst aan | (injection aan with pG uY pI; have uZ := pG.symm; have vg := pI.symm; clear pG uY pI; subst uZ; subst vg))
    refine hK.out _ _ ⟨(au aN.out 0).trans rfl, (au aN.out 1).trans rfl, (au aN.out 2).trans rfl, (au aN.out 3).trans rfl, (au aN.out 4).trans rfl, (au aN.out 5).trans rfl, (au aN.out 6).trans rfl, (au aN.out 7).trans rfl, (au aN.out 8).trans rfl⟩ (fun hHeld => ?_)
    clear hK K
    refine jo (a' := ?_) ?_ ?_
    rotate_left
    ·show Act.put _ (some 31) _ = _
     simp only [Act.put, List.setIfInBounds_toArray, List.set_cons_zero, List.set_cons_succ, bI, bM]
     rfl
    refine o9 (i := 9) (N := some 38) #[true, true, true, true, true, true, true, true, true, true, false, false, false, false, false, false, false] rfl rfl (jD HT_.out (by kernel_rfl)) (by decide) (fun K hK => ?_)
    refine ql Try.func96 (by kernel_rfl) rfl #[.slice adC jL.length adD, .slice iw dB.length iy, .int .i64 (wrap64 (cO - a1))] (by rfl) rfl rfl (by (try simp only [List.map_toArray, List.map_cons, List.map_nil]); first | done | rfl | (simp only [List.length_drop, List.length_take]; rfl)) ?_
    with_reducible refine (tidepoleref25_side.calls mZ _ _ jL _ _ dB (wrap64 (cO - a1)) t107 lM t109 _ ?dK ?dL ?kC ?kD Yk.out).mono ?_
    (case dK => exact Kd.jV (Kd.bF jE.out).2.2)
    (case dL => exact (Kd.bF jE.out).2.1)
    (case kC => exact Kd.jV (Kd.bT pK.out HB.out))
    (case kD => exact pO.out)
    rintro e Yt ⟨qw, Yn, rfl, ho0, ho1, hb⟩
    refine ⟨_, rfl, ?_⟩
    have fZ := ah (Kd.fV (Kd.fJ jE.out) (Kd.iI ho0) hb)
    have gG := ah (Kd.dh (Kd.jh ho0 (Kd.kW (Kd.fJ jE.out))) (aQ (by repeat (first | (with_reducible first | exact HB.out | refine bJ ?_ | refine aA ?_ dH.out | refine aA ?_ bU.out) | exact HB.out))))
    have iC := ah (Kd.dh ho1 (aQ (by repeat (first | (with_reducible first | exact HB.out | refine bJ ?_ | refine aA ?_ dH.out | refine aA ?_ bU.out) | exact HB.out))))
    have jg := ah (eH aN.out hb)
    have kF := ah (eH aJ.out hb)
    have mJ := ah (aZ (by repeat (first | (with_reducible first | exact HB.out | refine bJ ?_ | refine aA ?_ dH.out | refine aA ?_ bU.out) | exact HB.out)) hb)
    clear jE
    clear aN
    clear aJ
    clear HB
    have jE := fZ
    have eu := gG
    have mP := iC
    have aN := jg
    have aJ := kF
    have HB := mJ
    clear fZ gG iC jg kF mJ
    (try clear hb)
    (try clear hb2)
    (try clear hk)
    (try clear hi)
    (try clear ho0)
    (try clear ho1)
    refine hK.out _ _ ⟨(au aN.out 0).trans rfl, (au aN.out 1).trans rfl, (au aN.out 2).trans rfl, (au aN.out 3).trans rfl, (au aN.out 4).trans rfl, (au aN.out 5).trans rfl, (au aN.out 6).trans rfl, (au aN.out 7).trans rfl, (au aN.out 8).trans rfl⟩ (fun hHeld => ?_)
    clear hK K
    refine jo (a' := ?_) ?_ ?_
    rotate_left
    ·show Act.put _ (some 38) _ = _
     simp only [Act.put, List.setIfInBounds_toArray, List.set_cons_zero, List.set_cons_succ, bI, bM]
     rfl
    refine dX (i := 10) (N := some 28) (v := ?_) (a' := ?_) #[true, true, true, true, true, true, true, true, true, true, true, false, false, false, false, false, false] rfl rfl (dD HT_.out (by kernel_rfl)) (fun _ _ _ h => h) (Or.inl ⟨by rfl, ?_⟩) ?_ ?_
    rotate_left
    ·intro w'
     go_simp
     with_reducible rfl
    rotate_left
    ·simp only [Act.put, List.setIfInBounds_toArray, List.set_cons_zero, List.set_cons_succ, bI, bM]
     rfl
    refine dX (i := 11) (N := some 39) (v := ?_) (a' := ?_) #[true, true, true, true, true, true, true, true, true, true, true, true, false, false, false, false, false] rfl rfl (dD HT_.out (by kernel_rfl)) (fun _ _ _ h => h) (Or.inl ⟨by rfl, ?_⟩) ?_ ?_
    rotate_left
    ·intro w'
     go_simp
     with_reducible rfl
    rotate_left
    ·simp only [Act.put, List.setIfInBounds_toArray, List.set_cons_zero, List.set_cons_succ, bI, bM]
     rfl
    refine dX (i := 12) (N := some 40) (v := ?_) (a' := ?_) #[true, true, true, true, true, true, true, true, true, true, true, true, true, false, false, false, false] rfl rfl (dD HT_.out (by kernel_rfl)) (fun _ _ _ h => h) (Or.inl ⟨by rfl, ?_⟩) ?_ ?_
    rotate_left
    ·intro w'
     go_simp
     with_reducible rfl
    rotate_left
    ·simp only [Act.put, List.setIfInBounds_toArray, List.set_cons_zero, List.set_cons_succ, bI, bM]
     rfl
    refine dX (i := 13) (N := some 41) (v := ?_) (a' := ?_) #[true, true, true, true, true, true, true, true, true, true, true, true, true, true, false, false, false] rfl rfl (dD HT_.out (by kernel_rfl)) (fun _ _ _ h => h) (Or.inl ⟨by rfl, ?_⟩) ?_ ?_
    rotate_left
    ·intro w'
     go_simp
     with_reducible rfl
    rotate_left
    ·simp only [Act.put, List.setIfInBounds_toArray, List.set_cons_zero, List.set_cons_succ, bI, bM]
     rfl
    refine dX (i := 14) (N := some 7) (v := ?_) (a' := ?_) #[true, true, true, true, true, true, true, true, true, true, true, true, true, true, true, false, false] rfl rfl (dD HT_.out (by kernel_rfl)) (fun _ _ _ h => h) (Or.inl ⟨by rfl, ?_⟩) ?_ ?_
    rotate_left
    ·intro w'
     go_simp
     with_reducible rfl
    rotate_left
    ·simp only [Act.put, List.setIfInBounds_toArray, List.set_cons_zero, List.set_cons_succ, bI, bM]
     rfl
    refine dX (i := 15) (N := some 8) (v := ?_) (a' := ?_) #[true, true, true, true, true, true, true, true, true, true, true, true, true, true, true, true, false] rfl rfl (dD HT_.out (by kernel_rfl)) (fun _ _ _ h => h) (Or.inl ⟨by rfl, ?_⟩) ?_ ?_
    rotate_left
    ·intro w'
     go_simp
     with_reducible rfl
    rotate_left
    ·simp only [Act.put, List.setIfInBounds_toArray, List.set_cons_zero, List.set_cons_succ, bI, bM]
     rfl
    refine dX (i := 16) (N := some 9) (v := ?_) (a' := ?_) #[true, true, true, true, true, true, true, true, true, true, true, true, true, true, true, true, true] rfl rfl (dD HT_.out (by kernel_rfl)) (fun _ _ _ h => h) (Or.inl ⟨by rfl, ?_⟩) ?_ ?_
    rotate_left
    ·intro w'
     go_simp
     with_reducible rfl
    rotate_left
    ·simp only [Act.put, List.setIfInBounds_toArray, List.set_cons_zero, List.set_cons_succ, bI, bM]
     rfl
    refine y9 (su HT_.out (by kernel_rfl)) ?_
    try go_wp2
    have fZ := ah (Kd.qB jE.out)
    have gG := ah (Kd.qB eu.out)
    have iC := ah (Kd.qB mP.out)
    have jg := ah (kP aN.out)
    have kF := ah (kP aJ.out)
    have mJ := ah (aH HB.out)
    clear jE
    clear eu
    clear mP
    clear aN
    clear aJ
    clear HB
    have jE := fZ
    have eu := gG
    have mP := iC
    have aN := jg
    have aJ := kF
    have HB := mJ
    clear fZ gG iC jg kF mJ
    refine uX (n := 17) (S := fun w' => w'.cell? ⟨bV, 0, none⟩ = some (.int .i64 cO) ∧ w'.cell? ⟨bV, 1, none⟩ = some (.int .u64 dF) ∧ w'.cell? ⟨bV, 2, none⟩ = some (.int .u64 dO) ∧ w'.cell? ⟨bV, 3, none⟩ = some (.int .u64 dP) ∧ w'.cell? ⟨bV, 4, none⟩ = some (.int .u64 dM) ∧ w'.cell? ⟨bV, 5, none⟩ = some (.slice iO dJ.length iP) ∧ w'.cell? ⟨bV, 6, none⟩ = some (.slice iJ dG.length iK) ∧ w'.cell? ⟨bV, 7, none⟩ = some (.slice iw dB.length iy) ∧ w'.cell? ⟨bV, 8, none⟩ = some (.slice iD dA.length iE)) (ds := []) #[false, false, false, false, false, false, false, false, false, false, false, false, false, false, false, false, false] (by kernel_rfl) rfl rfl ⟨(au aN.out 0).trans rfl, (au aN.out 1).trans rfl, (au aN.out 2).trans rfl, (au aN.out 3).trans rfl, (au aN.out 4).trans rfl, (au aN.out 5).trans rfl, (au aN.out 6).trans rfl, (au aN.out 7).trans rfl, (au aN.out 8).trans rfl⟩ (fun hHeld => ?_); refine mQ tidepoleref25_Floats.aai tidepoleref25_Floats.V8 (fun HT_ HW_ => ?_)
    generalize Yt.drew = w37 at jE eu mP aN aJ HB hHeld ⊢
    refine dX (i := 0) (N := some 43) (v := ?_) (a' := ?_) #[true, false, false, false, false, false, false, false, false, false, false, false, false, false, false, false, false] rfl rfl (dD HT_.out (by kernel_rfl)) (fun _ _ _ h => h) (Or.inl ⟨by rfl, ?_⟩) ?_ ?_
    rotate_left
    ·intro w'
     go_simp
     with_reducible rfl
    rotate_left
    ·simp only [Act.put, List.setIfInBounds_toArray, List.set_cons_zero, List.set_cons_succ, bI, bM]
     rfl
    refine dX (i := 3) (N := some 46) (v := ?_) (a' := ?_) #[true, false, false, true, false, false, false, false, false, false, false, false, false, false, false, false, false] rfl rfl (dD HT_.out (by kernel_rfl)) (fun _ _ _ h => h) (Or.inl ⟨by rfl, ?_⟩) ?_ ?_
    rotate_left
    ·intro w'
     go_simp
     with_reducible rfl
    rotate_left
    ·simp only [Act.put, List.setIfInBounds_toArray, List.set_cons_zero, List.set_cons_succ, bI, bM]
     rfl
    refine dX (i := 5) (N := some 48) (v := ?_) (a' := ?_) #[true, false, false, true, false, true, false, false, false, false, false, false, false, false, false, false, false] rfl rfl (dD HT_.out (by kernel_rfl)) (fun _ _ _ h => h) (Or.inl ⟨by rfl, ?_⟩) ?_ ?_
    rotate_left
    ·intro w'
     go_simp
     with_reducible rfl
    rotate_left
    ·simp only [Act.put, List.setIfInBounds_toArray, List.set_cons_zero, List.set_cons_succ, bI, bM]
     rfl
    refine dX (i := 7) (N := some 50) (v := ?_) (a' := ?_) #[true, false, false, true, false, true, false, true, false, false, false, false, false, false, false, false, false] rfl rfl (dD HT_.out (by kernel_rfl)) (fun _ _ _ h => h) (Or.inl ⟨by rfl, ?_⟩) ?_ ?_
    rotate_left
    ·intro w'
     go_simp
     with_reducible rfl
    rotate_left
    ·simp only [Act.put, List.setIfInBounds_toArray, List.set_cons_zero, List.set_cons_succ, bI, bM]
     rfl
    refine jT (i := 1) (N := some 44) (v := ?_) (a' := ?_) #[true, true, false, true, false, true, false, true, false, false, false, false, false, false, false, false, false] rfl rfl (fM HT_.out HW_.out (by kernel_rfl)) (fun _ _ _ h => h) (Or.inl ⟨by rfl, ?_⟩) hHeld ?_ ?_
    rotate_left
    ·rintro w' ⟨s0, s1, s2, s3, s4, s5, s6, s7, s8⟩
     go_simp
     with_reducible rfl
    rotate_left
    ·simp only [Act.put, List.setIfInBounds_toArray, List.set_cons_zero, List.set_cons_succ, bI, bM]
     rfl
    refine jT (i := 4) (N := some 47) (v := ?_) (a' := ?_) #[true, true, false, true, true, true, false, true, false, false, false, false, false, false, false, false, false] rfl rfl (fM HT_.out HW_.out (by kernel_rfl)) (fun _ _ _ h => h) (Or.inl ⟨by rfl, ?_⟩) hHeld ?_ ?_
    rotate_left
    ·rintro w' ⟨s0, s1, s2, s3, s4, s5, s6, s7, s8⟩
     go_simp
     with_reducible rfl
    rotate_left
    ·simp only [Act.put, List.setIfInBounds_toArray, List.set_cons_zero, List.set_cons_succ, bI, bM]
     rfl
    refine jT (i := 6) (N := some 49) (v := ?_) (a' := ?_) #[true, true, false, true, true, true, true, true, false, false, false, false, false, false, false, false, false] rfl rfl (fM HT_.out HW_.out (by kernel_rfl)) (fun _ _ _ h => h) (Or.inl ⟨by rfl, ?_⟩) hHeld ?_ ?_
    rotate_left
    ·rintro w' ⟨s0, s1, s2, s3, s4, s5, s6, s7, s8⟩
     go_simp
     with_reducible rfl
    rotate_left
    ·simp only [Act.put, List.setIfInBounds_toArray, List.set_cons_zero, List.set_cons_succ, bI, bM]
     rfl
    refine dX (i := 8) (N := some 51) (v := ?_) (a' := ?_) #[true, true, false, true, true, true, true, true, true, false, false, false, false, false, false, false, false] rfl rfl (dD HT_.out (by kernel_rfl)) (fun _ _ _ h => h) (Or.inl ⟨by rfl, ?_⟩) ?_ ?_
    rotate_left
    ·intro w'
     go_simp
     with_reducible rfl
    rotate_left
    ·simp only [Act.put, List.setIfInBounds_toArray, List.set_cons_zero, List.set_cons_succ, bI, bM]
     rfl
    refine o9 (i := 2) (N := some 45) #[true, true, true, true, true, true, true, true, true, false, false, false, false, false, false, false, false] rfl rfl (jD HT_.out (by kernel_rfl)) (by decide) (fun K hK => ?_)
    refine ql Try.func97 (by kernel_rfl) rfl #[.slice iJ dG.length iK] (by rfl) rfl rfl (by (try simp only [List.map_toArray, List.map_cons, List.map_nil]); first | done | rfl | (simp only [List.length_drop, List.length_take]; rfl)) ?_
    with_reducible refine (tidepoleref06_Places.calls mZ _ _ dG zS _ ?dK ?dL A19.out).mono ?_
    (case dK => exact Kd.jV (Kd.bT oW.out HB.out))
    (case dL => exact oZ.out)
    rintro e w38 ⟨adz, rfl, ho0, hb⟩
    refine ⟨_, rfl, ?_⟩
    have fZ := ah (Kd.fV (Kd.fJ jE.out) (Kd.iI ho0) hb)
    have gG := ah (Kd.fV (Kd.fJ eu.out) (Kd.iI ho0) hb)
    have iC := ah (Kd.lu mP.out hb)
    have jg := ah (Kd.dh (Kd.jh (Kd.jh ho0 (Kd.kW (Kd.fJ jE.out))) (Kd.kW (Kd.fJ eu.out))) (aQ (by repeat (first | (with_reducible first | exact HB.out | refine bJ ?_ | refine aA ?_ dH.out | refine aA ?_ bU.out) | exact HB.out))))
    have kF := ah (eH aN.out hb)
    have mJ := ah (eH aJ.out hb)
    have LK := ah (aZ (by repeat (first | (with_reducible first | exact HB.out | refine bJ ?_ | refine aA ?_ dH.out | refine aA ?_ bU.out) | exact HB.out)) hb)
    clear jE
    clear eu
    clear mP
    clear aN
    clear aJ
    clear HB
    have jE := fZ
    have eu := gG
    have mP := iC
    have uD := jg
    have aN := kF
    have aJ := mJ
    have HB := LK
    clear fZ gG iC jg kF mJ LK
    (try clear hb)
    (try clear hb2)
    (try clear hk)
    (try clear hi)
    (try clear ho0)
    obtain ⟨Ze, Zf, Uy⟩ := Kd.dw uD.out
    (first | subst Uy | (injection Uy with pG uY pI; have uZ := pG.symm; have vg := pI.symm; clear pG uY pI; subst uZ; subst vg))
    refine hK.out _ _ ⟨(au aN.out 0).trans rfl, (au aN.out 1).trans rfl, (au aN.out 2).trans rfl, (au aN.out 3).trans rfl, (au aN.out 4).trans rfl, (au aN.out 5).trans rfl, (au aN.out 6).trans rfl, (au aN.out 7).trans rfl, (au aN.out 8).trans rfl⟩ (fun hHeld => ?_)
    clear hK K
    refine jo (a' := ?_) ?_ ?_
    rotate_left
    ·show Act.put _ (some 45) _ = _
     simp only [Act.put, List.setIfInBounds_toArray, List.set_cons_zero, List.set_cons_succ, bI, bM]
     rfl
    refine o9 (i := 9) (N := some 52) #[true, true, true, true, true, true, true, true, true, true, false, false, false, false, false, false, false] rfl rfl (jD HT_.out (by kernel_rfl)) (by decide) (fun K hK => ?_)
    refine ql Try.func96 (by kernel_rfl) rfl #[.slice Ze zS.length Zf, .slice iD dA.length iE, .int .i64 (wrap64 (cO - a1))] (by rfl) rfl rfl (by (try simp only [List.map_toArray, List.map_cons, List.map_nil]); first | done | rfl | (simp only [List.length_drop, List.length_take]; rfl)) ?_
    with_reducible refine (tidepoleref25_side.calls mZ _ _ zS _ _ dA (wrap64 (cO - a1)) t117 vC t119 _ ?dK ?dL ?kC ?kD tC.out).mono ?_
    (case dK => exact Kd.jV (Kd.bF uD.out).2.2)
    (case dL => exact (Kd.bF uD.out).2.1)
    (case kC => exact Kd.jV (Kd.bT qm.out HB.out))
    (case kD => exact qo.out)
    rintro e w40 ⟨Vf, Yo, rfl, ho0, ho1, hb⟩
    refine ⟨_, rfl, ?_⟩
    have fZ := ah (Kd.fV (Kd.fJ jE.out) (Kd.iI ho0) hb)
    have gG := ah (Kd.fV (Kd.fJ eu.out) (Kd.iI ho0) hb)
    have iC := ah (Kd.fV (Kd.fJ mP.out) (Kd.iI ho1) hb)
    have jg := ah (Kd.fV (Kd.fJ uD.out) (Kd.iI ho0) hb)
    have kF := ah (Kd.dh (Kd.jh (Kd.jh (Kd.jh ho0 (Kd.kW (Kd.fJ jE.out))) (Kd.kW (Kd.fJ eu.out))) (Kd.kW (Kd.fJ uD.out))) (aQ (by repeat (first | (with_reducible first | exact HB.out | refine bJ ?_ | refine aA ?_ dH.out | refine aA ?_ bU.out) | exact HB.out))))
    have mJ := ah (Kd.dh (Kd.jh ho1 (Kd.kW (Kd.fJ mP.out))) (aQ (by repeat (first | (with_reducible first | exact HB.out | refine bJ ?_ | refine aA ?_ dH.out | refine aA ?_ bU.out) | exact HB.out))))
    have LK := ah (eH aN.out hb)
    have n7_ := ah (eH aJ.out hb)
    have n8_ := ah (aZ (by repeat (first | (with_reducible first | exact HB.out | refine bJ ?_ | refine aA ?_ dH.out | refine aA ?_ bU.out) | exact HB.out)) hb)
    clear jE
    clear eu
    clear mP
    clear uD
    clear aN
    clear aJ
    clear HB
    have jE := fZ
    have eu := gG
    have mP := iC
    have uD := jg
    have Ip := kF
    have TJ := mJ
    have aN := LK
    have aJ := n7_
    have HB := n8_
    clear fZ gG iC jg kF mJ LK n7_ n8_
    (try clear hb)
    (try clear hb2)
    (try clear hk)
    (try clear hi)
    (try clear ho0)
    (try clear ho1)
    refine hK.out _ _ ⟨(au aN.out 0).trans rfl, (au aN.out 1).trans rfl, (au aN.out 2).trans rfl, (au aN.out 3).trans rfl, (au aN.out 4).trans rfl, (au aN.out 5).trans rfl, (au aN.out 6).trans rfl, (au aN.out 7).trans rfl, (au aN.out 8).trans rfl⟩ (fun hHeld => ?_)
    clear hK K
    refine jo (a' := ?_) ?_ ?_
    rotate_left
    ·show Act.put _ (some 52) _ = _
     simp only [Act.put, List.setIfInBounds_toArray, List.set_cons_zero, List.set_cons_succ, bI, bM]
     rfl
    refine dX (i := 10) (N := some 42) (v := ?_) (a' := ?_) #[true, true, true, true, true, true, true, true, true, true, true, false, false, false, false, false, false] rfl rfl (dD HT_.out (by kernel_rfl)) (fun _ _ _ h => h) (Or.inl ⟨by rfl, ?_⟩) ?_ ?_
    rotate_left
    ·intro w'
     go_simp
     with_reducible rfl
    rotate_left
    ·simp only [Act.put, List.setIfInBounds_toArray, List.set_cons_zero, List.set_cons_succ, bI, bM]
     rfl
    refine dX (i := 11) (N := some 53) (v := ?_) (a' := ?_) #[true, true, true, true, true, true, true, true, true, true, true, true, false, false, false, false, false] rfl rfl (dD HT_.out (by kernel_rfl)) (fun _ _ _ h => h) (Or.inl ⟨by rfl, ?_⟩) ?_ ?_
    rotate_left
    ·intro w'
     go_simp
     with_reducible rfl
    rotate_left
    ·simp only [Act.put, List.setIfInBounds_toArray, List.set_cons_zero, List.set_cons_succ, bI, bM]
     rfl
    refine dX (i := 12) (N := some 54) (v := ?_) (a' := ?_) #[true, true, true, true, true, true, true, true, true, true, true, true, true, false, false, false, false] rfl rfl (dD HT_.out (by kernel_rfl)) (fun _ _ _ h => h) (Or.inl ⟨by rfl, ?_⟩) ?_ ?_
    rotate_left
    ·intro w'
     go_simp
     with_reducible rfl
    rotate_left
    ·simp only [Act.put, List.setIfInBounds_toArray, List.set_cons_zero, List.set_cons_succ, bI, bM]
     rfl
    refine dX (i := 13) (N := some 55) (v := ?_) (a' := ?_) #[true, true, true, true, true, true, true, true, true, true, true, true, true, true, false, false, false] rfl rfl (dD HT_.out (by kernel_rfl)) (fun _ _ _ h => h) (Or.inl ⟨by rfl, ?_⟩) ?_ ?_
    rotate_left
    ·intro w'
     go_simp
     with_reducible rfl
    rotate_left
    ·simp only [Act.put, List.setIfInBounds_toArray, List.set_cons_zero, List.set_cons_succ, bI, bM]
     rfl
    refine dX (i := 14) (N := some 10) (v := ?_) (a' := ?_) #[true, true, true, true, true, true, true, true, true, true, true, true, true, true, true, false, false] rfl rfl (dD HT_.out (by kernel_rfl)) (fun _ _ _ h => h) (Or.inl ⟨by rfl, ?_⟩) ?_ ?_
    rotate_left
    ·intro w'
     go_simp
     with_reducible rfl
    rotate_left
    ·simp only [Act.put, List.setIfInBounds_toArray, List.set_cons_zero, List.set_cons_succ, bI, bM]
     rfl
    refine dX (i := 15) (N := some 11) (v := ?_) (a' := ?_) #[true, true, true, true, true, true, true, true, true, true, true, true, true, true, true, true, false] rfl rfl (dD HT_.out (by kernel_rfl)) (fun _ _ _ h => h) (Or.inl ⟨by rfl, ?_⟩) ?_ ?_
    rotate_left
    ·intro w'
     go_simp
     with_reducible rfl
    rotate_left
    ·simp only [Act.put, List.setIfInBounds_toArray, List.set_cons_zero, List.set_cons_succ, bI, bM]
     rfl
    refine dX (i := 16) (N := some 12) (v := ?_) (a' := ?_) #[true, true, true, true, true, true, true, true, true, true, true, true, true, true, true, true, true] rfl rfl (dD HT_.out (by kernel_rfl)) (fun _ _ _ h => h) (Or.inl ⟨by rfl, ?_⟩) ?_ ?_
    rotate_left
    ·intro w'
     go_simp
     with_reducible rfl
    rotate_left
    ·simp only [Act.put, List.setIfInBounds_toArray, List.set_cons_zero, List.set_cons_succ, bI, bM]
     rfl
    refine y9 (su HT_.out (by kernel_rfl)) ?_
    go_upto_region 10 with (fail)
    go_cut [68] (fun v68 wc => ∃ (kq : Nat) (JC : Bool), v68 = .bool JC ∧ aj (tidepoleref25_Floats.j1 kq a1 t107 lM t117 vC JC cO dF dO dP dM dJ dG dB dA = some (r1, r2, r3, r4, r5, r6, r7, r8, r9, r10)) ∧ aj (kq ≤ mZ) ∧ aj (Kd.R (Kd.int .i64) 3 wc w.heap.size (fun k_ => some k_ ≠ (Vf : Value).ownBlock) qw t107) ∧ aj (Kd.R (Kd.int .u64) 25 wc w.heap.size (fun k_ => some k_ ≠ (Yo : Value).ownBlock) Yn lM) ∧ aj (Kd.R (Kd.int .i64) 3 wc w.heap.size (fun k_ => some k_ ≠ (qw : Value).ownBlock) Vf t117) ∧ aj (Kd.R (Kd.int .u64) 25 wc w.heap.size (fun k_ => some k_ ≠ (Yn : Value).ownBlock) Yo vC) ∧ aj (wc.heap[bV]? = some (.cells #[.int .i64 cO, .int .u64 dF, .int .u64 dO, .int .u64 dP, .int .u64 dM, (.slice iO dJ.length iP), (.slice iJ dG.length iK), (.slice iw dB.length iy), (.slice iD dA.length iE)] 60 (0, 0))) ∧ aj (wc.heap[aI]? = some (.cells #[.int .i64 0, .int .u64 0, .int .u64 0, .int .u64 0, .int .u64 0, (.slice none 0 0), (.slice none 0 0), (.slice none 0 0), (.slice none 0 0)] 60 (0, 0))) ∧ aj (Below w.heap.size w wc))
    case first =>
     have H := Yp.out
     clear Yp
     replace H := Option.bind_eq_some_iff.mp H
     obtain ⟨t124, aao, H⟩ := H
     replace H : (if t124 > 1024 then (tidepoleref25_Floats.j1 mZ a1 t107 lM t117 vC true cO dF dO dP dM dJ dG dB dA) else ((tidepoleref06_Runs.f mZ t117).bind fun yu => (tidepoleref25_Floats.j1 mZ a1 t107 lM t117 vC (decide (yu > 1024)) cO dF dO dP dM dJ dG dB dA))) = some (r1, r2, r3, r4, r5, r6, r7, r8, r9, r10) := H
     have A41 := ah aao
     clear aao
     by_cases Oz : t124 > 1024
     ·rw [if_pos Oz] at H
      have c42b0 : decide (1024 < t124) = true := ahG Oz
      clear Oz
      (first | rw [c42b0] | (simp only [bI, bM]; rw [c42b0]) | skip)
      have H' := ah H
      clear H
      obtain ⟨adE, adF, adG⟩ := Kd.dw eu.out
      subst adG
      go_wp2_with (first | ((with_reducible refine bP (f := 84) rfl ?_); refine lG (some 62) rfl rfl Try.func84 (by kernel_rfl) rfl #[.slice adE t107.length adF] rfl (by (try simp only [List.map_toArray, List.map_cons, List.map_nil]); first | done | rfl | (simp only [List.length_drop, List.length_take]; rfl)) ?_; (with_reducible refine (tidepoleref06_Runs.calls mZ _ _ t107 t124 _ ?dK ?dL A41.out).mono ?_); (case dK => exact Kd.jV (Kd.bF eu.out).2.2); (case dL => exact (Kd.bF eu.out).2.1); rintro e w' ⟨rfl, ⟨nd, rfl⟩⟩; refine ⟨_, rfl, ?_⟩; clear A41))
      go_meet
      case rel => exact ⟨_, (true), (by first | rfl | (simp; done) | (simp [*]; done)), H', ⟨by have := IL.out; first | omega | exact Nat.le_refl _⟩, ⟨by (repeat with_reducible refine Kd.kQ ?_); exact Kd.bZ eu.out (fun _ hk => hk.2)⟩, ⟨by (repeat with_reducible refine Kd.kQ ?_); exact Kd.bZ mP.out (fun _ hk => hk.2)⟩, ⟨by (repeat with_reducible refine Kd.kQ ?_); exact Kd.bZ Ip.out (fun _ hk => hk.1.2)⟩, ⟨by (repeat with_reducible refine Kd.kQ ?_); exact Kd.bZ TJ.out (fun _ hk => hk.2)⟩, ⟨by (repeat with_reducible refine bQ ?_); exact aN.out⟩, ⟨by (repeat with_reducible refine bQ ?_); exact aJ.out⟩, ⟨by repeat (first | (with_reducible first | exact HB.out | apply ak | apply ay | apply aH | refine aA ?_ dH.out | refine aA ?_ bU.out) | exact HB.out)⟩⟩
     rw [if_neg Oz] at H
     have c42b0 : decide (1024 < t124) = false := ahH Oz
     clear Oz
     (first | rw [c42b0] | (simp only [bI, bM]; rw [c42b0]) | skip)
     replace H := Option.bind_eq_some_iff.mp H
     obtain ⟨yu, aap, H⟩ := H
     replace H : (tidepoleref25_Floats.j1 mZ a1 t107 lM t117 vC (decide (yu > 1024)) cO dF dO dP dM dJ dG dB dA) = some (r1, r2, r3, r4, r5, r6, r7, r8, r9, r10) := H
     have A44 := ah aap
     clear aap
     have H' := ah H
     clear H
     obtain ⟨adH, adI, adJ⟩ := Kd.dw eu.out
     subst adJ
     go_wp2_with (first | ((with_reducible refine bP (f := 84) rfl ?_); refine lG (some 62) rfl rfl Try.func84 (by kernel_rfl) rfl #[.slice adH t107.length adI] rfl (by (try simp only [List.map_toArray, List.map_cons, List.map_nil]); first | done | rfl | (simp only [List.length_drop, List.length_take]; rfl)) ?_; (with_reducible refine (tidepoleref06_Runs.calls mZ _ _ t107 t124 _ ?dK ?dL A41.out).mono ?_); (case dK => exact Kd.jV (Kd.bF eu.out).2.2); (case dL => exact (Kd.bF eu.out).2.1); rintro e w' ⟨rfl, ⟨nd, rfl⟩⟩; refine ⟨_, rfl, ?_⟩; clear A41; obtain ⟨agJ, agK, adK⟩ := Kd.dw Ip.out; subst adK) | (go_at_call 84; (with_reducible refine (tidepoleref06_Runs.calls mZ _ _ t117 yu _ ?dK ?dL A44.out).mono ?_); (case dK => exact Kd.jV (Kd.bF Ip.out).2.2); (case dL => exact (Kd.bF Ip.out).2.1); rintro e w' ⟨rfl, ⟨nd, rfl⟩⟩; clear A44))
     go_meet
     case rel => exact ⟨_, (decide (yu > 1024)), (by first | rfl | (simp; done) | (simp [*]; done)), H', ⟨by have := IL.out; first | omega | exact Nat.le_refl _⟩, ⟨by (repeat with_reducible refine Kd.kQ ?_); exact Kd.bZ eu.out (fun _ hk => hk.2)⟩, ⟨by (repeat with_reducible refine Kd.kQ ?_); exact Kd.bZ mP.out (fun _ hk => hk.2)⟩, ⟨by (repeat with_reducible refine Kd.kQ ?_); exact Kd.bZ Ip.out (fun _ hk => hk.1.2)⟩, ⟨by (repeat with_reducible refine Kd.kQ ?_); exact Kd.bZ TJ.out (fun _ hk => hk.2)⟩, ⟨by (repeat with_reducible refine bQ ?_); exact aN.out⟩, ⟨by (repeat with_reducible refine bQ ?_); exact aJ.out⟩, ⟨by repeat (first | (with_reducible first | exact HB.out | apply ak | apply ay | apply aH | refine aA ?_ dH.out | refine aA ?_ bU.out) | exact HB.out)⟩⟩
    case rest =>
     clear Yp
     try clear c2
     try clear p2
     try clear c3
     try clear c4
     try clear p6
     try clear c8
     try clear c9
     try clear c21
     try clear c21b0
     try clear TN
     try clear Oz
     try clear c42b0
     try clear Ap
     try clear Aq
     obtain ⟨kq, JC, rfl, HA, agL, HO_7, HO_8, HO_10, HO_11, aN, aJ, HB⟩ := hcut
     cases kq with
     | zero => exact absurd HA.out (by simp [tidepoleref25_Floats.j1])
     | succ TK =>
      have H := HA.out
      clear HA
      simp only [tidepoleref25_Floats.j1] at H
      by_cases c47 : JC = true
      ·subst c47
       have H1 : (some (0, 0, 0, 0, 0, ([] : List (eP)), ([] : List (eP)), ([] : List Int), ([] : List Int), 12)) = some (r1, r2, r3, r4, r5, r6, r7, r8, r9, r10) := by rw [if_pos rfl] at H; exact H
       clear H
       have H := H1
       clear H1
       simp only [Option.some.injEq, Prod.mk.injEq] at H
       obtain ⟨rfl, rfl, rfl, rfl, rfl, rfl, rfl, rfl, rfl, rfl⟩ := H
       have afe := fB.out
       have aff := aT.out
       have abB := au aJ.out
       have abC := aC aJ.out
       go_wp2
       refine bodyPost_ret (gu rfl _ _ aI 60 #[.int .i64 0, .int .u64 0, .int .u64 0, .int .u64 0, .int .u64 0, .slice none 0 0, .slice none 0 0, .slice none 0 0, .slice none 0 0] (0, 0) _ rfl (by (repeat with_reducible refine bQ ?_); refine bC (cs := #[.int .i64 0, .int .u64 0, .int .u64 0, .int .u64 0, .int .u64 0, .slice none 0 0, .slice none 0 0, .slice none 0 0, .slice none 0 0]) ?_ 8 _ rfl; (repeat with_reducible refine bQ ?_); refine bC (cs := #[.int .i64 0, .int .u64 0, .int .u64 0, .int .u64 0, .int .u64 0, .slice none 0 0, .slice none 0 0, .slice none 0 0, .slice none 0 0]) ?_ 7 _ rfl; (repeat with_reducible refine bQ ?_); refine bC (cs := #[.int .i64 0, .int .u64 0, .int .u64 0, .int .u64 0, .int .u64 0, .slice none 0 0, .slice none 0 0, .slice none 0 0, .slice none 0 0]) ?_ 6 _ rfl; (repeat with_reducible refine bQ ?_); refine bC (cs := #[.int .i64 0, .int .u64 0, .int .u64 0, .int .u64 0, .int .u64 0, .slice none 0 0, .slice none 0 0, .slice none 0 0, .slice none 0 0]) ?_ 5 _ rfl; (repeat with_reducible refine bQ ?_); refine bC (cs := #[.int .i64 0, .int .u64 0, .int .u64 0, .int .u64 0, .int .u64 0, .slice none 0 0, .slice none 0 0, .slice none 0 0, .slice none 0 0]) ?_ 4 _ rfl; (repeat with_reducible refine bQ ?_); refine bC (cs := #[.int .i64 0, .int .u64 0, .int .u64 0, .int .u64 0, .int .u64 0, .slice none 0 0, .slice none 0 0, .slice none 0 0, .slice none 0 0]) ?_ 3 _ rfl; (repeat with_reducible refine bQ ?_); refine bC (cs := #[.int .i64 0, .int .u64 0, .int .u64 0, .int .u64 0, .int .u64 0, .slice none 0 0, .slice none 0 0, .slice none 0 0, .slice none 0 0]) ?_ 2 _ rfl; (repeat with_reducible refine bQ ?_); refine bC (cs := #[.int .i64 0, .int .u64 0, .int .u64 0, .int .u64 0, .int .u64 0, .slice none 0 0, .slice none 0 0, .slice none 0 0, .slice none 0 0]) ?_ 1 _ rfl; (repeat with_reducible refine bQ ?_); refine bC (cs := #[.int .i64 0, .int .u64 0, .int .u64 0, .int .u64 0, .int .u64 0, .slice none 0 0, .slice none 0 0, .slice none 0 0, .slice none 0 0]) ?_ 0 _ rfl; (repeat with_reducible refine bQ ?_); exact aJ.out) Try.underlying60 rfl (by kernel_rfl)) rfl ?_
       exact ⟨_, _, _, _, by first | rfl | (simp [aU, aV] <;> rfl) | (simp [*, aU, aV] <;> rfl), by first | exact Kd.eY _ _ _ _ _ | exact Kd.ig _ _ _ _ _ | exact Kd.iq _ _ _ _ _ | exact Kd.gY _ _ _ _ _ | exact Kd.gZ _ _ _ _ _, by first | exact Kd.eY _ _ _ _ _ | exact Kd.ig _ _ _ _ _ | exact Kd.iq _ _ _ _ _ | exact Kd.gY _ _ _ _ _ | exact Kd.gZ _ _ _ _ _, by first | exact Kd.eY _ _ _ _ _ | exact Kd.ig _ _ _ _ _ | exact Kd.iq _ _ _ _ _ | exact Kd.gY _ _ _ _ _ | exact Kd.gZ _ _ _ _ _, by first | exact Kd.eY _ _ _ _ _ | exact Kd.ig _ _ _ _ _ | exact Kd.iq _ _ _ _ _ | exact Kd.gY _ _ _ _ _ | exact Kd.gZ _ _ _ _ _, by repeat (first | (with_reducible first | exact HB.out | apply ak | apply ay | apply aH | refine aA ?_ dH.out | refine aA ?_ bU.out) | exact HB.out)⟩
      replace c47 := Bool.eq_false_iff.mpr c47
      subst c47
      have H1 : ((tidepoleref17_Runs.f TK t107).bind fun tX => ((tidepoleref17_Runs.f TK t117).bind fun wS => (some (a1, dF, dO, dP, dM, tX, wS, lM, vC, 0)))) = some (r1, r2, r3, r4, r5, r6, r7, r8, r9, r10) := by rw [if_neg (show ¬ (false = true) by decide)] at H; exact H
      clear H
      have H := H1
      clear H1
      replace H := Option.bind_eq_some_iff.mp H
      obtain ⟨tX, aaq, H⟩ := H
      replace H : ((tidepoleref17_Runs.f TK t117).bind fun wS => (some (a1, dF, dO, dP, dM, tX, wS, lM, vC, 0))) = some (r1, r2, r3, r4, r5, r6, r7, r8, r9, r10) := H
      have Kt := ah aaq
      clear aaq
      replace H := Option.bind_eq_some_iff.mp H
      obtain ⟨wS, aar, H⟩ := H
      replace H : (some (a1, dF, dO, dP, dM, tX, wS, lM, vC, 0)) = some (r1, r2, r3, r4, r5, r6, r7, r8, r9, r10) := H
      have A51 := ah aar
      clear aar
      simp only [Option.some.injEq, Prod.mk.injEq] at H
      obtain ⟨rfl, rfl, rfl, rfl, rfl, rfl, rfl, rfl, rfl, rfl⟩ := H
      have afh := aT.out
      have afi := fB.out
      have abD := au aN.out
      have abE := aC aN.out
      obtain ⟨aas, Yq, adL⟩ := Kd.dw HO_7.out
      subst adL
      go_wp2_with (first | ((with_reducible refine bP (f := 85) rfl ?_); refine lG (some 73) rfl rfl Try.func85 (by kernel_rfl) rfl #[.slice aas t107.length Yq] rfl (by (try simp only [List.map_toArray, List.map_cons, List.map_nil]); first | done | rfl | (simp only [List.length_drop, List.length_take]; rfl)) ?_; (with_reducible refine (tidepoleref17_Runs.calls TK _ _ t107 tX _ ?dK ?dL Kt.out).mono ?_); (case dK => refine (Kd.bF (e := 3) (base := w.heap.size) (ok := fun k_ => some k_ ≠ (Vf : Value).ownBlock) (n := t107.length) (c := Yq) ?_).2.2; exact (Kd.fJ (Kd.bZ (Kd.cu (p := ⟨bV, 0, none⟩) (Kd.iH HO_7.out aN.out (by decide)) (fun _ hk => hk.2) (.int .i64 a1)) (fun _ h_ => h_.1)))); (case dL => exact (Kd.bF HO_7.out).2.1); rintro e w55 ⟨v127, rfl, ho0, hb⟩; refine ⟨_, rfl, ?_⟩; have fZ := ah (Kd.eU (Kd.fJ (Kd.bZ (Kd.cu (p := ⟨bV, 0, none⟩) (Kd.iH HO_7.out aN.out (by decide)) (fun _ hk => hk.2) (.int .i64 a1)) (fun _ h_ => h_.1))) hb); have gG := ah (Kd.eU (Kd.fJ (Kd.bZ (Kd.cu (p := ⟨bV, 0, none⟩) (Kd.iH HO_8.out aN.out (by decide)) (fun _ hk => hk.2) (.int .i64 a1)) (fun _ h_ => h_.1))) hb); have iC := ah (Kd.eU (Kd.fJ (Kd.bZ (Kd.cu (p := ⟨bV, 0, none⟩) (Kd.iH HO_10.out aN.out (by decide)) (fun _ hk => hk.2) (.int .i64 a1)) (fun _ h_ => h_.1))) hb); have jg := ah (Kd.eU (Kd.fJ (Kd.bZ (Kd.cu (p := ⟨bV, 0, none⟩) (Kd.iH HO_11.out aN.out (by decide)) (fun _ hk => hk.2) (.int .i64 a1)) (fun _ h_ => h_.1))) hb); have Iq := ah (Kd.dh ho0 (aQ (by repeat (first | (with_reducible first | exact HB.out | refine bJ ?_ | refine aA ?_ dH.out | refine aA ?_ bU.out) | exact HB.out)))); replace aN := ah (bD (g := bV) (o := .cells #[.int .i64 a1, .int .u64 dF, .int .u64 dO, .int .u64 dP, .int .u64 dM, .slice iO dJ.length iP, .slice iJ dG.length iK, .slice iw dB.length iy, .slice iD dA.length iE] 60 (0, 0)) (by (repeat with_reducible refine bQ ?_); refine bC (cs := #[.int .i64 cO, .int .u64 dF, .int .u64 dO, .int .u64 dP, .int .u64 dM, .slice iO dJ.length iP, .slice iJ dG.length iK, .slice iw dB.length iy, .slice iD dA.length iE]) ?_ 0 _ rfl; (repeat with_reducible refine bQ ?_); exact aN.out) hb); replace aJ := ah (bD (g := aI) (o := .cells #[.int .i64 0, .int .u64 0, .int .u64 0, .int .u64 0, .int .u64 0, .slice none 0 0, .slice none 0 0, .slice none 0 0, .slice none 0 0] 60 (0, 0)) (by (repeat with_reducible refine bQ ?_); refine iG ?_ fB.out _; (repeat with_reducible refine bQ ?_); exact aJ.out) hb); replace HB := ah (aZ (by repeat (first | (with_reducible first | exact HB.out | refine bJ ?_ | refine aA ?_ dH.out | refine aA ?_ bU.out) | exact HB.out)) hb); clear HO_7; have HO_7 := fZ; clear fZ HO_8; have HO_8 := gG; clear gG HO_10; have HO_10 := iC; clear iC HO_11; have HO_11 := jg; clear jg; (try clear hb); (try clear hb2); (try clear hk); (try clear hi); (try clear ho0); clear Kt; obtain ⟨yw, yx, adM⟩ := Kd.dw Iq.out; subst adM; have abG := au aN.out; have abH := aC aN.out; obtain ⟨BD, BF, adN⟩ := Kd.dw HO_8.out; subst adN; obtain ⟨adO, aat, adP⟩ := Kd.dw HO_10.out; subst adP) | ((with_reducible refine bP (f := 85) rfl ?_); refine lG (some 78) rfl rfl Try.func85 (by kernel_rfl) rfl #[.slice adO t117.length aat] rfl (by (try simp only [List.map_toArray, List.map_cons, List.map_nil]); first | done | rfl | (simp only [List.length_drop, List.length_take]; rfl)) ?_; (with_reducible refine (tidepoleref17_Runs.calls TK _ _ t117 wS _ ?dK ?dL A51.out).mono ?_); (case dK => refine (Kd.bF (e := 3) (base := w.heap.size) (ok := fun k_ => some k_ ≠ (.slice aas t107.length Yq : Value).ownBlock) (n := t117.length) (c := aat) ?_).2.2; exact (Kd.fJ (Kd.bZ (Kd.cu (p := ⟨bV, 7, none⟩) (Kd.cu (p := ⟨bV, 5, none⟩) (Kd.iH HO_10.out aN.out (by decide)) (fun _ hk => hk.2) (.slice yw tX.length yx)) (fun _ hk => hk.2) (.slice BD lM.length BF)) (fun _ h_ => h_.1)))); (case dL => exact (Kd.bF HO_10.out).2.1); rintro e w60 ⟨v130, rfl, ho0, hb⟩; refine ⟨_, rfl, ?_⟩; have fZ := ah (Kd.eU (Kd.fJ (Kd.bZ (Kd.cu (p := ⟨bV, 7, none⟩) (Kd.cu (p := ⟨bV, 5, none⟩) (Kd.iH HO_7.out aN.out (by decide)) (fun _ hk => hk.2) (.slice yw tX.length yx)) (fun _ hk => hk.2) (.slice BD lM.length BF)) (fun _ h_ => h_.1))) hb); have gG := ah (Kd.eU (Kd.fJ (Kd.bZ (Kd.cu (p := ⟨bV, 7, none⟩) (Kd.cu (p := ⟨bV, 5, none⟩) (Kd.iH HO_8.out aN.out (by decide)) (fun _ hk => hk.2) (.slice yw tX.length yx)) (fun _ hk => hk.2) (.slice BD lM.length BF)) (fun _ h_ => h_.1))) hb); have iC := ah (Kd.eU (Kd.fJ (Kd.bZ (Kd.cu (p := ⟨bV, 7, none⟩) (Kd.cu (p := ⟨bV, 5, none⟩) (Kd.iH HO_10.out aN.out (by decide)) (fun _ hk => hk.2) (.slice yw tX.length yx)) (fun _ hk => hk.2) (.slice BD lM.length BF)) (fun _ h_ => h_.1))) hb); have jg := ah (Kd.eU (Kd.fJ (Kd.bZ (Kd.cu (p := ⟨bV, 7, none⟩) (Kd.cu (p := ⟨bV, 5, none⟩) (Kd.iH HO_11.out aN.out (by decide)) (fun _ hk => hk.2) (.slice yw tX.length yx)) (fun _ hk => hk.2) (.slice BD lM.length BF)) (fun _ h_ => h_.1))) hb); have kF := ah (Kd.fV (Kd.fJ (Kd.bZ (Kd.cu (p := ⟨bV, 7, none⟩) (Kd.cu (p := ⟨bV, 5, none⟩) (Kd.iH Iq.out aN.out (by decide)) (fun _ hk => hk.2) (.slice yw tX.length yx)) (fun _ hk => hk.2) (.slice BD lM.length BF)) (fun _ h_ => h_.1))) (Kd.iI ho0) hb); have V9 := ah (Kd.dh (Kd.jh ho0 (Kd.kW (Kd.fJ (Kd.bZ (Kd.cu (p := ⟨bV, 7, none⟩) (Kd.cu (p := ⟨bV, 5, none⟩) (Kd.iH Iq.out aN.out (by decide)) (fun _ hk => hk.2) (.slice yw tX.length yx)) (fun _ hk => hk.2) (.slice BD lM.length BF)) (fun _ h_ => h_.1))))) (aQ (by repeat (first | (with_reducible first | exact HB.out | refine bJ ?_ | refine aA ?_ dH.out | refine aA ?_ bU.out) | exact HB.out)))); replace aN := ah (bD (g := bV) (o := .cells #[.int .i64 a1, .int .u64 dF, .int .u64 dO, .int .u64 dP, .int .u64 dM, .slice yw tX.length yx, .slice iJ dG.length iK, .slice BD lM.length BF, .slice iD dA.length iE] 60 (0, 0)) (by (repeat with_reducible refine bQ ?_); refine bC (cs := #[.int .i64 a1, .int .u64 dF, .int .u64 dO, .int .u64 dP, .int .u64 dM, .slice yw tX.length yx, .slice iJ dG.length iK, .slice iw dB.length iy, .slice iD dA.length iE]) ?_ 7 _ rfl; (repeat with_reducible refine bQ ?_); refine bC (cs := #[.int .i64 a1, .int .u64 dF, .int .u64 dO, .int .u64 dP, .int .u64 dM, .slice iO dJ.length iP, .slice iJ dG.length iK, .slice iw dB.length iy, .slice iD dA.length iE]) ?_ 5 _ rfl; (repeat with_reducible refine bQ ?_); exact aN.out) hb); replace aJ := ah (bD (g := aI) (o := .cells #[.int .i64 0, .int .u64 0, .int .u64 0, .int .u64 0, .int .u64 0, .slice none 0 0, .slice none 0 0, .slice none 0 0, .slice none 0 0] 60 (0, 0)) (by (repeat with_reducible refine bQ ?_); refine iG ?_ fB.out _; (repeat with_reducible refine bQ ?_); refine iG ?_ fB.out _; (repeat with_reducible refine bQ ?_); exact aJ.out) hb); replace HB := ah (aZ (by repeat (first | (with_reducible first | exact HB.out | refine bJ ?_ | refine aA ?_ dH.out | refine aA ?_ bU.out) | exact HB.out)) hb); clear HO_7; have HO_7 := fZ; clear fZ HO_8; have HO_8 := gG; clear gG HO_10; have HO_10 := iC; clear iC HO_11; have HO_11 := jg; clear jg Iq; have Iq := kF; clear kF; (try clear hb); (try clear hb2); (try clear hk); (try clear hi); (try clear ho0); clear A51; obtain ⟨FP, FQ, adQ⟩ := Kd.dw V9.out; subst adQ; have abI := au aN.out; have abJ := aC aN.out; obtain ⟨JD, JE, adR⟩ := Kd.dw HO_11.out; subst adR; have abK := au aJ.out; have abL := aC aJ.out))
      refine bodyPost_ret (gu rfl _ _ aI 60 #[.int .i64 a1, .int .u64 dF, .int .u64 dO, .int .u64 dP, .int .u64 dM, .slice yw tX.length yx, .slice FP wS.length FQ, .slice BD lM.length BF, .slice JD vC.length JE] (0, 0) _ rfl (by (repeat with_reducible refine bQ ?_); refine bC (cs := #[.int .i64 a1, .int .u64 dF, .int .u64 dO, .int .u64 dP, .int .u64 dM, .slice yw tX.length yx, .slice FP wS.length FQ, .slice BD lM.length BF, .slice none 0 0]) ?_ 8 _ rfl; (repeat with_reducible refine bQ ?_); refine bC (cs := #[.int .i64 a1, .int .u64 dF, .int .u64 dO, .int .u64 dP, .int .u64 dM, .slice yw tX.length yx, .slice FP wS.length FQ, .slice none 0 0, .slice none 0 0]) ?_ 7 _ rfl; (repeat with_reducible refine bQ ?_); refine bC (cs := #[.int .i64 a1, .int .u64 dF, .int .u64 dO, .int .u64 dP, .int .u64 dM, .slice yw tX.length yx, .slice none 0 0, .slice none 0 0, .slice none 0 0]) ?_ 6 _ rfl; (repeat with_reducible refine bQ ?_); refine bC (cs := #[.int .i64 a1, .int .u64 dF, .int .u64 dO, .int .u64 dP, .int .u64 dM, .slice none 0 0, .slice none 0 0, .slice none 0 0, .slice none 0 0]) ?_ 5 _ rfl; (repeat with_reducible refine bQ ?_); refine bC (cs := #[.int .i64 a1, .int .u64 dF, .int .u64 dO, .int .u64 dP, .int .u64 0, .slice none 0 0, .slice none 0 0, .slice none 0 0, .slice none 0 0]) ?_ 4 _ rfl; (repeat with_reducible refine bQ ?_); refine bC (cs := #[.int .i64 a1, .int .u64 dF, .int .u64 dO, .int .u64 0, .int .u64 0, .slice none 0 0, .slice none 0 0, .slice none 0 0, .slice none 0 0]) ?_ 3 _ rfl; (repeat with_reducible refine bQ ?_); refine bC (cs := #[.int .i64 a1, .int .u64 dF, .int .u64 0, .int .u64 0, .int .u64 0, .slice none 0 0, .slice none 0 0, .slice none 0 0, .slice none 0 0]) ?_ 2 _ rfl; (repeat with_reducible refine bQ ?_); refine bC (cs := #[.int .i64 a1, .int .u64 0, .int .u64 0, .int .u64 0, .int .u64 0, .slice none 0 0, .slice none 0 0, .slice none 0 0, .slice none 0 0]) ?_ 1 _ rfl; (repeat with_reducible refine bQ ?_); refine bC (cs := #[.int .i64 0, .int .u64 0, .int .u64 0, .int .u64 0, .int .u64 0, .slice none 0 0, .slice none 0 0, .slice none 0 0, .slice none 0 0]) ?_ 0 _ rfl; (repeat with_reducible refine bQ ?_); refine iG ?_ fB.out _; (repeat with_reducible refine bQ ?_); refine iG ?_ fB.out _; (repeat with_reducible refine bQ ?_); exact aJ.out) Try.underlying60 rfl (by kernel_rfl)) rfl ?_
      exact ⟨_, _, _, _, by first | rfl | (simp [aU, aV] <;> rfl) | (simp [*, aU, aV] <;> rfl), by (repeat with_reducible refine Kd.kQ ?_); exact Kd.bZ (Kd.cu (p := ⟨aI, 8, none⟩) (Kd.cu (p := ⟨aI, 7, none⟩) (Kd.cu (p := ⟨aI, 6, none⟩) (Kd.cu (p := ⟨aI, 5, none⟩) (Kd.cu (p := ⟨aI, 4, none⟩) (Kd.cu (p := ⟨aI, 3, none⟩) (Kd.cu (p := ⟨aI, 2, none⟩) (Kd.cu (p := ⟨aI, 1, none⟩) (Kd.cu (p := ⟨aI, 0, none⟩) (Kd.cu (p := ⟨bV, 8, none⟩) (Kd.cu (p := ⟨bV, 6, none⟩) (Kd.iH (Kd.iH Iq.out aN.out (by decide)) aJ.out (by decide)) (fun _ hk => hk.1.2) (.slice FP wS.length FQ)) (fun _ hk => hk.1.2) (.slice JD vC.length JE)) (fun _ hk => hk.2) (.int .i64 a1)) (fun _ hk => hk.2) (.int .u64 dF)) (fun _ hk => hk.2) (.int .u64 dO)) (fun _ hk => hk.2) (.int .u64 dP)) (fun _ hk => hk.2) (.int .u64 dM)) (fun _ hk => hk.2) (.slice yw tX.length yx)) (fun _ hk => hk.2) (.slice FP wS.length FQ)) (fun _ hk => hk.2) (.slice BD lM.length BF)) (fun _ hk => hk.2) (.slice JD vC.length JE)) (fun _ hk => hk.1.1.2), by (repeat with_reducible refine Kd.kQ ?_); exact Kd.bZ (Kd.cu (p := ⟨aI, 8, none⟩) (Kd.cu (p := ⟨aI, 7, none⟩) (Kd.cu (p := ⟨aI, 6, none⟩) (Kd.cu (p := ⟨aI, 5, none⟩) (Kd.cu (p := ⟨aI, 4, none⟩) (Kd.cu (p := ⟨aI, 3, none⟩) (Kd.cu (p := ⟨aI, 2, none⟩) (Kd.cu (p := ⟨aI, 1, none⟩) (Kd.cu (p := ⟨aI, 0, none⟩) (Kd.cu (p := ⟨bV, 8, none⟩) (Kd.cu (p := ⟨bV, 6, none⟩) (Kd.iH (Kd.iH V9.out aN.out (by decide)) aJ.out (by decide)) (fun _ hk => hk.1.2) (.slice FP wS.length FQ)) (fun _ hk => hk.1.2) (.slice JD vC.length JE)) (fun _ hk => hk.2) (.int .i64 a1)) (fun _ hk => hk.2) (.int .u64 dF)) (fun _ hk => hk.2) (.int .u64 dO)) (fun _ hk => hk.2) (.int .u64 dP)) (fun _ hk => hk.2) (.int .u64 dM)) (fun _ hk => hk.2) (.slice yw tX.length yx)) (fun _ hk => hk.2) (.slice FP wS.length FQ)) (fun _ hk => hk.2) (.slice BD lM.length BF)) (fun _ hk => hk.2) (.slice JD vC.length JE)) (fun _ hk => hk.1.1.2), by (repeat with_reducible refine Kd.kQ ?_); exact Kd.bZ (Kd.cu (p := ⟨aI, 8, none⟩) (Kd.cu (p := ⟨aI, 7, none⟩) (Kd.cu (p := ⟨aI, 6, none⟩) (Kd.cu (p := ⟨aI, 5, none⟩) (Kd.cu (p := ⟨aI, 4, none⟩) (Kd.cu (p := ⟨aI, 3, none⟩) (Kd.cu (p := ⟨aI, 2, none⟩) (Kd.cu (p := ⟨aI, 1, none⟩) (Kd.cu (p := ⟨aI, 0, none⟩) (Kd.cu (p := ⟨bV, 8, none⟩) (Kd.cu (p := ⟨bV, 6, none⟩) (Kd.iH (Kd.iH HO_8.out aN.out (by decide)) aJ.out (by decide)) (fun _ hk => hk.1.2) (.slice FP wS.length FQ)) (fun _ hk => hk.1.2) (.slice JD vC.length JE)) (fun _ hk => hk.2) (.int .i64 a1)) (fun _ hk => hk.2) (.int .u64 dF)) (fun _ hk => hk.2) (.int .u64 dO)) (fun _ hk => hk.2) (.int .u64 dP)) (fun _ hk => hk.2) (.int .u64 dM)) (fun _ hk => hk.2) (.slice yw tX.length yx)) (fun _ hk => hk.2) (.slice FP wS.length FQ)) (fun _ hk => hk.2) (.slice BD lM.length BF)) (fun _ hk => hk.2) (.slice JD vC.length JE)) (fun _ hk => hk.1.1), by (repeat with_reducible refine Kd.kQ ?_); exact Kd.bZ (Kd.cu (p := ⟨aI, 8, none⟩) (Kd.cu (p := ⟨aI, 7, none⟩) (Kd.cu (p := ⟨aI, 6, none⟩) (Kd.cu (p := ⟨aI, 5, none⟩) (Kd.cu (p := ⟨aI, 4, none⟩) (Kd.cu (p := ⟨aI, 3, none⟩) (Kd.cu (p := ⟨aI, 2, none⟩) (Kd.cu (p := ⟨aI, 1, none⟩) (Kd.cu (p := ⟨aI, 0, none⟩) (Kd.cu (p := ⟨bV, 8, none⟩) (Kd.cu (p := ⟨bV, 6, none⟩) (Kd.iH (Kd.iH HO_11.out aN.out (by decide)) aJ.out (by decide)) (fun _ hk => hk.1.2) (.slice FP wS.length FQ)) (fun _ hk => hk.1.2) (.slice JD vC.length JE)) (fun _ hk => hk.2) (.int .i64 a1)) (fun _ hk => hk.2) (.int .u64 dF)) (fun _ hk => hk.2) (.int .u64 dO)) (fun _ hk => hk.2) (.int .u64 dP)) (fun _ hk => hk.2) (.int .u64 dM)) (fun _ hk => hk.2) (.slice yw tX.length yx)) (fun _ hk => hk.2) (.slice FP wS.length FQ)) (fun _ hk => hk.2) (.slice BD lM.length BF)) (fun _ hk => hk.2) (.slice JD vC.length JE)) (fun _ hk => hk.1.1), by repeat (first | (with_reducible first | exact HB.out | apply ak | apply ay | apply aH | refine aA ?_ dH.out | refine aA ?_ bU.out) | exact HB.out)⟩
 rw [if_neg c4] at H
 have c4b0 : (dZ == 0) = false := beq_eq_false_iff_ne.mpr c4
 have c4b1 : (dZ != 0) = true := bne_iff_ne.mpr c4
 simp only [Option.some.injEq, Prod.mk.injEq] at H
 obtain ⟨rfl, rfl, rfl, rfl, rfl, rfl, rfl, rfl, rfl, rfl⟩ := H
 go_enter Try.func34, Try.ntmps34
 go_wp2_with (first | ((with_reducible refine fK (N := 2) rfl ?_); refine fA ?hg (N := 2) ?hd (cs := #[.int .i64 cO, .int .u64 dF, .int .u64 dO, .int .u64 dP, .int .u64 dM, .slice iO dJ.length iP, .slice iJ dG.length iK, .slice iw dB.length iy, .slice iD dA.length iE]) (t := 60) ?hr ?_; (case hd => rfl); (case hg => rfl); (case hr => first | (go_simp; done) | (go_simp; rfl)); intro bV hg w65 hbox hb; have aN := ah (hbox); have xY := ah ((by rw [hg]; exact (aQ (bg HB.out)) : w.heap.size ≤ bV)); have dH := ah ((by rw [hg]; exact (aQ (bg HB.out)) : w.heap.size ≤ bV)); replace HB := ah (aZ (bg HB.out) hb); clear hb hbox hg) | ((with_reducible refine fK (N := 4) rfl ?_); refine fA ?hg (N := 4) ?hd (cs := #[.int .i64 0, .int .u64 0, .int .u64 0, .int .u64 0, .int .u64 0, .slice none 0 0, .slice none 0 0, .slice none 0 0, .slice none 0 0]) (t := 60) ?hr ?_; (case hd => rfl); (case hg => rfl); (case hr => first | (go_simp; done) | (go_simp; rfl)); intro aI hg w66 hbox hb; have aJ := ah (hbox); have oN := ah ((by rw [hg]; exact (aQ (by repeat (first | (with_reducible first | exact HB.out | refine bJ ?_ | refine aA ?_ dH.out) | exact HB.out))) : w.heap.size ≤ aI)); have bU := ah ((by rw [hg]; exact (aQ (by repeat (first | (with_reducible first | exact HB.out | refine bJ ?_ | refine aA ?_ dH.out) | exact HB.out))) : w.heap.size ≤ aI)); have aT := ah ((by rw [hg]; exact Nat.ne_of_lt (jX (g := bV) (o := .cells #[.int .i64 cO, .int .u64 dF, .int .u64 dO, .int .u64 dP, .int .u64 dM, .slice iO dJ.length iP, .slice iJ dG.length iK, .slice iw dB.length iy, .slice iD dA.length iE] 60 (0, 0)) (jJ aN.out)) : bV ≠ aI)); have fB := ah ((by rw [hg]; exact Nat.ne_of_gt (jX (g := bV) (o := .cells #[.int .i64 cO, .int .u64 dF, .int .u64 dO, .int .u64 dP, .int .u64 dM, .slice iO dJ.length iP, .slice iJ dG.length iK, .slice iw dB.length iy, .slice iD dA.length iE] 60 (0, 0)) (jJ aN.out)) : aI ≠ bV)); replace aN := ah (eH aN.out hb); replace HB := ah (aZ (by repeat (first | (with_reducible first | exact HB.out | refine bJ ?_ | refine aA ?_ dH.out) | exact HB.out)) hb); clear hb hbox hg; have afj := aT.out; have afk := fB.out; have abM := au aN.out; have abN := aC aN.out) | ((with_reducible refine bP (f := 95) rfl ?_); refine lG (some 14) rfl rfl Try.func95 (by kernel_rfl) rfl #[.agg #[.int .i64 cO, .int .u64 dF, .int .u64 dO, .int .u64 dP, .int .u64 dM, .slice iO dJ.length iP, .slice iJ dG.length iK, .slice iw dB.length iy, .slice iD dA.length iE]] rfl (by (try simp only [List.map_toArray, List.map_cons, List.map_nil]); first | done | rfl | (simp only [List.length_drop, List.length_take]; rfl)) ?_; (with_reducible refine (tidepoleref10_Check.calls k cO dF dO dP dM _ _ dJ _ _ dG _ _ dB _ _ dA dZ _ ?dK ?dL ?kC ?kD ?pR ?pU ?pV ?pW A3.out).mono ?_); (case dK => exact Kd.jV (Kd.bT nX.out HB.out)); (case dL => exact nY.out); (case kC => exact Kd.jV (Kd.bT oW.out HB.out)); (case kD => exact oZ.out); (case pR => exact Kd.jV (Kd.bT pK.out HB.out)); (case pU => exact pO.out); (case pV => exact Kd.jV (Kd.bT qm.out HB.out)); (case pW => exact qo.out); rintro e w69 ⟨rfl, hb⟩; refine ⟨_, rfl, ?_⟩; replace aN := ah (eH aN.out hb); replace aJ := ah (eH aJ.out hb); replace HB := ah (aZ (by repeat (first | (with_reducible first | exact HB.out | refine bJ ?_ | refine aA ?_ dH.out | refine aA ?_ bU.out) | exact HB.out)) hb); (try clear hb); (try clear hb2); (try clear hk); (try clear hi); clear A3; have abO := au aJ.out; have abP := aC aJ.out))
 refine bodyPost_ret (gu rfl _ _ aI 60 #[.int .i64 0, .int .u64 0, .int .u64 0, .int .u64 0, .int .u64 0, .slice none 0 0, .slice none 0 0, .slice none 0 0, .slice none 0 0] (0, 0) _ rfl (by (repeat with_reducible refine bQ ?_); refine bC (cs := #[.int .i64 0, .int .u64 0, .int .u64 0, .int .u64 0, .int .u64 0, .slice none 0 0, .slice none 0 0, .slice none 0 0, .slice none 0 0]) ?_ 8 _ rfl; (repeat with_reducible refine bQ ?_); refine bC (cs := #[.int .i64 0, .int .u64 0, .int .u64 0, .int .u64 0, .int .u64 0, .slice none 0 0, .slice none 0 0, .slice none 0 0, .slice none 0 0]) ?_ 7 _ rfl; (repeat with_reducible refine bQ ?_); refine bC (cs := #[.int .i64 0, .int .u64 0, .int .u64 0, .int .u64 0, .int .u64 0, .slice none 0 0, .slice none 0 0, .slice none 0 0, .slice none 0 0]) ?_ 6 _ rfl; (repeat with_reducible refine bQ ?_); refine bC (cs := #[.int .i64 0, .int .u64 0, .int .u64 0, .int .u64 0, .int .u64 0, .slice none 0 0, .slice none 0 0, .slice none 0 0, .slice none 0 0]) ?_ 5 _ rfl; (repeat with_reducible refine bQ ?_); refine bC (cs := #[.int .i64 0, .int .u64 0, .int .u64 0, .int .u64 0, .int .u64 0, .slice none 0 0, .slice none 0 0, .slice none 0 0, .slice none 0 0]) ?_ 4 _ rfl; (repeat with_reducible refine bQ ?_); refine bC (cs := #[.int .i64 0, .int .u64 0, .int .u64 0, .int .u64 0, .int .u64 0, .slice none 0 0, .slice none 0 0, .slice none 0 0, .slice none 0 0]) ?_ 3 _ rfl; (repeat with_reducible refine bQ ?_); refine bC (cs := #[.int .i64 0, .int .u64 0, .int .u64 0, .int .u64 0, .int .u64 0, .slice none 0 0, .slice none 0 0, .slice none 0 0, .slice none 0 0]) ?_ 2 _ rfl; (repeat with_reducible refine bQ ?_); refine bC (cs := #[.int .i64 0, .int .u64 0, .int .u64 0, .int .u64 0, .int .u64 0, .slice none 0 0, .slice none 0 0, .slice none 0 0, .slice none 0 0]) ?_ 1 _ rfl; (repeat with_reducible refine bQ ?_); refine bC (cs := #[.int .i64 0, .int .u64 0, .int .u64 0, .int .u64 0, .int .u64 0, .slice none 0 0, .slice none 0 0, .slice none 0 0, .slice none 0 0]) ?_ 0 _ rfl; (repeat with_reducible refine bQ ?_); exact aJ.out) Try.underlying60 rfl (by kernel_rfl)) rfl ?_
 exact ⟨_, _, _, _, by first | rfl | (simp [aU, aV] <;> rfl) | (simp [*, aU, aV] <;> rfl), by first | exact Kd.eY _ _ _ _ _ | exact Kd.ig _ _ _ _ _ | exact Kd.iq _ _ _ _ _ | exact Kd.gY _ _ _ _ _ | exact Kd.gZ _ _ _ _ _, by first | exact Kd.eY _ _ _ _ _ | exact Kd.ig _ _ _ _ _ | exact Kd.iq _ _ _ _ _ | exact Kd.gY _ _ _ _ _ | exact Kd.gZ _ _ _ _ _, by first | exact Kd.eY _ _ _ _ _ | exact Kd.ig _ _ _ _ _ | exact Kd.iq _ _ _ _ _ | exact Kd.gY _ _ _ _ _ | exact Kd.gZ _ _ _ _ _, by first | exact Kd.eY _ _ _ _ _ | exact Kd.ig _ _ _ _ _ | exact Kd.iq _ _ _ _ _ | exact Kd.gY _ _ _ _ _ | exact Kd.gZ _ _ _ _ _, by repeat (first | (with_reducible first | exact HB.out | apply ak | apply ay | apply aH | refine aA ?_ dH.out | refine aA ?_ bU.out) | exact HB.out)⟩
end Go.Proofs.Ytooiccpmngmapaa.P
namespace Go.Proofs.Ytooiccpmngmapaa.P
open Go.RowKit Go.Shelf Go.Proofs.YtooiccpmngmapaaW.PrintWords Go.Proofs.YtooiccpmngmapaaW.PrintLast Go.Proofs.YtooiccpmngmapaaW.PrintMore
def Wh (x : Fh × Int) : Int × Int × Int × Int × Int × List Rsp × List Rsp × List Int × List Int × Int := (x.1.f0, x.1.f1, x.1.f2, x.1.f3, x.1.f4, x.1.f5.map toR, x.1.f6.map toR, x.1.f7, x.1.f8, x.2)
theorem FT {l : List Pu} (h : RowOKU l) (hb : ∀ p ∈ l, -1048576 ≤ p.f0 ∧ p.f0 ≤ 1048576) : rises (-1048576) (l.map (·.f0)) = true := qj l _ h.ups hb
theorem Ir {l : List Pu} (h : RowOKU l) : (l.map (·.f0)).Pairwise (· < ·) := List.pairwise_map.2 h.ups
theorem sJ {h : Fh} {tt : Int} (hc : jU h = 0) : mG h tt = if tt < -4 ∨ tt > h.f0 then (qV, 21)
 else match lq (h.f0 - tt) (jw h).1, lq (h.f0 - tt) (jw h).2.1 with
  | some p, some n => zl (DL h tt) (gK p) (gK n)
  | _, _ => (qV, 28) := by
 unfold mG
 rw [if_neg (by simp [hc])]
 rfl
theorem FU (h : Fh) (hw : EZ h) (tt : Int) (ht : i64 tt) (k : Nat) (hk : 17000003 ≤ k) (h7 : h.f7.length ≤ 4096) (h8 : h.f8.length ≤ 4096) :
    tidepoleref25_Floats.f k h.f0 h.f1 h.f2 h.f3 h.f4 (h.f5.map toR) (h.f6.map toR) h.f7 h.f8 tt = some (Wh (mG h tt)) := by
  unfold tidepoleref25_Floats.f
  rw [JB h hw k (by omega), Option.bind_some]
  by_cases hc : jU h = 0
  rotate_left
  · rw [if_neg hc]
    unfold mG
    rw [if_pos hc]
    rfl
  rw [if_pos hc]
  have hs := vk hc
  obtain ⟨k, rfl⟩ : ∃ m, k = m + 1 + 1 := ⟨k - 2, by omega⟩
  have hbad : ∀ b, b = true → tidepoleref25_Floats.j0 (k + 1 + 1) tt b h.f0 h.f1 h.f2 h.f3 h.f4 (h.f5.map toR) (h.f6.map toR) h.f7 h.f8 = some (Wh (qV, 21)) := by
    intro b hb
    rw [tidepoleref25_Floats.j0, if_pos hb]; rfl
  by_cases c1 : tt < -4
  · rw [if_pos c1, hbad true rfl, sJ hc, if_pos (.inl c1)]
  rw [if_neg c1]
  by_cases c2 : tt > h.f0
  · rw [hbad _ (ahG c2), sJ hc, if_pos (.inr c2)]
  rw [ahH c2, tidepoleref25_Floats.j0, if_neg (by decide)]
  obtain ⟨r1, r2⟩ := yS hw
  obtain ⟨z1, z2, z3⟩ := Dt hc
  have ho := Dq hc
  obtain ⟨-, -, p5, q5, m5, -⟩ := tV z2
  obtain ⟨-, -, p6, q6, m6, -⟩ := tV z3
  have s1 : (jR h.f5 h.f7).1 = (jw h).1 := by rw [ho]
  have s2 : (jR h.f6 h.f8).1 = (jw h).2.1 := by rw [ho]
  rw [s1] at p5 m5
  rw [s2] at p6 m6
  have e1 := zn (h.f0 - tt) _ r1 (k + 1) (by omega)
  have e2 := zn (h.f0 - tt) _ r2 (k + 1) (by omega)
  rw [p5, m5] at e1
  rw [p6, m6] at e2
  rw [wC _ q5 _ (by omega), Option.bind_some, eX (x := h.f0 - tt) (by omega) (by omega), e1, Option.bind_some, wC _ q6 _ (by omega), Option.bind_some, e2, Option.bind_some]
  have hsr := sJ (tt := tt) hc
  rw [if_neg (by omega)] at hsr
  unfold NY
  cases hP : lq (h.f0 - tt) (jw h).1 with
  | none =>
    rw [hP] at hsr
    simp only at hsr
    cases hN : lq (h.f0 - tt) (jw h).2.1 with
    | none => simp only []; rw [if_pos (by unfold wrap64; omega), hsr]; rfl
    | some n => simp only []; rw [if_pos (by unfold wrap64; omega), hsr]; rfl
  | some p =>
    cases hN : lq (h.f0 - tt) (jw h).2.1 with
    | none => rw [hP, hN] at hsr; simp only at hsr ⊢; rw [if_pos (by unfold wrap64; omega), hsr]; rfl
    | some n =>
      simp only []
      obtain ⟨o1, o2, g1, g2, -, hg⟩ := Du hw hc (by omega) (by omega) hP hN
      rw [if_neg (by unfold wrap64; omega), hg]
      clear hsr hg hP hN
      generalize gK p = P at *
      generalize gK n = Q at *
      have i1 : ∀ x ∈ P.map (·.f0), -1048576 ≤ x ∧ x ≤ 1048576 := fun x hx => by obtain ⟨q, hq, rfl⟩ := List.mem_map.1 hx; exact g1 q hq
      have i2 : ∀ x ∈ Q.map (·.f0), -1048576 ≤ x ∧ x ≤ 1048576 := fun x hx => by obtain ⟨q, hq, rfl⟩ := List.mem_map.1 hx; exact g2 q hq
      have n1 : (P.map (·.f0)).length ≤ 4096 := by rw [List.length_map]; exact o1.len
      have n2 : (Q.map (·.f0)).length ≤ 4096 := by rw [List.length_map]; exact o2.len
      rw [Fq _ (Ir o1) i1 n1 _ (by omega), Option.bind_some]
      by_cases k1 : 1024 < (spansOf (P.map (·.f0))).length
      · rw [if_pos (by omega), tidepoleref25_Floats.j1, if_pos rfl, if_pos (.inl k1)]; rfl
      rw [if_neg (by omega), Fq _ (Ir o2) i2 n2 _ (by omega), Option.bind_some]
      by_cases k2 : 1024 < (spansOf (Q.map (·.f0))).length
      · rw [ahG (by omega), tidepoleref25_Floats.j1, if_pos rfl, if_pos (.inr k2)]; rfl
      rw [ahH (by omega), tidepoleref25_Floats.j1, if_neg (by decide), if_neg (by omega)]
      rw [BA _ (FT o1 g1) n1 _ (by omega), BA _ (FT o2 g2) n2 _ (by omega)]
      rfl
attribute [local go_sem] iV iW jH jI gW gX iY iZ
def tidepolelaw25_floats.f (k : Nat) (cO : Int) (dF : Int) (dO : Int) (dP : Int) (dM : Int) (dJ : List (dQ)) (dG : List (dQ)) (dB : List Int) (dA : List Int) : Option (Int × Int × Int × Int × Int × (List (eP)) × (List (eP)) × List Int × List Int) := (tidepolelaw25_spans.f k dJ).bind fun dZ => ((tidepolelaw25_spans.f k dG).bind fun fQ => (some (cO, dF, dO, dP, dM, dZ, fQ, dB, dA)))
def tidepolelaw25_floats.T1 : Bool × List (List Nat × List Nat) := (true, [([], []), ([0], [0]), ([], []), ([2], [2]), ([], []), ([4], [4]), ([], []), ([6], [6]), ([], []), ([8], [8]), ([], []), ([10], [10]), ([11], [11]), ([], []), ([13], [13]), ([14, 12], [14]), ([], []), ([16], [16]), ([], []), ([18], [18]), ([1, 3, 5, 7, 9, 12, 15, 17, 19], [1, 3, 5, 7, 9, 12, 15, 17, 19]), ([20, 15, 0, 1, 2, 3, 4, 5, 6, 7, 8, 9, 10, 11, 12, 13, 14, 15, 16, 17, 18, 19, 20], [20])])
def tidepolelaw25_floats.B1 : List Nat := [0, 1, 0, 4, 0, 16, 0, 64, 0, 256, 0, 1024, 3072, 0, 8192, 31744, 0, 65536, 0, 262144, 1048575, 2097151]
theorem tidepolelaw25_floats.adS : ru .any (opsOf Try.f35 1) = tidepolelaw25_floats.T1 := by kernel_rfl
theorem tidepolelaw25_floats.aau : qG tidepolelaw25_floats.T1.2 tidepolelaw25_floats.B1 = true := by kernel_rfl
set_option maxHeartbeats 8000000 in
set_option maxRecDepth 100000 in
theorem tidepolelaw25_floats.calls (k : Nat) (cO : Int) (dF : Int) (dO : Int) (dP : Int) (dM : Int) (iO : Option Addr) (iP : Nat) (dJ : List (dQ)) (iJ : Option Addr) (iK : Nat) (dG : List (dQ)) (MH : Nat → Prop) (iw : Option Addr) (iy : Nat) (dB : List Int) (MI : Nat → Prop) (iD : Option Addr) (iE : Nat) (dA : List Int) (r1 : Int) (r2 : Int) (r3 : Int) (r4 : Int) (r5 : Int) (r6 : List (eP)) (r7 : List (eP)) (r8 : List Int) (r9 : List Int) (w : World) (oP : Kd.C jq w iO dJ.length dJ) (oQ : dJ.length ≤ iP) (oU : Kd.C jq w iJ dG.length dG) (oV : dG.length ≤ iK) (aav : Kd.V (Kd.int .u64) 25 w w.heap.size (fun k_ => MH k_) (.slice iw dB.length iy) dB) (aaw : Kd.V (Kd.int .u64) 25 w w.heap.size (fun k_ => MI k_) (.slice iD dA.length iE) dA) (h : tidepolelaw25_floats.f k cO dF dO dP dM dJ dG dB dA = some (r1, r2, r3, r4, r5, r6, r7, r8, r9)) :
  Calls Try.prog 35 #[.agg #[.int .i64 cO, .int .u64 dF, .int .u64 dO, .int .u64 dP, .int .u64 dM, .slice iO dJ.length iP, .slice iJ dG.length iK, .slice iw dB.length iy, .slice iD dA.length iE]] w fun e w' => ∃ KY La OM OO : Value, e = .returned (.agg #[.int .i64 r1, .int .u64 r2, .int .u64 r3, .int .u64 r4, .int .u64 r5, KY, La, OM, OO]) ∧ Kd.R mV 127 w' w.heap.size (fun k_ => (w.heap.size ≤ k_) ∧ some k_ ≠ (La : Value).ownBlock) KY r6 ∧ Kd.R mV 127 w' w.heap.size (fun k_ => (w.heap.size ≤ k_) ∧ some k_ ≠ (KY : Value).ownBlock) La r7 ∧ Kd.V (Kd.int .u64) 25 w' w.heap.size (fun k_ => ((MH k_ ∨ MI k_) ∨ w.heap.size ≤ k_) ∧ some k_ ≠ (KY : Value).ownBlock ∧ some k_ ≠ (La : Value).ownBlock) OM r8 ∧ Kd.V (Kd.int .u64) 25 w' w.heap.size (fun k_ => ((MH k_ ∨ MI k_) ∨ w.heap.size ≤ k_) ∧ some k_ ≠ (KY : Value).ownBlock ∧ some k_ ≠ (La : Value).ownBlock) OO r9 ∧ Below w.heap.size w w' := by
 have adb := Try.underlying55
 have aaf := Try.underlying60
 have nX := ah oP
 have nY := ah oQ
 clear oP oQ
 have oW := ah oU
 have oZ := ah oV
 clear oU oV
 have uF := ah (show Kd.V (Kd.int .u64) 25 w w.heap.size (fun k_ => ((MH k_ ∨ MI k_) ∨ w.heap.size ≤ k_)) (.slice iw dB.length iy) dB from Kd.BN aav (fun k_ hk => .inl (.inl hk)))
 have uG := ah (show Kd.V (Kd.int .u64) 25 w w.heap.size (fun k_ => ((MH k_ ∨ MI k_) ∨ w.heap.size ≤ k_)) (.slice iD dA.length iE) dA from Kd.BN aaw (fun k_ hk => .inl (.inr hk)))
 have HB := ah (Below.refl w.heap.size w)
 have H : ((tidepolelaw25_spans.f k dJ).bind fun dZ => ((tidepolelaw25_spans.f k dG).bind fun fQ => (some (cO, dF, dO, dP, dM, dZ, fQ, dB, dA)))) = some (r1, r2, r3, r4, r5, r6, r7, r8, r9) := h
 clear h
 replace H := Option.bind_eq_some_iff.mp H
 obtain ⟨dZ, tC, H⟩ := H
 replace H : ((tidepolelaw25_spans.f k dG).bind fun fQ => (some (cO, dF, dO, dP, dM, dZ, fQ, dB, dA))) = some (r1, r2, r3, r4, r5, r6, r7, r8, r9) := H
 have A2 := ah tC
 clear tC
 replace H := Option.bind_eq_some_iff.mp H
 obtain ⟨fQ, G7, H⟩ := H
 replace H : (some (cO, dF, dO, dP, dM, dZ, fQ, dB, dA)) = some (r1, r2, r3, r4, r5, r6, r7, r8, r9) := H
 have A3 := ah G7
 clear G7
 simp only [Option.some.injEq, Prod.mk.injEq] at H
 obtain ⟨rfl, rfl, rfl, rfl, rfl, rfl, rfl, rfl, rfl⟩ := H
 go_enter Try.func35, Try.ntmps35
 try go_wp2_with (first | ((with_reducible refine fK (N := 1) rfl ?_); refine fA ?hg (N := 1) ?hd (cs := #[.int .i64 cO, .int .u64 dF, .int .u64 dO, .int .u64 dP, .int .u64 dM, .slice iO dJ.length iP, .slice iJ dG.length iK, .slice iw dB.length iy, .slice iD dA.length iE]) (t := 55) ?hr ?_; (case hd => rfl); (case hg => rfl); (case hr => first | (go_simp; done) | (go_simp; rfl)); intro bV hg w4 hbox hb; have aN := ah (hbox); have xY := ah ((by rw [hg]; exact (aQ (bg HB.out)) : w.heap.size ≤ bV)); have dH := ah ((by rw [hg]; exact (aQ (bg HB.out)) : w.heap.size ≤ bV)); replace uF := ah (Kd.DV (Kd.zY (by (with_reducible repeat (first | apply Kd.sD | apply Kd.sF | apply Kd.sU)); exact uF.out) bV (Nat.le_of_eq hg.symm)) hb); replace uG := ah (Kd.DV (Kd.zY (by (with_reducible repeat (first | apply Kd.sD | apply Kd.sF | apply Kd.sU)); exact uG.out) bV (Nat.le_of_eq hg.symm)) hb); replace HB := ah (aZ (bg HB.out) hb); clear hb hbox hg) | ((with_reducible refine fK (N := 2) rfl ?_); refine fA ?hg (N := 2) ?hd (cs := #[.int .i64 0, .int .u64 0, .int .u64 0, .int .u64 0, .int .u64 0, .slice none 0 0, .slice none 0 0, .slice none 0 0, .slice none 0 0]) (t := 60) ?hr ?_; (case hd => rfl); (case hg => rfl); (case hr => first | (go_simp; done) | (go_simp; rfl)); intro aI hg w5 hbox hb; have aJ := ah (hbox); have oN := ah ((by rw [hg]; exact (aQ (by repeat (first | (with_reducible first | exact HB.out | refine bJ ?_ | refine aA ?_ dH.out) | exact HB.out))) : w.heap.size ≤ aI)); have bU := ah ((by rw [hg]; exact (aQ (by repeat (first | (with_reducible first | exact HB.out | refine bJ ?_ | refine aA ?_ dH.out) | exact HB.out))) : w.heap.size ≤ aI)); have aT := ah ((by rw [hg]; exact Nat.ne_of_lt (jX (g := bV) (o := .cells #[.int .i64 cO, .int .u64 dF, .int .u64 dO, .int .u64 dP, .int .u64 dM, .slice iO dJ.length iP, .slice iJ dG.length iK, .slice iw dB.length iy, .slice iD dA.length iE] 55 (0, 0)) (jJ aN.out)) : bV ≠ aI)); have fB := ah ((by rw [hg]; exact Nat.ne_of_gt (jX (g := bV) (o := .cells #[.int .i64 cO, .int .u64 dF, .int .u64 dO, .int .u64 dP, .int .u64 dM, .slice iO dJ.length iP, .slice iJ dG.length iK, .slice iw dB.length iy, .slice iD dA.length iE] 55 (0, 0)) (jJ aN.out)) : aI ≠ bV)); replace uF := ah (Kd.DV (Kd.zY (by (with_reducible repeat (first | apply Kd.sD | apply Kd.sF | apply Kd.sU)); exact uF.out) aI (Nat.le_of_eq hg.symm)) hb); replace uG := ah (Kd.DV (Kd.zY (by (with_reducible repeat (first | apply Kd.sD | apply Kd.sF | apply Kd.sU)); exact uG.out) aI (Nat.le_of_eq hg.symm)) hb); replace aN := ah (eH aN.out hb); replace HB := ah (aZ (by repeat (first | (with_reducible first | exact HB.out | refine bJ ?_ | refine aA ?_ dH.out) | exact HB.out)) hb); clear hb hbox hg))
 have fZ := ah (Kd.sU uF.out)
 have gG := ah (Kd.sU uG.out)
 have iC := ah (kP aN.out)
 have jg := ah (kP aJ.out)
 have kF := ah (aH HB.out)
 clear uF
 clear uG
 clear aN
 clear aJ
 clear HB
 have uF := fZ
 have uG := gG
 have aN := iC
 have aJ := jg
 have HB := kF
 clear fZ gG iC jg kF
 refine uX (n := 22) (S := fun w' => w'.cell? ⟨bV, 0, none⟩ = some (.int .i64 cO) ∧ w'.cell? ⟨bV, 1, none⟩ = some (.int .u64 dF) ∧ w'.cell? ⟨bV, 2, none⟩ = some (.int .u64 dO) ∧ w'.cell? ⟨bV, 3, none⟩ = some (.int .u64 dP) ∧ w'.cell? ⟨bV, 4, none⟩ = some (.int .u64 dM) ∧ w'.cell? ⟨bV, 5, none⟩ = some (.slice iO dJ.length iP) ∧ w'.cell? ⟨bV, 6, none⟩ = some (.slice iJ dG.length iK) ∧ w'.cell? ⟨bV, 7, none⟩ = some (.slice iw dB.length iy) ∧ w'.cell? ⟨bV, 8, none⟩ = some (.slice iD dA.length iE)) (ds := []) #[false, false, false, false, false, false, false, false, false, false, false, false, false, false, false, false, false, false, false, false, false, false] (by kernel_rfl) rfl rfl ⟨(au aN.out 0).trans rfl, (au aN.out 1).trans rfl, (au aN.out 2).trans rfl, (au aN.out 3).trans rfl, (au aN.out 4).trans rfl, (au aN.out 5).trans rfl, (au aN.out 6).trans rfl, (au aN.out 7).trans rfl, (au aN.out 8).trans rfl⟩ (fun hHeld => ?_); refine mQ tidepolelaw25_floats.adS tidepolelaw25_floats.aau (fun HT_ HW_ => ?_)
 generalize w5.drew = w6 at uF uG aN aJ HB hHeld ⊢
 refine dX (i := 0) (N := some 3) (v := ?_) (a' := ?_) #[true, false, false, false, false, false, false, false, false, false, false, false, false, false, false, false, false, false, false, false, false, false] rfl rfl (dD HT_.out (by kernel_rfl)) (fun _ _ _ h => h) (Or.inl ⟨by rfl, ?_⟩) ?_ ?_
 rotate_left
 ·intro w'
  go_simp
  with_reducible rfl
 rotate_left
 ·simp only [Act.put, List.setIfInBounds_toArray, List.set_cons_zero, List.set_cons_succ, bI, bM]
  rfl
 refine dX (i := 2) (N := some 5) (v := ?_) (a' := ?_) #[true, false, true, false, false, false, false, false, false, false, false, false, false, false, false, false, false, false, false, false, false, false] rfl rfl (dD HT_.out (by kernel_rfl)) (fun _ _ _ h => h) (Or.inl ⟨by rfl, ?_⟩) ?_ ?_
 rotate_left
 ·intro w'
  go_simp
  with_reducible rfl
 rotate_left
 ·simp only [Act.put, List.setIfInBounds_toArray, List.set_cons_zero, List.set_cons_succ, bI, bM]
  rfl
 refine dX (i := 4) (N := some 7) (v := ?_) (a' := ?_) #[true, false, true, false, true, false, false, false, false, false, false, false, false, false, false, false, false, false, false, false, false, false] rfl rfl (dD HT_.out (by kernel_rfl)) (fun _ _ _ h => h) (Or.inl ⟨by rfl, ?_⟩) ?_ ?_
 rotate_left
 ·intro w'
  go_simp
  with_reducible rfl
 rotate_left
 ·simp only [Act.put, List.setIfInBounds_toArray, List.set_cons_zero, List.set_cons_succ, bI, bM]
  rfl
 refine dX (i := 6) (N := some 9) (v := ?_) (a' := ?_) #[true, false, true, false, true, false, true, false, false, false, false, false, false, false, false, false, false, false, false, false, false, false] rfl rfl (dD HT_.out (by kernel_rfl)) (fun _ _ _ h => h) (Or.inl ⟨by rfl, ?_⟩) ?_ ?_
 rotate_left
 ·intro w'
  go_simp
  with_reducible rfl
 rotate_left
 ·simp only [Act.put, List.setIfInBounds_toArray, List.set_cons_zero, List.set_cons_succ, bI, bM]
  rfl
 refine dX (i := 8) (N := some 11) (v := ?_) (a' := ?_) #[true, false, true, false, true, false, true, false, true, false, false, false, false, false, false, false, false, false, false, false, false, false] rfl rfl (dD HT_.out (by kernel_rfl)) (fun _ _ _ h => h) (Or.inl ⟨by rfl, ?_⟩) ?_ ?_
 rotate_left
 ·intro w'
  go_simp
  with_reducible rfl
 rotate_left
 ·simp only [Act.put, List.setIfInBounds_toArray, List.set_cons_zero, List.set_cons_succ, bI, bM]
  rfl
 refine dX (i := 10) (N := some 13) (v := ?_) (a' := ?_) #[true, false, true, false, true, false, true, false, true, false, true, false, false, false, false, false, false, false, false, false, false, false] rfl rfl (dD HT_.out (by kernel_rfl)) (fun _ _ _ h => h) (Or.inl ⟨by rfl, ?_⟩) ?_ ?_
 rotate_left
 ·intro w'
  go_simp
  with_reducible rfl
 rotate_left
 ·simp only [Act.put, List.setIfInBounds_toArray, List.set_cons_zero, List.set_cons_succ, bI, bM]
  rfl
 refine dX (i := 13) (N := some 16) (v := ?_) (a' := ?_) #[true, false, true, false, true, false, true, false, true, false, true, false, false, true, false, false, false, false, false, false, false, false] rfl rfl (dD HT_.out (by kernel_rfl)) (fun _ _ _ h => h) (Or.inl ⟨by rfl, ?_⟩) ?_ ?_
 rotate_left
 ·intro w'
  go_simp
  with_reducible rfl
 rotate_left
 ·simp only [Act.put, List.setIfInBounds_toArray, List.set_cons_zero, List.set_cons_succ, bI, bM]
  rfl
 refine dX (i := 16) (N := some 19) (v := ?_) (a' := ?_) #[true, false, true, false, true, false, true, false, true, false, true, false, false, true, false, false, true, false, false, false, false, false] rfl rfl (dD HT_.out (by kernel_rfl)) (fun _ _ _ h => h) (Or.inl ⟨by rfl, ?_⟩) ?_ ?_
 rotate_left
 ·intro w'
  go_simp
  with_reducible rfl
 rotate_left
 ·simp only [Act.put, List.setIfInBounds_toArray, List.set_cons_zero, List.set_cons_succ, bI, bM]
  rfl
 refine dX (i := 18) (N := some 21) (v := ?_) (a' := ?_) #[true, false, true, false, true, false, true, false, true, false, true, false, false, true, false, false, true, false, true, false, false, false] rfl rfl (dD HT_.out (by kernel_rfl)) (fun _ _ _ h => h) (Or.inl ⟨by rfl, ?_⟩) ?_ ?_
 rotate_left
 ·intro w'
  go_simp
  with_reducible rfl
 rotate_left
 ·simp only [Act.put, List.setIfInBounds_toArray, List.set_cons_zero, List.set_cons_succ, bI, bM]
  rfl
 refine jT (i := 1) (N := some 4) (v := ?_) (a' := ?_) #[true, true, true, false, true, false, true, false, true, false, true, false, false, true, false, false, true, false, true, false, false, false] rfl rfl (fM HT_.out HW_.out (by kernel_rfl)) (fun _ _ _ h => h) (Or.inl ⟨by rfl, ?_⟩) hHeld ?_ ?_
 rotate_left
 ·rintro w' ⟨s0, s1, s2, s3, s4, s5, s6, s7, s8⟩
  go_simp
  with_reducible rfl
 rotate_left
 ·simp only [Act.put, List.setIfInBounds_toArray, List.set_cons_zero, List.set_cons_succ, bI, bM]
  rfl
 refine jT (i := 3) (N := some 6) (v := ?_) (a' := ?_) #[true, true, true, true, true, false, true, false, true, false, true, false, false, true, false, false, true, false, true, false, false, false] rfl rfl (fM HT_.out HW_.out (by kernel_rfl)) (fun _ _ _ h => h) (Or.inl ⟨by rfl, ?_⟩) hHeld ?_ ?_
 rotate_left
 ·rintro w' ⟨s0, s1, s2, s3, s4, s5, s6, s7, s8⟩
  go_simp
  with_reducible rfl
 rotate_left
 ·simp only [Act.put, List.setIfInBounds_toArray, List.set_cons_zero, List.set_cons_succ, bI, bM]
  rfl
 refine jT (i := 5) (N := some 8) (v := ?_) (a' := ?_) #[true, true, true, true, true, true, true, false, true, false, true, false, false, true, false, false, true, false, true, false, false, false] rfl rfl (fM HT_.out HW_.out (by kernel_rfl)) (fun _ _ _ h => h) (Or.inl ⟨by rfl, ?_⟩) hHeld ?_ ?_
 rotate_left
 ·rintro w' ⟨s0, s1, s2, s3, s4, s5, s6, s7, s8⟩
  go_simp
  with_reducible rfl
 rotate_left
 ·simp only [Act.put, List.setIfInBounds_toArray, List.set_cons_zero, List.set_cons_succ, bI, bM]
  rfl
 refine jT (i := 7) (N := some 10) (v := ?_) (a' := ?_) #[true, true, true, true, true, true, true, true, true, false, true, false, false, true, false, false, true, false, true, false, false, false] rfl rfl (fM HT_.out HW_.out (by kernel_rfl)) (fun _ _ _ h => h) (Or.inl ⟨by rfl, ?_⟩) hHeld ?_ ?_
 rotate_left
 ·rintro w' ⟨s0, s1, s2, s3, s4, s5, s6, s7, s8⟩
  go_simp
  with_reducible rfl
 rotate_left
 ·simp only [Act.put, List.setIfInBounds_toArray, List.set_cons_zero, List.set_cons_succ, bI, bM]
  rfl
 refine jT (i := 9) (N := some 12) (v := ?_) (a' := ?_) #[true, true, true, true, true, true, true, true, true, true, true, false, false, true, false, false, true, false, true, false, false, false] rfl rfl (fM HT_.out HW_.out (by kernel_rfl)) (fun _ _ _ h => h) (Or.inl ⟨by rfl, ?_⟩) hHeld ?_ ?_
 rotate_left
 ·rintro w' ⟨s0, s1, s2, s3, s4, s5, s6, s7, s8⟩
  go_simp
  with_reducible rfl
 rotate_left
 ·simp only [Act.put, List.setIfInBounds_toArray, List.set_cons_zero, List.set_cons_succ, bI, bM]
  rfl
 refine jT (i := 11) (N := some 14) (v := ?_) (a' := ?_) #[true, true, true, true, true, true, true, true, true, true, true, true, false, true, false, false, true, false, true, false, false, false] rfl rfl (fM HT_.out HW_.out (by kernel_rfl)) (fun _ _ _ h => h) (Or.inl ⟨by rfl, ?_⟩) hHeld ?_ ?_
 rotate_left
 ·rintro w' ⟨s0, s1, s2, s3, s4, s5, s6, s7, s8⟩
  go_simp
  with_reducible rfl
 rotate_left
 ·simp only [Act.put, List.setIfInBounds_toArray, List.set_cons_zero, List.set_cons_succ, bI, bM]
  rfl
 refine jT (i := 14) (N := some 17) (v := ?_) (a' := ?_) #[true, true, true, true, true, true, true, true, true, true, true, true, false, true, true, false, true, false, true, false, false, false] rfl rfl (fM HT_.out HW_.out (by kernel_rfl)) (fun _ _ _ h => h) (Or.inl ⟨by rfl, ?_⟩) hHeld ?_ ?_
 rotate_left
 ·rintro w' ⟨s0, s1, s2, s3, s4, s5, s6, s7, s8⟩
  go_simp
  with_reducible rfl
 rotate_left
 ·simp only [Act.put, List.setIfInBounds_toArray, List.set_cons_zero, List.set_cons_succ, bI, bM]
  rfl
 refine jT (i := 17) (N := some 20) (v := ?_) (a' := ?_) #[true, true, true, true, true, true, true, true, true, true, true, true, false, true, true, false, true, true, true, false, false, false] rfl rfl (fM HT_.out HW_.out (by kernel_rfl)) (fun _ _ _ h => h) (Or.inl ⟨by rfl, ?_⟩) hHeld ?_ ?_
 rotate_left
 ·rintro w' ⟨s0, s1, s2, s3, s4, s5, s6, s7, s8⟩
  go_simp
  with_reducible rfl
 rotate_left
 ·simp only [Act.put, List.setIfInBounds_toArray, List.set_cons_zero, List.set_cons_succ, bI, bM]
  rfl
 refine jT (i := 19) (N := some 22) (v := ?_) (a' := ?_) #[true, true, true, true, true, true, true, true, true, true, true, true, false, true, true, false, true, true, true, true, false, false] rfl rfl (fM HT_.out HW_.out (by kernel_rfl)) (fun _ _ _ h => h) (Or.inl ⟨by rfl, ?_⟩) hHeld ?_ ?_
 rotate_left
 ·rintro w' ⟨s0, s1, s2, s3, s4, s5, s6, s7, s8⟩
  go_simp
  with_reducible rfl
 rotate_left
 ·simp only [Act.put, List.setIfInBounds_toArray, List.set_cons_zero, List.set_cons_succ, bI, bM]
  rfl
 refine o9 (i := 12) (N := some 15) #[true, true, true, true, true, true, true, true, true, true, true, true, true, true, true, false, true, true, true, true, false, false] rfl rfl (jD HT_.out (by kernel_rfl)) (by decide) (fun K hK => ?_)
 refine ql Try.func87 (by kernel_rfl) rfl #[.slice iO dJ.length iP] (by rfl) rfl rfl (by (try simp only [List.map_toArray, List.map_cons, List.map_nil]); first | done | rfl | (simp only [List.length_drop, List.length_take]; rfl)) ?_
 with_reducible refine (tidepolelaw25_spans.calls k _ _ dJ dZ _ ?dK ?dL A2.out).mono ?_
 (case dK => exact Kd.jV (Kd.bT nX.out HB.out))
 (case dL => exact nY.out)
 rintro e w7 ⟨xH, rfl, ho0, hb⟩
 refine ⟨_, rfl, ?_⟩
 have fZ := ah (Kd.zX (by (with_reducible repeat (first | apply Kd.sD | apply Kd.sF | apply Kd.sU)); exact uF.out) (Kd.iI ho0) hb)
 have gG := ah (Kd.zX (by (with_reducible repeat (first | apply Kd.sD | apply Kd.sF | apply Kd.sU)); exact uG.out) (Kd.iI ho0) hb)
 have iC := ah (Kd.dh (Kd.QG (M := fun k_ => (w.heap.size ≤ k_)) ho0 (aQ (by repeat (first | (with_reducible first | exact HB.out | refine bJ ?_ | refine aA ?_ dH.out | refine aA ?_ bU.out) | exact HB.out))) (fun k_ h_ => h_)) (aQ (by repeat (first | (with_reducible first | exact HB.out | refine bJ ?_ | refine aA ?_ dH.out | refine aA ?_ bU.out) | exact HB.out))))
 have jg := ah (eH aN.out hb)
 have kF := ah (eH aJ.out hb)
 have mJ := ah (aZ (by repeat (first | (with_reducible first | exact HB.out | refine bJ ?_ | refine aA ?_ dH.out | refine aA ?_ bU.out) | exact HB.out)) hb)
 clear uF
 clear uG
 clear aN
 clear aJ
 clear HB
 have uF := fZ
 have uG := gG
 have eF := iC
 have aN := jg
 have aJ := kF
 have HB := mJ
 clear fZ gG iC jg kF mJ
 (try clear hb)
 (try clear hb2)
 (try clear hk)
 (try clear hi)
 (try clear ho0)
 refine hK.out _ _ ⟨(au aN.out 0).trans rfl, (au aN.out 1).trans rfl, (au aN.out 2).trans rfl, (au aN.out 3).trans rfl, (au aN.out 4).trans rfl, (au aN.out 5).trans rfl, (au aN.out 6).trans rfl, (au aN.out 7).trans rfl, (au aN.out 8).trans rfl⟩ (fun hHeld => ?_)
 clear hK K
 refine jo (a' := ?_) ?_ ?_
 rotate_left
 ·show Act.put _ (some 15) _ = _
  simp only [Act.put, List.setIfInBounds_toArray, List.set_cons_zero, List.set_cons_succ, bI, bM]
  rfl
 refine o9 (i := 15) (N := some 18) #[true, true, true, true, true, true, true, true, true, true, true, true, true, true, true, true, true, true, true, true, false, false] rfl rfl (jD HT_.out (by kernel_rfl)) (by decide) (fun K hK => ?_)
 refine ql Try.func87 (by kernel_rfl) rfl #[.slice iJ dG.length iK] (by rfl) rfl rfl (by (try simp only [List.map_toArray, List.map_cons, List.map_nil]); first | done | rfl | (simp only [List.length_drop, List.length_take]; rfl)) ?_
 with_reducible refine (tidepolelaw25_spans.calls k _ _ dG fQ _ ?dK ?dL A3.out).mono ?_
 (case dK => exact Kd.jV (Kd.bT oW.out HB.out))
 (case dL => exact oZ.out)
 rintro e w8 ⟨v107, rfl, ho0, hb⟩
 refine ⟨_, rfl, ?_⟩
 have fZ := ah (Kd.zX (by (with_reducible repeat (first | apply Kd.sD | apply Kd.sF | apply Kd.sU)); exact uF.out) (Kd.iI ho0) hb)
 have gG := ah (Kd.zX (by (with_reducible repeat (first | apply Kd.sD | apply Kd.sF | apply Kd.sU)); exact uG.out) (Kd.iI ho0) hb)
 have iC := ah (Kd.fV (Kd.fJ eF.out) (Kd.iI ho0) hb)
 have jg := ah (Kd.dh (Kd.jh (Kd.QG (M := fun k_ => (w.heap.size ≤ k_)) ho0 (aQ (by repeat (first | (with_reducible first | exact HB.out | refine bJ ?_ | refine aA ?_ dH.out | refine aA ?_ bU.out) | exact HB.out))) (fun k_ h_ => h_)) (Kd.kW (Kd.fJ eF.out))) (aQ (by repeat (first | (with_reducible first | exact HB.out | refine bJ ?_ | refine aA ?_ dH.out | refine aA ?_ bU.out) | exact HB.out))))
 have kF := ah (eH aN.out hb)
 have mJ := ah (eH aJ.out hb)
 have LK := ah (aZ (by repeat (first | (with_reducible first | exact HB.out | refine bJ ?_ | refine aA ?_ dH.out | refine aA ?_ bU.out) | exact HB.out)) hb)
 clear uF
 clear uG
 clear eF
 clear aN
 clear aJ
 clear HB
 have uF := fZ
 have uG := gG
 have eF := iC
 have iQ := jg
 have aN := kF
 have aJ := mJ
 have HB := LK
 clear fZ gG iC jg kF mJ LK
 (try clear hb)
 (try clear hb2)
 (try clear hk)
 (try clear hi)
 (try clear ho0)
 obtain ⟨JI, Jc, Rx⟩ := Kd.dw iQ.out
 (first | subst Rx | (injection Rx with pG uY pI; have uZ := pG.symm; have vg := pI.symm; clear pG uY pI; subst uZ; subst vg))
 obtain ⟨tK, tN, Kv⟩ := Kd.dw eF.out
 (first | subst Kv | (injection Kv with pG uY pI; have uZ := pG.symm; have vg := pI.symm; clear pG uY pI; subst uZ; subst vg))
 refine hK.out _ _ ⟨(au aN.out 0).trans rfl, (au aN.out 1).trans rfl, (au aN.out 2).trans rfl, (au aN.out 3).trans rfl, (au aN.out 4).trans rfl, (au aN.out 5).trans rfl, (au aN.out 6).trans rfl, (au aN.out 7).trans rfl, (au aN.out 8).trans rfl⟩ (fun hHeld => ?_)
 clear hK K
 refine jo (a' := ?_) ?_ ?_
 rotate_left
 ·show Act.put _ (some 18) _ = _
  simp only [Act.put, List.setIfInBounds_toArray, List.set_cons_zero, List.set_cons_succ, bI, bM]
  rfl
 refine dX (i := 20) (N := some 23) (v := ?_) (a' := ?_) #[true, true, true, true, true, true, true, true, true, true, true, true, true, true, true, true, true, true, true, true, true, false] rfl rfl (dD HT_.out (by kernel_rfl)) (fun _ _ _ h => h) (Or.inl ⟨by rfl, ?_⟩) ?_ ?_
 rotate_left
 ·intro w'
  go_simp
  with_reducible rfl
 rotate_left
 ·simp only [Act.put, List.setIfInBounds_toArray, List.set_cons_zero, List.set_cons_succ, bI, bM]
  rfl
 refine o9 (i := 21) (N := none) #[true, true, true, true, true, true, true, true, true, true, true, true, true, true, true, true, true, true, true, true, true, true] rfl rfl (jD HT_.out (by kernel_rfl)) (by decide) (fun K hK => ?_)
 have hs11 : w8.cell? ⟨aI, 0, none⟩ = some (.int .i64 0) := (au aJ.out 0).trans rfl
 have afl := aC aJ.out 0
 have abQ := aT.out
 have abR := fB.out
 have agM : w8.cell? ⟨aI, 1, none⟩ = some (.int .u64 0) := (au aJ.out 1).trans rfl
 have afm := aC aJ.out 1
 have abS := aT.out
 have abT := fB.out
 have agN : w8.cell? ⟨aI, 2, none⟩ = some (.int .u64 0) := (au aJ.out 2).trans rfl
 have afn := aC aJ.out 2
 have abU := aT.out
 have abV := fB.out
 have agO : w8.cell? ⟨aI, 3, none⟩ = some (.int .u64 0) := (au aJ.out 3).trans rfl
 have afo := aC aJ.out 3
 have abW := aT.out
 have abX := fB.out
 have Ym : w8.cell? ⟨aI, 4, none⟩ = some (.int .u64 0) := (au aJ.out 4).trans rfl
 have afp := aC aJ.out 4
 have abY := aT.out
 have abZ := fB.out
 have agP : w8.cell? ⟨aI, 5, none⟩ = some (.slice none 0 0) := (au aJ.out 5).trans rfl
 have afq := aC aJ.out 5
 have ab1 := aT.out
 have ab2 := fB.out
 have agQ : w8.cell? ⟨aI, 6, none⟩ = some (.slice none 0 0) := (au aJ.out 6).trans rfl
 have afr := aC aJ.out 6
 have ab3 := aT.out
 have ab4 := fB.out
 have agR : w8.cell? ⟨aI, 7, none⟩ = some (.slice none 0 0) := (au aJ.out 7).trans rfl
 have afs := aC aJ.out 7
 have ab5 := aT.out
 have ab6 := fB.out
 have agS : w8.cell? ⟨aI, 8, none⟩ = some (.slice none 0 0) := (au aJ.out 8).trans rfl
 have aft := aC aJ.out 8
 have ab7 := aT.out
 have ab8 := fB.out
 refine Vm (w1 := ?_) (by rfl) rfl ?_ ?_
 rotate_left
 ·go_simp
  rfl
 refine hK.out _ _ ⟨((cell_far (p := ⟨aI, _, none⟩) aT.out _).trans (((cell_far (p := ⟨aI, _, none⟩) aT.out _).trans (((cell_far (p := ⟨aI, _, none⟩) aT.out _).trans (((cell_far (p := ⟨aI, _, none⟩) aT.out _).trans (((cell_far (p := ⟨aI, _, none⟩) aT.out _).trans (((cell_far (p := ⟨aI, _, none⟩) aT.out _).trans (((cell_far (p := ⟨aI, _, none⟩) aT.out _).trans (((cell_far (p := ⟨aI, _, none⟩) aT.out _).trans (((cell_far (p := ⟨aI, _, none⟩) aT.out _).trans (hHeld.1)))))))))))))))))), ((cell_far (p := ⟨aI, _, none⟩) aT.out _).trans (((cell_far (p := ⟨aI, _, none⟩) aT.out _).trans (((cell_far (p := ⟨aI, _, none⟩) aT.out _).trans (((cell_far (p := ⟨aI, _, none⟩) aT.out _).trans (((cell_far (p := ⟨aI, _, none⟩) aT.out _).trans (((cell_far (p := ⟨aI, _, none⟩) aT.out _).trans (((cell_far (p := ⟨aI, _, none⟩) aT.out _).trans (((cell_far (p := ⟨aI, _, none⟩) aT.out _).trans (((cell_far (p := ⟨aI, _, none⟩) aT.out _).trans (hHeld.2.1)))))))))))))))))), ((cell_far (p := ⟨aI, _, none⟩) aT.out _).trans (((cell_far (p := ⟨aI, _, none⟩) aT.out _).trans (((cell_far (p := ⟨aI, _, none⟩) aT.out _).trans (((cell_far (p := ⟨aI, _, none⟩) aT.out _).trans (((cell_far (p := ⟨aI, _, none⟩) aT.out _).trans (((cell_far (p := ⟨aI, _, none⟩) aT.out _).trans (((cell_far (p := ⟨aI, _, none⟩) aT.out _).trans (((cell_far (p := ⟨aI, _, none⟩) aT.out _).trans (((cell_far (p := ⟨aI, _, none⟩) aT.out _).trans (hHeld.2.2.1)))))))))))))))))), ((cell_far (p := ⟨aI, _, none⟩) aT.out _).trans (((cell_far (p := ⟨aI, _, none⟩) aT.out _).trans (((cell_far (p := ⟨aI, _, none⟩) aT.out _).trans (((cell_far (p := ⟨aI, _, none⟩) aT.out _).trans (((cell_far (p := ⟨aI, _, none⟩) aT.out _).trans (((cell_far (p := ⟨aI, _, none⟩) aT.out _).trans (((cell_far (p := ⟨aI, _, none⟩) aT.out _).trans (((cell_far (p := ⟨aI, _, none⟩) aT.out _).trans (((cell_far (p := ⟨aI, _, none⟩) aT.out _).trans (hHeld.2.2.2.1)))))))))))))))))), ((cell_far (p := ⟨aI, _, none⟩) aT.out _).trans (((cell_far (p := ⟨aI, _, none⟩) aT.out _).trans (((cell_far (p := ⟨aI, _, none⟩) aT.out _).trans (((cell_far (p := ⟨aI, _, none⟩) aT.out _).trans (((cell_far (p := ⟨aI, _, none⟩) aT.out _).trans (((cell_far (p := ⟨aI, _, none⟩) aT.out _).trans (((cell_far (p := ⟨aI, _, none⟩) aT.out _).trans (((cell_far (p := ⟨aI, _, none⟩) aT.out _).trans (((cell_far (p := ⟨aI, _, none⟩) aT.out _).trans (hHeld.2.2.2.2.1)))))))))))))))))), ((cell_far (p := ⟨aI, _, none⟩) aT.out _).trans (((cell_far (p := ⟨aI, _, none⟩) aT.out _).trans (((cell_far (p := ⟨aI, _, none⟩) aT.out _).trans (((cell_far (p := ⟨aI, _, none⟩) aT.out _).trans (((cell_far (p := ⟨aI, _, none⟩) aT.out _).trans (((cell_far (p := ⟨aI, _, none⟩) aT.out _).trans (((cell_far (p := ⟨aI, _, none⟩) aT.out _).trans (((cell_far (p := ⟨aI, _, none⟩) aT.out _).trans (((cell_far (p := ⟨aI, _, none⟩) aT.out _).trans (hHeld.2.2.2.2.2.1)))))))))))))))))), ((cell_far (p := ⟨aI, _, none⟩) aT.out _).trans (((cell_far (p := ⟨aI, _, none⟩) aT.out _).trans (((cell_far (p := ⟨aI, _, none⟩) aT.out _).trans (((cell_far (p := ⟨aI, _, none⟩) aT.out _).trans (((cell_far (p := ⟨aI, _, none⟩) aT.out _).trans (((cell_far (p := ⟨aI, _, none⟩) aT.out _).trans (((cell_far (p := ⟨aI, _, none⟩) aT.out _).trans (((cell_far (p := ⟨aI, _, none⟩) aT.out _).trans (((cell_far (p := ⟨aI, _, none⟩) aT.out _).trans (hHeld.2.2.2.2.2.2.1)))))))))))))))))), ((cell_far (p := ⟨aI, _, none⟩) aT.out _).trans (((cell_far (p := ⟨aI, _, none⟩) aT.out _).trans (((cell_far (p := ⟨aI, _, none⟩) aT.out _).trans (((cell_far (p := ⟨aI, _, none⟩) aT.out _).trans (((cell_far (p := ⟨aI, _, none⟩) aT.out _).trans (((cell_far (p := ⟨aI, _, none⟩) aT.out _).trans (((cell_far (p := ⟨aI, _, none⟩) aT.out _).trans (((cell_far (p := ⟨aI, _, none⟩) aT.out _).trans (((cell_far (p := ⟨aI, _, none⟩) aT.out _).trans (hHeld.2.2.2.2.2.2.2.1)))))))))))))))))), ((cell_far (p := ⟨aI, _, none⟩) aT.out _).trans (((cell_far (p := ⟨aI, _, none⟩) aT.out _).trans (((cell_far (p := ⟨aI, _, none⟩) aT.out _).trans (((cell_far (p := ⟨aI, _, none⟩) aT.out _).trans (((cell_far (p := ⟨aI, _, none⟩) aT.out _).trans (((cell_far (p := ⟨aI, _, none⟩) aT.out _).trans (((cell_far (p := ⟨aI, _, none⟩) aT.out _).trans (((cell_far (p := ⟨aI, _, none⟩) aT.out _).trans (((cell_far (p := ⟨aI, _, none⟩) aT.out _).trans (hHeld.2.2.2.2.2.2.2.2))))))))))))))))))⟩ (fun hHeld => ?_)
 clear hK K
 refine y9 (su HT_.out (by kernel_rfl)) ?_
 try go_wp2
 refine bodyPost_ret (results_cell_row rfl _ _ aI 60 #[.int .i64 cO, .int .u64 dF, .int .u64 dO, .int .u64 dP, .int .u64 dM, .slice tK dZ.length tN, .slice JI fQ.length Jc, .slice iw dB.length iy, .slice iD dA.length iE] (0, 0) _ rfl (by (repeat with_reducible refine bQ ?_); refine bC (cs := #[.int .i64 cO, .int .u64 dF, .int .u64 dO, .int .u64 dP, .int .u64 dM, .slice tK dZ.length tN, .slice JI fQ.length Jc, .slice iw dB.length iy, .slice none 0 0]) ?_ 8 _ rfl; (repeat with_reducible refine bQ ?_); refine bC (cs := #[.int .i64 cO, .int .u64 dF, .int .u64 dO, .int .u64 dP, .int .u64 dM, .slice tK dZ.length tN, .slice JI fQ.length Jc, .slice none 0 0, .slice none 0 0]) ?_ 7 _ rfl; (repeat with_reducible refine bQ ?_); refine bC (cs := #[.int .i64 cO, .int .u64 dF, .int .u64 dO, .int .u64 dP, .int .u64 dM, .slice tK dZ.length tN, .slice none 0 0, .slice none 0 0, .slice none 0 0]) ?_ 6 _ rfl; (repeat with_reducible refine bQ ?_); refine bC (cs := #[.int .i64 cO, .int .u64 dF, .int .u64 dO, .int .u64 dP, .int .u64 dM, .slice none 0 0, .slice none 0 0, .slice none 0 0, .slice none 0 0]) ?_ 5 _ rfl; (repeat with_reducible refine bQ ?_); refine bC (cs := #[.int .i64 cO, .int .u64 dF, .int .u64 dO, .int .u64 dP, .int .u64 0, .slice none 0 0, .slice none 0 0, .slice none 0 0, .slice none 0 0]) ?_ 4 _ rfl; (repeat with_reducible refine bQ ?_); refine bC (cs := #[.int .i64 cO, .int .u64 dF, .int .u64 dO, .int .u64 0, .int .u64 0, .slice none 0 0, .slice none 0 0, .slice none 0 0, .slice none 0 0]) ?_ 3 _ rfl; (repeat with_reducible refine bQ ?_); refine bC (cs := #[.int .i64 cO, .int .u64 dF, .int .u64 0, .int .u64 0, .int .u64 0, .slice none 0 0, .slice none 0 0, .slice none 0 0, .slice none 0 0]) ?_ 2 _ rfl; (repeat with_reducible refine bQ ?_); refine bC (cs := #[.int .i64 cO, .int .u64 0, .int .u64 0, .int .u64 0, .int .u64 0, .slice none 0 0, .slice none 0 0, .slice none 0 0, .slice none 0 0]) ?_ 1 _ rfl; (repeat with_reducible refine bQ ?_); refine bC (cs := #[.int .i64 0, .int .u64 0, .int .u64 0, .int .u64 0, .int .u64 0, .slice none 0 0, .slice none 0 0, .slice none 0 0, .slice none 0 0]) ?_ 0 _ rfl; (repeat with_reducible refine bQ ?_); exact aJ.out) Try.underlying60 rfl (by kernel_rfl)) rfl ?_
 exact ⟨_, _, _, _, by first | rfl | (simp [aU, aV] <;> rfl) | (simp [*, aU, aV] <;> rfl), by (repeat with_reducible refine Kd.kQ ?_); exact Kd.bZ (Kd.cu (p := ⟨aI, 8, none⟩) (Kd.cu (p := ⟨aI, 7, none⟩) (Kd.cu (p := ⟨aI, 6, none⟩) (Kd.cu (p := ⟨aI, 5, none⟩) (Kd.cu (p := ⟨aI, 4, none⟩) (Kd.cu (p := ⟨aI, 3, none⟩) (Kd.cu (p := ⟨aI, 2, none⟩) (Kd.cu (p := ⟨aI, 1, none⟩) (Kd.cu (p := ⟨aI, 0, none⟩) (Kd.iH eF.out aJ.out (by decide)) (fun _ hk => hk.2) (.int .i64 cO)) (fun _ hk => hk.2) (.int .u64 dF)) (fun _ hk => hk.2) (.int .u64 dO)) (fun _ hk => hk.2) (.int .u64 dP)) (fun _ hk => hk.2) (.int .u64 dM)) (fun _ hk => hk.2) (.slice tK dZ.length tN)) (fun _ hk => hk.2) (.slice JI fQ.length Jc)) (fun _ hk => hk.2) (.slice iw dB.length iy)) (fun _ hk => hk.2) (.slice iD dA.length iE)) (fun _ hk => ⟨hk.1.1.1, hk.1.2⟩), by (repeat with_reducible refine Kd.kQ ?_); exact Kd.bZ (Kd.cu (p := ⟨aI, 8, none⟩) (Kd.cu (p := ⟨aI, 7, none⟩) (Kd.cu (p := ⟨aI, 6, none⟩) (Kd.cu (p := ⟨aI, 5, none⟩) (Kd.cu (p := ⟨aI, 4, none⟩) (Kd.cu (p := ⟨aI, 3, none⟩) (Kd.cu (p := ⟨aI, 2, none⟩) (Kd.cu (p := ⟨aI, 1, none⟩) (Kd.cu (p := ⟨aI, 0, none⟩) (Kd.iH iQ.out aJ.out (by decide)) (fun _ hk => hk.2) (.int .i64 cO)) (fun _ hk => hk.2) (.int .u64 dF)) (fun _ hk => hk.2) (.int .u64 dO)) (fun _ hk => hk.2) (.int .u64 dP)) (fun _ hk => hk.2) (.int .u64 dM)) (fun _ hk => hk.2) (.slice tK dZ.length tN)) (fun _ hk => hk.2) (.slice JI fQ.length Jc)) (fun _ hk => hk.2) (.slice iw dB.length iy)) (fun _ hk => hk.2) (.slice iD dA.length iE)) (fun _ hk => ⟨hk.1.1.1, hk.1.2⟩), by (with_reducible repeat (first | apply Kd.sD | apply Kd.sF | apply Kd.sU)); exact Kd.BN (Kd.rE (p := ⟨aI, 8, none⟩) (Kd.rE (p := ⟨aI, 7, none⟩) (Kd.rE (p := ⟨aI, 6, none⟩) (Kd.rE (p := ⟨aI, 5, none⟩) (Kd.rE (p := ⟨aI, 4, none⟩) (Kd.rE (p := ⟨aI, 3, none⟩) (Kd.rE (p := ⟨aI, 2, none⟩) (Kd.rE (p := ⟨aI, 1, none⟩) (Kd.rE (p := ⟨aI, 0, none⟩) (Kd.BN uF.out (fun k_ hk => (⟨hk, hk.1.1.2⟩ : _ ∧ k_ ≠ aI))) (fun _ hk => hk.2) (.int .i64 cO)) (fun _ hk => hk.2) (.int .u64 dF)) (fun _ hk => hk.2) (.int .u64 dO)) (fun _ hk => hk.2) (.int .u64 dP)) (fun _ hk => hk.2) (.int .u64 dM)) (fun _ hk => hk.2) (.slice tK dZ.length tN)) (fun _ hk => hk.2) (.slice JI fQ.length Jc)) (fun _ hk => hk.2) (.slice iw dB.length iy)) (fun _ hk => hk.2) (.slice iD dA.length iE)) (fun _ hk => ⟨hk.1.1.1.1.1, ⟨hk.1.1.2, hk.1.2⟩⟩), by (with_reducible repeat (first | apply Kd.sD | apply Kd.sF | apply Kd.sU)); exact Kd.BN (Kd.rE (p := ⟨aI, 8, none⟩) (Kd.rE (p := ⟨aI, 7, none⟩) (Kd.rE (p := ⟨aI, 6, none⟩) (Kd.rE (p := ⟨aI, 5, none⟩) (Kd.rE (p := ⟨aI, 4, none⟩) (Kd.rE (p := ⟨aI, 3, none⟩) (Kd.rE (p := ⟨aI, 2, none⟩) (Kd.rE (p := ⟨aI, 1, none⟩) (Kd.rE (p := ⟨aI, 0, none⟩) (Kd.BN uG.out (fun k_ hk => (⟨hk, hk.1.1.2⟩ : _ ∧ k_ ≠ aI))) (fun _ hk => hk.2) (.int .i64 cO)) (fun _ hk => hk.2) (.int .u64 dF)) (fun _ hk => hk.2) (.int .u64 dO)) (fun _ hk => hk.2) (.int .u64 dP)) (fun _ hk => hk.2) (.int .u64 dM)) (fun _ hk => hk.2) (.slice tK dZ.length tN)) (fun _ hk => hk.2) (.slice JI fQ.length Jc)) (fun _ hk => hk.2) (.slice iw dB.length iy)) (fun _ hk => hk.2) (.slice iD dA.length iE)) (fun _ hk => ⟨hk.1.1.1.1.1, ⟨hk.1.1.2, hk.1.2⟩⟩), by repeat (first | (with_reducible first | exact HB.out | apply ak | apply ay | apply aH | refine aA ?_ dH.out | refine aA ?_ bU.out) | exact HB.out)⟩
end Go.Proofs.Ytooiccpmngmapaa.P
namespace Go.Proofs.Ytooiccpmngmapaa.P
open Go.RowKit Go.Shelf Go.Proofs.YtooiccpmngmapaaW.PrintWords Go.Proofs.YtooiccpmngmapaaW.PrintLast Go.Proofs.YtooiccpmngmapaaW.PrintMore
def GR (w : World) (v : Value) (h : Fh) : Prop :=
 ∃ v5 v6 v7 v8, v = .agg #[.int .i64 h.f0, .int .u64 h.f1, .int .u64 h.f2, .int .u64 h.f3, .int .u64 h.f4, v5, v6, v7, v8] ∧ SI kRsp w v5 (h.f5.map toR) ∧ SI kRsp w v6 (h.f6.map toR) ∧ SI (Kd.int .u64) w v7 h.f7 ∧ SI (Kd.int .u64) w v8 h.f8
theorem GR.below {w w' : World} {v : Value} {h : Fh} (x : GR w v h) (hb : Below w.heap.size w w') : GR w' v h := by
 obtain ⟨v5, v6, v7, v8, e, h5, h6, h7, h8⟩ := x
 exact ⟨v5, v6, v7, v8, e, h5.below hb, h6.below hb, h7.below hb, h8.below hb⟩
theorem GR.open_ {w : World} {v : Value} {h : Fh} (x : GR w v h) : ∃ A5 c5 A6 c6 A7 c7 A8 c8, v = .agg #[.int .i64 h.f0, .int .u64 h.f1, .int .u64 h.f2, .int .u64 h.f3, .int .u64 h.f4, .slice A5 h.f5.length c5, .slice A6 h.f6.length c6, .slice A7 h.f7.length c7, .slice A8 h.f8.length c8] ∧
  SI kRsp w (.slice A5 h.f5.length c5) (h.f5.map toR) ∧ SI kRsp w (.slice A6 h.f6.length c6) (h.f6.map toR) ∧ SI (Kd.int .u64) w (.slice A7 h.f7.length c7) h.f7 ∧ SI (Kd.int .u64) w (.slice A8 h.f8.length c8) h.f8 := by
 obtain ⟨v5, v6, v7, v8, rfl, h5, h6, h7, h8⟩ := x
 obtain ⟨A5, c5, rfl, KG, KH⟩ := h5
 obtain ⟨A6, c6, rfl, KI, KJ⟩ := h6
 obtain ⟨A7, c7, rfl, KL, h72⟩ := h7
 obtain ⟨A8, c8, rfl, KO, KP⟩ := h8
 rw [List.length_map]
 rw [List.length_map]
 refine ⟨A5, c5, A6, c6, A7, c7, A8, c8, rfl, ⟨A5, c5, by rw [List.length_map], KG, KH⟩, ⟨A6, c6, by rw [List.length_map], KI, KJ⟩, .of h72 KL, .of KP KO⟩
theorem SI.Vu {w : World} {e : Nat} {A : Option Addr} {c : Nat} {l : List Int} (hc : l.length ≤ c) (hr : (Kd.int .u64).C w A l.length l) : Kd.V (Kd.int .u64) e w w.heap.size (fun k_ => (fun k => k < w.heap.size) k_) (.slice A l.length c) l := ⟨_, _, rfl, hc, Kd.C_F (Kd.JO .u64) hr⟩
theorem SI.Wi {e : Nat} {w : World} {base : Nat} {ok : Nat → Prop} {v : Value} {l : List Int} (h : Kd.V (Kd.int .u64) e w base ok v l) : SI (Kd.int .u64) w v l := by
 obtain ⟨A, c, rfl, hc, hf⟩ := h
 exact .of (hf w (fun _ _ _ => rfl)) hc
set_option maxHeartbeats 8000000 in
set_option maxRecDepth 100000 in
theorem N7 (h : Fh) (hw5 : kU h.f5) (hw6 : kU h.f6) : ∃ b : Bool, (b = true → h.f5.length ≤ 400 ∧ h.f6.length ≤ 400 ∧ h.f7.length ≤ 200 ∧ h.f8.length ≤ 200) ∧ ∀ (w : World) (v : Value), GI w v h → Calls Try.prog 32 #[v] w fun e w' => e = .returned (.bool b) ∧ Below w.heap.size w w' := by
  obtain ⟨b1, hb1, c1⟩ := OT h.f5 hw5
  obtain ⟨b2, hb2, c2⟩ := OT h.f6 hw6
  have C1 := ah c1
  have C2 := ah c2
  have hu := Try.underlying55
  clear c1 c2
  cases b1 with
  | false =>
    refine ⟨false, (fun h => nomatch h), fun w v hv => ?_⟩
    obtain ⟨A5, c5, A6, c6, A7, c7, A8, c8, e, h5, h6, h7, h8⟩ := hv.open_
    subst e
    have B := ah (ak (Below.refl w.heap.size w) (.cells #[.int .i64 h.f0, .int .u64 h.f1, .int .u64 h.f2, .int .u64 h.f3, .int .u64 h.f4, .slice A5 h.f5.length c5, .slice A6 h.f6.length c6, .slice A7 h.f7.length c7, .slice A8 h.f8.length c8] 55))
    have X := ah (rD.new w #[.int .i64 h.f0, .int .u64 h.f1, .int .u64 h.f2, .int .u64 h.f3, .int .u64 h.f4, .slice A5 h.f5.length c5, .slice A6 h.f6.length c6, .slice A7 h.f7.length c7, .slice A8 h.f8.length c8] 55)
    have hx := fun i => X.out.cell i
    have H5 := ah (h5.below B.out)
    have H6 := ah (h6.below B.out)
    clear hv h5 h6 h7 h8
    go_enter Try.func32, Try.ntmps32
    go_wp2_with (first | (go_at_call 72; (with_reducible refine (C1.out _ _ H5.out).mono ?_); rintro e W ⟨rfl, hb⟩; replace B := ah (aG B.out B.out.size hb); replace H5 := ah (H5.out.below hb); replace H6 := ah (H6.out.below hb); replace X := ah (X.out.below hb); replace hx := fun i => X.out.cell i; clear  hb))
    go_ret
    exact ⟨rfl, B.out⟩
  | true =>
    have n1 := hb1 rfl
    cases b2 with
    | false =>
      refine ⟨false, (fun h => nomatch h), fun w v hv => ?_⟩
      obtain ⟨A5, c5, A6, c6, A7, c7, A8, c8, e, h5, h6, h7, h8⟩ := hv.open_
      subst e
      have B := ah (ak (Below.refl w.heap.size w) (.cells #[.int .i64 h.f0, .int .u64 h.f1, .int .u64 h.f2, .int .u64 h.f3, .int .u64 h.f4, .slice A5 h.f5.length c5, .slice A6 h.f6.length c6, .slice A7 h.f7.length c7, .slice A8 h.f8.length c8] 55))
      have X := ah (rD.new w #[.int .i64 h.f0, .int .u64 h.f1, .int .u64 h.f2, .int .u64 h.f3, .int .u64 h.f4, .slice A5 h.f5.length c5, .slice A6 h.f6.length c6, .slice A7 h.f7.length c7, .slice A8 h.f8.length c8] 55)
      have hx := fun i => X.out.cell i
      have H5 := ah (h5.below B.out)
      have H6 := ah (h6.below B.out)
      clear hv h5 h6 h7 h8
      go_enter Try.func32, Try.ntmps32
      go_wp2_with (first | (go_at_call 72; (with_reducible refine (C1.out _ _ H5.out).mono ?_); rintro e W ⟨rfl, hb⟩; replace B := ah (aG B.out B.out.size hb); replace H5 := ah (H5.out.below hb); replace H6 := ah (H6.out.below hb); replace X := ah (X.out.below hb); replace hx := fun i => X.out.cell i; clear  hb) | (go_at_call 72; (with_reducible refine (C2.out _ _ H6.out).mono ?_); rintro e W ⟨rfl, hb⟩; replace B := ah (aG B.out B.out.size hb); replace H5 := ah (H5.out.below hb); replace H6 := ah (H6.out.below hb); replace X := ah (X.out.below hb); replace hx := fun i => X.out.cell i; clear  hb))
      go_ret
      exact ⟨rfl, B.out⟩
    | true =>
      have n2 := hb2 rfl
      by_cases c3 : h.f7.length ≤ 200
      · by_cases c4 : h.f8.length ≤ 200
        · refine ⟨true, fun _ => ⟨n1, n2, c3, c4⟩, fun w v hv => ?_⟩
          have d3 : decide ((h.f7.length : Int) ≤ 200) = true := ahG (by omega)
          have d4 : decide ((h.f8.length : Int) ≤ 200) = true := ahG (by omega)
          clear n1 n2 hb1 hb2
          obtain ⟨A5, c5, A6, c6, A7, c7, A8, c8, e, h5, h6, h7, h8⟩ := hv.open_
          subst e
          have B := ah (ak (Below.refl w.heap.size w) (.cells #[.int .i64 h.f0, .int .u64 h.f1, .int .u64 h.f2, .int .u64 h.f3, .int .u64 h.f4, .slice A5 h.f5.length c5, .slice A6 h.f6.length c6, .slice A7 h.f7.length c7, .slice A8 h.f8.length c8] 55))
          have X := ah (rD.new w #[.int .i64 h.f0, .int .u64 h.f1, .int .u64 h.f2, .int .u64 h.f3, .int .u64 h.f4, .slice A5 h.f5.length c5, .slice A6 h.f6.length c6, .slice A7 h.f7.length c7, .slice A8 h.f8.length c8] 55)
          have hx := fun i => X.out.cell i
          have H5 := ah (h5.below B.out)
          have H6 := ah (h6.below B.out)
          clear hv h5 h6 h7 h8
          go_enter Try.func32, Try.ntmps32
          go_wp2_with (first | (go_at_call 72; (with_reducible refine (C1.out _ _ H5.out).mono ?_); rintro e W ⟨rfl, hb⟩; replace B := ah (aG B.out B.out.size hb); replace H5 := ah (H5.out.below hb); replace H6 := ah (H6.out.below hb); replace X := ah (X.out.below hb); replace hx := fun i => X.out.cell i; clear  hb) | (go_at_call 72; (with_reducible refine (C2.out _ _ H6.out).mono ?_); rintro e W ⟨rfl, hb⟩; replace B := ah (aG B.out B.out.size hb); replace H5 := ah (H5.out.below hb); replace H6 := ah (H6.out.below hb); replace X := ah (X.out.below hb); replace hx := fun i => X.out.cell i; clear  hb))
          go_ret
          exact ⟨rfl, B.out⟩
        · refine ⟨false, (fun h => nomatch h), fun w v hv => ?_⟩
          have d3 : decide ((h.f7.length : Int) ≤ 200) = true := ahG (by omega)
          have d4 : decide ((h.f8.length : Int) ≤ 200) = false := ahH (by omega)
          clear n1 n2 hb1 hb2
          obtain ⟨A5, c5, A6, c6, A7, c7, A8, c8, e, h5, h6, h7, h8⟩ := hv.open_
          subst e
          have B := ah (ak (Below.refl w.heap.size w) (.cells #[.int .i64 h.f0, .int .u64 h.f1, .int .u64 h.f2, .int .u64 h.f3, .int .u64 h.f4, .slice A5 h.f5.length c5, .slice A6 h.f6.length c6, .slice A7 h.f7.length c7, .slice A8 h.f8.length c8] 55))
          have X := ah (rD.new w #[.int .i64 h.f0, .int .u64 h.f1, .int .u64 h.f2, .int .u64 h.f3, .int .u64 h.f4, .slice A5 h.f5.length c5, .slice A6 h.f6.length c6, .slice A7 h.f7.length c7, .slice A8 h.f8.length c8] 55)
          have hx := fun i => X.out.cell i
          have H5 := ah (h5.below B.out)
          have H6 := ah (h6.below B.out)
          clear hv h5 h6 h7 h8
          go_enter Try.func32, Try.ntmps32
          go_wp2_with (first | (go_at_call 72; (with_reducible refine (C1.out _ _ H5.out).mono ?_); rintro e W ⟨rfl, hb⟩; replace B := ah (aG B.out B.out.size hb); replace H5 := ah (H5.out.below hb); replace H6 := ah (H6.out.below hb); replace X := ah (X.out.below hb); replace hx := fun i => X.out.cell i; clear  hb) | (go_at_call 72; (with_reducible refine (C2.out _ _ H6.out).mono ?_); rintro e W ⟨rfl, hb⟩; replace B := ah (aG B.out B.out.size hb); replace H5 := ah (H5.out.below hb); replace H6 := ah (H6.out.below hb); replace X := ah (X.out.below hb); replace hx := fun i => X.out.cell i; clear  hb))
          go_ret
          exact ⟨rfl, B.out⟩
      · refine ⟨false, (fun h => nomatch h), fun w v hv => ?_⟩
        have d3 : decide ((h.f7.length : Int) ≤ 200) = false := ahH (by omega)
        clear n1 n2 hb1 hb2
        obtain ⟨A5, c5, A6, c6, A7, c7, A8, c8, e, h5, h6, h7, h8⟩ := hv.open_
        subst e
        have B := ah (ak (Below.refl w.heap.size w) (.cells #[.int .i64 h.f0, .int .u64 h.f1, .int .u64 h.f2, .int .u64 h.f3, .int .u64 h.f4, .slice A5 h.f5.length c5, .slice A6 h.f6.length c6, .slice A7 h.f7.length c7, .slice A8 h.f8.length c8] 55))
        have X := ah (rD.new w #[.int .i64 h.f0, .int .u64 h.f1, .int .u64 h.f2, .int .u64 h.f3, .int .u64 h.f4, .slice A5 h.f5.length c5, .slice A6 h.f6.length c6, .slice A7 h.f7.length c7, .slice A8 h.f8.length c8] 55)
        have hx := fun i => X.out.cell i
        have H5 := ah (h5.below B.out)
        have H6 := ah (h6.below B.out)
        clear hv h5 h6 h7 h8
        go_enter Try.func32, Try.ntmps32
        go_wp2_with (first | (go_at_call 72; (with_reducible refine (C1.out _ _ H5.out).mono ?_); rintro e W ⟨rfl, hb⟩; replace B := ah (aG B.out B.out.size hb); replace H5 := ah (H5.out.below hb); replace H6 := ah (H6.out.below hb); replace X := ah (X.out.below hb); replace hx := fun i => X.out.cell i; clear  hb) | (go_at_call 72; (with_reducible refine (C2.out _ _ H6.out).mono ?_); rintro e W ⟨rfl, hb⟩; replace B := ah (aG B.out B.out.size hb); replace H5 := ah (H5.out.below hb); replace H6 := ah (H6.out.below hb); replace X := ah (X.out.below hb); replace hx := fun i => X.out.cell i; clear  hb))
        go_ret
        exact ⟨rfl, B.out⟩
theorem N8 (h : Fh) (h5 : h.f5.length < 8796093022208) (h6 : h.f6.length < 8796093022208) (w : World) (v : Value) (hv : GI w v h) : Calls Try.prog 35 #[v] w fun e w' =>
  ∃ v', e = .returned v' ∧ GR w' v' h ∧ Below w.heap.size w w' := by
 obtain ⟨A5, c5, A6, c6, A7, c7, A8, c8, rfl, ⟨_, _, e5, KG, KH⟩, ⟨_, _, e6, KI, KJ⟩, ⟨_, _, e7, KL, h72⟩, ⟨_, _, e8, KO, KP⟩⟩ := hv.open_
 cases e5; cases e6; cases e7; cases e8
 obtain ⟨k, hk⟩ : ∃ k, k = h.f5.length + h.f6.length + 1 := ⟨_, rfl⟩
 refine (tidepolelaw25_floats.calls k h.f0 h.f1 h.f2 h.f3 h.f4 A5 c5 h.f5 A6 c6 h.f6 _ A7 c7 h.f7 _ A8 c8 h.f8 h.f0 h.f1 h.f2 h.f3 h.f4 (h.f5.map toR) (h.f6.map toR) h.f7 h.f8 w KH KG KJ KI (SI.Vu KL h72) (SI.Vu KO KP) ?_).mono ?_
 ·unfold tidepolelaw25_floats.f
  rw [zK _ h5 k (by omega), Option.bind_some, zK _ h6 k (by omega), Option.bind_some]
 ·rintro e w1 ⟨v5, v6, v7, v8, rfl, i5, i6, i7, i8, hb⟩
  exact ⟨_, rfl, ⟨v5, v6, v7, v8, rfl, .rC i5, .rC i6, SI.Wi i7, SI.Wi i8⟩, hb⟩
theorem Gw (a x : Fh) (e tt : Int) (hw : EZ a) (a7 : a.f7.length ≤ 4096) (a8 : a.f8.length ≤ 4096) (ht : i64 tt) (hx : mG a tt = (x, e)) (w : World) (u : Value) (hu : GR w u a) : Calls Try.prog 34 #[u, .int .i64 tt] w fun r w' => ∃ D5x g5x D6x g6x D7x g7x D8x g8x, r = .returned (.tuple #[.agg #[.int .i64 x.f0, .int .u64 x.f1, .int .u64 x.f2, .int .u64 x.f3, .int .u64 x.f4, .slice D5x x.f5.length g5x, .slice D6x x.f6.length g6x, .slice D7x x.f7.length g7x, .slice D8x x.f8.length g8x], .int .i64 e]) ∧ GR w' (.agg #[.int .i64 x.f0, .int .u64 x.f1, .int .u64 x.f2, .int .u64 x.f3, .int .u64 x.f4, .slice D5x x.f5.length g5x, .slice D6x x.f6.length g6x, .slice D7x x.f7.length g7x, .slice D8x x.f8.length g8x]) x ∧ Below w.heap.size w w' := by
 obtain ⟨v5, v6, v7, v8, rfl, ⟨A5, c5, rfl, KG, KH⟩, ⟨A6, c6, rfl, KI, KJ⟩, ⟨A7, c7, rfl, KL, h72⟩, ⟨A8, c8, rfl, KO, KP⟩⟩ := hu
 have he := FU a hw tt ht 17000003 (Nat.le_refl _) a7 a8
 rw [hx] at he
 refine (tidepoleref25_Floats.calls 17000003 a.f0 a.f1 a.f2 a.f3 a.f4 A5 c5 _ A6 c6 _ A7 c7 _ A8 c8 _ tt _ _ _ _ _ _ _ _ _ _ w KH KG KJ KI h72 KL KP KO he).mono ?_
 rintro r w1 ⟨v5, v6, v7, v8, rfl, i5, i6, i7, i8, hb⟩
 have hr : GR w1 (.agg #[.int .i64 x.f0, .int .u64 x.f1, .int .u64 x.f2, .int .u64 x.f3, .int .u64 x.f4, v5, v6, v7, v8]) x := ⟨v5, v6, v7, v8, rfl, .rC i5, .rC i6, .rC i7, .rC i8⟩
 obtain ⟨D5, g5, D6, g6, D7, g7, D8, g8, ev, -⟩ := hr.open_
 rw [ev] at hr
 refine ⟨D5, g5, D6, g6, D7, g7, D8, g8, ?_, hr, hb⟩
 rw [← ev]
theorem N9 (l : List eP) (hl : l.length < 4398046511104) : tidepoleref06_Span.f (l.length + 1) l l = some true := by
  have hgo : ∀ (d i : Nat), l.length - i = d → i ≤ l.length → tidepoleref06_Span.l0 (d + 1) l l (l.length : Int) (i : Int) = some true := by
    intro d
    induction d with
    | zero => intro i hd hi; rw [tidepoleref06_Span.l0, if_neg (by omega)]
    | succ d ih =>
      intro i hd hi
      rw [tidepoleref06_Span.l0, if_pos (by omega), if_pos (by omega), if_pos (by omega), if_pos (by omega), if_neg (by simp), wrap_succ (by omega)]
      exact ih (i + 1) (by omega) (by omega)
  unfold tidepoleref06_Span.f
  rw [if_pos rfl]
  exact hgo l.length 0 (by omega) (by omega)
theorem Iu (l : List eP) (hl : l.length < 4398046511104) (w : World) (u v : Value) (hu : SI kRsp w u l) (hv : SI kRsp w v l) : Calls Try.prog 88 #[u, v] w fun e w' => e = .returned (.bool true) ∧ Below w.heap.size w w' := by
 obtain ⟨A, c, rfl, hc, hr⟩ := hu
 obtain ⟨B, d, rfl, hd, hs⟩ := hv
 exact (tidepoleref06_Span.calls _ A c l B d l true w hr hc hs hd (N9 l hl)).mono fun e w1 h => ⟨h.1, h.2.below⟩
attribute [local go_sem] iV iW jH jI gW gX iY iZ
def tidepolelaw25_same_uint64.l0 : Nat → List Int → List Int → Int → Int → Option (Bool)
 | 0, _, _, _, _ => none
 | k + 1, x0, x1, x12, wE => if wE < x12 then (if 0 ≤ wE then (if wE < (x0.length : Int) then (if wE < (x1.length : Int) then (if (rd x0 wE) = (rd x1 wE) then (tidepolelaw25_same_uint64.l0 k x0 x1 x12 (wrap64 (wE + 1))) else (some false)) else (none)) else (none)) else (none)) else (some true)
def tidepolelaw25_same_uint64.f (k : Nat) (l0 : List Int) (l1 : List Int) : Option (Bool) := if (l0.length : Int) = (l1.length : Int) then (tidepolelaw25_same_uint64.l0 k l0 l1 (l0.length : Int) 0) else (some false)
set_option maxHeartbeats 8000000 in
set_option maxRecDepth 100000 in
theorem tidepolelaw25_same_uint64.calls (k : Nat) (A0 : Option Addr) (c0 : Nat) (l0 : List Int) (A1 : Option Addr) (c1 : Nat) (l1 : List Int) (r : Bool) (w : World) (hr0 : Kd.C (Kd.int .u64) w A0 l0.length l0) (hc0 : l0.length ≤ c0) (hr1 : Kd.C (Kd.int .u64) w A1 l1.length l1) (hc1 : l1.length ≤ c1) (h : tidepolelaw25_same_uint64.f k l0 l1 = some r) :
  Calls Try.prog 98 #[.slice A0 l0.length c0, .slice A1 l1.length c1] w fun e w' => e = .returned (.bool r) ∧ cZ w w' := by
 have HR0 := ah hr0
 have uH := ah hc0
 clear hr0 hc0
 have HR1 := ah hr1
 have F9 := ah hc1
 clear hr1 hc1
 have H : (if (l0.length : Int) = (l1.length : Int) then (tidepolelaw25_same_uint64.l0 k l0 l1 (l0.length : Int) 0) else (some false)) = some r := h
 clear h
 by_cases c3 : (l0.length : Int) = (l1.length : Int)
 ·rw [if_pos c3] at H
  have c3b0 : ((l0.length : Int) == (l1.length : Int)) = true := beq_iff_eq.mpr c3
  have c3b1 : ((l0.length : Int) != (l1.length : Int)) = false := bne_eq_false_iff_eq.mpr c3
  have c3b2 : (l0.length == l1.length) = true := by first | simpa using c3 | (simp at c3 ⊢; omega)
  clear c3
  have H' := ah H
  clear H
  go_enter Try.func98, Try.ntmps98
  go_wp2
  repeat (go_quiet (fail); try go_wp2)
  go_loopg [13] k (fun kq v13 w' => ∃ (bH : Int), v13 = .int .i64 bH ∧ aj (tidepolelaw25_same_uint64.l0 kq l0 l1 (l0.length : Int) bH = some r) ∧ aj (kq ≤ k) ∧ cZ w w')
  case atStart => exact ⟨(0), (by first | rfl | (simp; done) | (simp [*]; done)), H', ⟨Nat.le_refl _⟩, by repeat (first | exact cZ.refl _ | apply cZ.step)⟩
  case round =>
   clear H'
   try clear c1
   try clear p2
   try clear c3
   try clear c3b0
   try clear c3b1
   try clear c3b2
   obtain ⟨bH, rfl, HA, jy, ⟨m1, rfl⟩⟩ := hrel
   cases gk with
   | zero => exact absurd HA.out (by simp [tidepolelaw25_same_uint64.l0])
   | succ k1 =>
    have H := HA.out
    clear HA
    simp only [tidepolelaw25_same_uint64.l0] at H
    by_cases c4 : bH < (l0.length : Int)
    ·rw [if_pos c4] at H
     have c4b0 : decide (bH < (l0.length : Int)) = true := ahG c4
     clear c4
     by_cases c5 : 0 ≤ bH
     ·rw [if_pos c5] at H
      have c5b0 : decide (0 ≤ bH) = true := ahG c5
      clear c5
      by_cases c6 : bH < (l0.length : Int)
      ·rw [if_pos c6] at H
       have c6b0 : decide (bH < (l0.length : Int)) = true := ahG c6
       clear c6
       by_cases c7 : bH < (l1.length : Int)
       ·rw [if_pos c7] at H
        have c7b0 : decide (bH < (l1.length : Int)) = true := ahG c7
        clear c7
        by_cases c8 : (rd l0 bH) = (rd l1 bH)
        ·rw [if_pos c8] at H
         have c8b0 : ((rd l0 bH) == (rd l1 bH)) = true := beq_iff_eq.mpr c8
         have c8b1 : ((rd l0 bH) != (rd l1 bH)) = false := bne_eq_false_iff_eq.mpr c8
         clear c8
         have H' := ah H
         clear H
         have fC : 0 ≤ (bH : Int) := ahF (by assumption)
         have fD : bH < (l0.length : Int) := ahF (by assumption)
         obtain ⟨kE, jM, bW⟩ := Kd.gB HR0.out bH fC fD
         cases jM
         replace fC := eq_true fC
         replace fD := eq_true fD
         have nG : 0 ≤ (bH : Int) := ahF (by assumption)
         have nH : bH < (l1.length : Int) := ahF (by assumption)
         obtain ⟨wY, xG, lD⟩ := Kd.gB HR1.out bH nG nH
         cases xG
         replace nG := eq_true nG
         replace nH := eq_true nH
         go_wp2
         repeat (go_quiet (fail); try go_wp2)
         go_roundg k1
         case measure => have := jy.out; omega
         case rel => exact ⟨(wrap64 (bH + 1)), (by first | rfl | (simp; done) | (simp [*]; done)), H', ⟨by have := jy.out; omega⟩, by repeat (first | exact cZ.refl _ | apply cZ.step)⟩
        rw [if_neg c8] at H
        have c8b0 : ((rd l0 bH) == (rd l1 bH)) = false := beq_eq_false_iff_ne.mpr c8
        have c8b1 : ((rd l0 bH) != (rd l1 bH)) = true := bne_iff_ne.mpr c8
        obtain rfl := Option.some.inj H
        have fC : 0 ≤ (bH : Int) := ahF (by assumption)
        have fD : bH < (l0.length : Int) := ahF (by assumption)
        obtain ⟨kE, jM, bW⟩ := Kd.gB HR0.out bH fC fD
        cases jM
        replace fC := eq_true fC
        replace fD := eq_true fD
        have nG : 0 ≤ (bH : Int) := ahF (by assumption)
        have nH : bH < (l1.length : Int) := ahF (by assumption)
        obtain ⟨wY, xG, lD⟩ := Kd.gB HR1.out bH nG nH
        cases xG
        replace nG := eq_true nG
        replace nH := eq_true nH
        go_wp2
        repeat (go_quiet (fail); try go_wp2)
        go_ret
        exact ⟨by first | rfl | (simp; done) | (simp [*]; done), by repeat (first | exact cZ.refl _ | apply cZ.step)⟩
       rw [if_neg c7] at H
       exact absurd H (by simp)
      rw [if_neg c6] at H
      exact absurd H (by simp)
     rw [if_neg c5] at H
     exact absurd H (by simp)
    rw [if_neg c4] at H
    have c4b0 : decide (bH < (l0.length : Int)) = false := ahH c4
    clear c4
    obtain rfl := Option.some.inj H
    go_wp2
    repeat (go_quiet (fail); try go_wp2)
    go_ret
    exact ⟨by first | rfl | (simp; done) | (simp [*]; done), by repeat (first | exact cZ.refl _ | apply cZ.step)⟩
 rw [if_neg c3] at H
 have c3b0 : ((l0.length : Int) == (l1.length : Int)) = false := beq_eq_false_iff_ne.mpr c3
 have c3b1 : ((l0.length : Int) != (l1.length : Int)) = true := bne_iff_ne.mpr c3
 have c3b2 : (l0.length == l1.length) = false := by first | simpa using c3 | (simp at c3 ⊢; omega)
 obtain rfl := Option.some.inj H
 go_enter Try.func98, Try.ntmps98
 go_wp2
 repeat (go_quiet (fail); try go_wp2)
 go_ret
 exact ⟨by first | rfl | (simp; done) | (simp [*]; done), by repeat (first | exact cZ.refl _ | apply cZ.step)⟩
end Go.Proofs.Ytooiccpmngmapaa.P
namespace Go.Proofs.Ytooiccpmngmapaa.P
open Go.RowKit Go.Shelf Go.Proofs.YtooiccpmngmapaaW.PrintWords Go.Proofs.YtooiccpmngmapaaW.PrintLast Go.Proofs.YtooiccpmngmapaaW.PrintMore
theorem Oa (l : List Int) (hl : l.length < 4398046511104) : tidepolelaw25_same_uint64.f (l.length + 1) l l = some true := by
  have hgo : ∀ (d i : Nat), l.length - i = d → i ≤ l.length → tidepolelaw25_same_uint64.l0 (d + 1) l l (l.length : Int) (i : Int) = some true := by
    intro d
    induction d with
    | zero => intro i hd hi; rw [tidepolelaw25_same_uint64.l0, if_neg (by omega)]
    | succ d ih =>
      intro i hd hi
      rw [tidepolelaw25_same_uint64.l0, if_pos (by omega), if_pos (by omega), if_pos (by omega), if_pos (by omega), if_pos rfl, wrap_succ (by omega)]
      exact ih (i + 1) (by omega) (by omega)
  unfold tidepolelaw25_same_uint64.f
  rw [if_pos rfl]
  exact hgo l.length 0 (by omega) (by omega)
theorem Iw (l : List Int) (hl : l.length < 4398046511104) (w : World) (u v : Value) (hu : SI (Kd.int .u64) w u l) (hv : SI (Kd.int .u64) w v l) : Calls Try.prog 98 #[u, v] w fun e w' => e = .returned (.bool true) ∧ Below w.heap.size w w' := by
 obtain ⟨A, c, rfl, hc, hr⟩ := hu
 obtain ⟨B, d, rfl, hd, hs⟩ := hv
 exact (tidepolelaw25_same_uint64.calls _ A c l B d l true w hr hc hs hd (Oa l hl)).mono fun e w1 h => ⟨h.1, h.2.below⟩
set_option maxHeartbeats 32000000 in
set_option maxRecDepth 100000 in
theorem JF (h : Fh) (l5 : h.f5.length < 4398046511104) (l6 : h.f6.length < 4398046511104) (l7 : h.f7.length < 4398046511104) (l8 : h.f8.length < 4398046511104) (w : World) (u v : Value) (hu : GI w u h) (hv : GR w v h) :
  Calls Try.prog 36 #[u, v] w fun e w' => e = .returned (.bool true) ∧ Below w.heap.size w w' := by
 have hud := Try.underlying55
 have hur := Try.underlying60
 obtain ⟨A5a, c5a, A6a, c6a, A7a, c7a, A8a, c8a, e, s5, s6, s7, s8⟩ := hu.open_
 subst e
 obtain ⟨A5b, c5b, A6b, c6b, A7b, c7b, A8b, c8b, e, t5, t6, t7, t8⟩ := hv.open_
 subst e
 have P5 := ah (Hu h.f5 (by omega))
 have P6 := ah (Hu h.f6 (by omega))
 have E5 := ah (Iu (h.f5.map toR) (by rw [List.length_map]; exact l5))
 have E6 := ah (Iu (h.f6.map toR) (by rw [List.length_map]; exact l6))
 have E7 := ah (Iw h.f7 l7)
 have E8 := ah (Iw h.f8 l8)
 have hb := ak (ak (Below.refl w.heap.size w) (.cells #[.int .i64 h.f0, .int .u64 h.f1, .int .u64 h.f2, .int .u64 h.f3, .int .u64 h.f4, .slice A5a h.f5.length c5a, .slice A6a h.f6.length c6a, .slice A7a h.f7.length c7a, .slice A8a h.f8.length c8a] 55)) (.cells #[.int .i64 h.f0, .int .u64 h.f1, .int .u64 h.f2, .int .u64 h.f3, .int .u64 h.f4, .slice A5b h.f5.length c5b, .slice A6b h.f6.length c6b, .slice A7b h.f7.length c7b, .slice A8b h.f8.length c8b] 60)
 have S5 := ah (s5.below hb)
 have S6 := ah (s6.below hb)
 have S7 := ah (s7.below hb)
 have S8 := ah (s8.below hb)
 have T5 := ah (t5.below hb)
 have T6 := ah (t6.below hb)
 have T7 := ah (t7.below hb)
 have T8 := ah (t8.below hb)
 have B := ah hb
 have X := ah ((rD.new w #[.int .i64 h.f0, .int .u64 h.f1, .int .u64 h.f2, .int .u64 h.f3, .int .u64 h.f4, .slice A5a h.f5.length c5a, .slice A6a h.f6.length c6a, .slice A7a h.f7.length c7a, .slice A8a h.f8.length c8a] 55).alloc (.cells #[.int .i64 h.f0, .int .u64 h.f1, .int .u64 h.f2, .int .u64 h.f3, .int .u64 h.f4, .slice A5b h.f5.length c5b, .slice A6b h.f6.length c6b, .slice A7b h.f7.length c7b, .slice A8b h.f8.length c8b] 60))
 have Y := ah (rD.RV (w := w) (.cells #[.int .i64 h.f0, .int .u64 h.f1, .int .u64 h.f2, .int .u64 h.f3, .int .u64 h.f4, .slice A5a h.f5.length c5a, .slice A6a h.f6.length c6a, .slice A7a h.f7.length c7a, .slice A8a h.f8.length c8a] 55) #[.int .i64 h.f0, .int .u64 h.f1, .int .u64 h.f2, .int .u64 h.f3, .int .u64 h.f4, .slice A5b h.f5.length c5b, .slice A6b h.f6.length c6b, .slice A7b h.f7.length c7b, .slice A8b h.f8.length c8b] 60)
 have e0 : (h.f0 == h.f0) = true := beq_self_eq_true _
 have e1 : (h.f1 == h.f1) = true := beq_self_eq_true _
 have e2 : (h.f2 == h.f2) = true := beq_self_eq_true _
 have e3 : (h.f3 == h.f3) = true := beq_self_eq_true _
 have e4 : (h.f4 == h.f4) = true := beq_self_eq_true _
 clear s5 s6 s7 s8 t5 t6 t7 t8 l5 l6 l7 l8 hu hv hb
 generalize h.f5.map toR = m5 at *
 generalize h.f6.map toR = m6 at *
 have hx := fun i => X.out.cell i
 have hy := fun i => Y.out.cell i
 go_enter Try.func36, Try.ntmps36
 go_wp2_with fail
 replace S5 := ah (S5.out.below (gV (Below.refl _ _)))
 replace S6 := ah (S6.out.below (gV (Below.refl _ _)))
 replace S7 := ah (S7.out.below (gV (Below.refl _ _)))
 replace S8 := ah (S8.out.below (gV (Below.refl _ _)))
 replace T5 := ah (T5.out.below (gV (Below.refl _ _)))
 replace T6 := ah (T6.out.below (gV (Below.refl _ _)))
 replace T7 := ah (T7.out.below (gV (Below.refl _ _)))
 replace T8 := ah (T8.out.below (gV (Below.refl _ _)))
 replace X := ah (X.out.below (gV (Below.refl _ _)))
 replace Y := ah (Y.out.below (gV (Below.refl _ _)))
 replace B := ah (gV B.out)
 go_region_held3 (fun W => (∀ i, W.cell? ⟨w.heap.size, i, none⟩ = (#[.int .i64 h.f0, .int .u64 h.f1, .int .u64 h.f2, .int .u64 h.f3, .int .u64 h.f4, .slice A5a h.f5.length c5a, .slice A6a h.f6.length c6a, .slice A7a h.f7.length c7a, .slice A8a h.f8.length c8a] : Array Value)[i]?) ∧ (∀ i, W.cell? ⟨w.heap.size + 1, i, none⟩ = (#[.int .i64 h.f0, .int .u64 h.f1, .int .u64 h.f2, .int .u64 h.f3, .int .u64 h.f4, .slice A5b h.f5.length c5b, .slice A6b h.f6.length c6b, .slice A7b h.f7.length c7b, .slice A8b h.f8.length c8b] : Array Value)[i]?)) (exact ⟨fun i => X.out.cell i, fun i => Y.out.cell i⟩) (first | (go_at_call 87; (with_reducible refine (P5.out _ _ S5.out).mono ?_); rintro e W1 ⟨q5, rfl, hs, hb⟩; replace B := ah (aG B.out B.out.size hb); replace S5 := ah (S5.out.below hb); replace S6 := ah (S6.out.below hb); replace S7 := ah (S7.out.below hb); replace S8 := ah (S8.out.below hb); replace T5 := ah (T5.out.below hb); replace T6 := ah (T6.out.below hb); replace T7 := ah (T7.out.below hb); replace T8 := ah (T8.out.below hb); replace X := ah (X.out.below hb); replace hx := fun i => X.out.cell i; replace Y := ah (Y.out.below hb); replace hy := fun i => Y.out.cell i; have Q5 := ah hs; clear P5 hs hb) | (go_at_call 88; (with_reducible refine (E5.out _ _ _ Q5.out T5.out).mono ?_); rintro e W2 ⟨rfl, hb⟩; replace B := ah (aG B.out B.out.size hb); replace S5 := ah (S5.out.below hb); replace S6 := ah (S6.out.below hb); replace S7 := ah (S7.out.below hb); replace S8 := ah (S8.out.below hb); replace T5 := ah (T5.out.below hb); replace T6 := ah (T6.out.below hb); replace T7 := ah (T7.out.below hb); replace T8 := ah (T8.out.below hb); replace Q5 := ah (Q5.out.below hb); replace X := ah (X.out.below hb); replace hx := fun i => X.out.cell i; replace Y := ah (Y.out.below hb); replace hy := fun i => Y.out.cell i; clear E5  hb) | (go_at_call 87; (with_reducible refine (P6.out _ _ S6.out).mono ?_); rintro e W3 ⟨q6, rfl, hs, hb⟩; replace B := ah (aG B.out B.out.size hb); replace S5 := ah (S5.out.below hb); replace S6 := ah (S6.out.below hb); replace S7 := ah (S7.out.below hb); replace S8 := ah (S8.out.below hb); replace T5 := ah (T5.out.below hb); replace T6 := ah (T6.out.below hb); replace T7 := ah (T7.out.below hb); replace T8 := ah (T8.out.below hb); replace Q5 := ah (Q5.out.below hb); replace X := ah (X.out.below hb); replace hx := fun i => X.out.cell i; replace Y := ah (Y.out.below hb); replace hy := fun i => Y.out.cell i; have Q6 := ah hs; clear P6 hs hb) | (go_at_call 88; (with_reducible refine (E6.out _ _ _ Q6.out T6.out).mono ?_); rintro e W4 ⟨rfl, hb⟩; replace B := ah (aG B.out B.out.size hb); replace S5 := ah (S5.out.below hb); replace S6 := ah (S6.out.below hb); replace S7 := ah (S7.out.below hb); replace S8 := ah (S8.out.below hb); replace T5 := ah (T5.out.below hb); replace T6 := ah (T6.out.below hb); replace T7 := ah (T7.out.below hb); replace T8 := ah (T8.out.below hb); replace Q5 := ah (Q5.out.below hb); replace Q6 := ah (Q6.out.below hb); replace X := ah (X.out.below hb); replace hx := fun i => X.out.cell i; replace Y := ah (Y.out.below hb); replace hy := fun i => Y.out.cell i; clear E6  hb) | (go_at_call 98; (with_reducible refine (E7.out _ _ _ S7.out T7.out).mono ?_); rintro e W5 ⟨rfl, hb⟩; replace B := ah (aG B.out B.out.size hb); replace S5 := ah (S5.out.below hb); replace S6 := ah (S6.out.below hb); replace S7 := ah (S7.out.below hb); replace S8 := ah (S8.out.below hb); replace T5 := ah (T5.out.below hb); replace T6 := ah (T6.out.below hb); replace T7 := ah (T7.out.below hb); replace T8 := ah (T8.out.below hb); replace Q5 := ah (Q5.out.below hb); replace Q6 := ah (Q6.out.below hb); replace X := ah (X.out.below hb); replace hx := fun i => X.out.cell i; replace Y := ah (Y.out.below hb); replace hy := fun i => Y.out.cell i; clear E7  hb) | (go_at_call 98; (with_reducible refine (E8.out _ _ _ S8.out T8.out).mono ?_); rintro e W6 ⟨rfl, hb⟩; replace B := ah (aG B.out B.out.size hb); replace S5 := ah (S5.out.below hb); replace S6 := ah (S6.out.below hb); replace S7 := ah (S7.out.below hb); replace S8 := ah (S8.out.below hb); replace T5 := ah (T5.out.below hb); replace T6 := ah (T6.out.below hb); replace T7 := ah (T7.out.below hb); replace T8 := ah (T8.out.below hb); replace Q5 := ah (Q5.out.below hb); replace Q6 := ah (Q6.out.below hb); replace X := ah (X.out.below hb); replace hx := fun i => X.out.cell i; replace Y := ah (Y.out.below hb); replace hy := fun i => Y.out.cell i; clear E8  hb))
 all_goals go_wp2_with fail
 all_goals go_ret
 all_goals exact ⟨rfl, B.out⟩
end Go.Proofs.Ytooiccpmngmapaa.P