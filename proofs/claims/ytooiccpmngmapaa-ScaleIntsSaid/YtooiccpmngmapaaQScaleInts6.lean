/- ScaleInts: the part that this text bears of the proof that the statement answers true for every input. No condition. -/
import Derived.Test.YtooiccpmngmapaaQScaleInts5
import Derived.ProofKit
import Derived.JoinedOf
import Derived.OpenShut
import Derived.ShutString
import Derived.ChangeOld
import Derived.SizedLaws
import Derived.JoinedTies
import Derived.Test.YtooiccpmngmapaaChecked
import GoSem.Claim
import GoSem.ClaimJoined
import GoSem.ClaimMapViews
set_option linter.unusedVariables false
set_option linter.unusedSimpArgs false
namespace Go.Proofs.Ytooiccpmngmapaa.P
open Go.RowKit Go.Proofs.YtooiccpmngmapaaW.PrintWords Go.Proofs.YtooiccpmngmapaaW.PrintLast Go.Proofs.YtooiccpmngmapaaW.PrintMore
attribute [local go_sem] jh ji jR jS iI iJ jk jl
mutual
def tidepoleref25_Ints.j0 : Nat → Int → Bool → Int → Int → Int → Int → Int → List (fD) → List (fD) → List Int → List Int → Option (Int × Int × Int × Int × Int × (List (fD)) × (List (fD)) × List Int × List Int × Int)
 | 0, _, _, _, _, _, _, _, _, _, _, _ => none
 | k + 1, x1, x28, qP, vK, vM, vN, vO, vP, vS, vT, vU => if x28 = true then (some (0, 0, 0, 0, 0, ([] : List (fD)), ([] : List (fD)), ([] : List Int), ([] : List Int), 21)) else ((tidepoleref09_Side.f k vP vT).bind fun Nc => ((tidepoleref09_Side.f k vS vU).bind fun Ed => ((tidepoleref25_Side.f k Nc.1 Nc.2.1 (wrap64 (qP - x1))).bind fun mO => ((tidepoleref25_Side.f k Ed.1 Ed.2.1 (wrap64 (qP - x1))).bind fun kS => (if (wrap64 (mO.2.2 + kS.2.2)) > 0 then (some (0, 0, 0, 0, 0, ([] : List (fD)), ([] : List (fD)), ([] : List Int), ([] : List Int), 28)) else ((tidepoleref06_Runs.f k mO.1).bind fun yB => (if yB > 1024 then (tidepoleref25_Ints.j1 k x1 mO.1 mO.2.1 kS.1 kS.2.1 true qP vK vM vN vO vP vS vT vU) else ((tidepoleref06_Runs.f k kS.1).bind fun zB => (tidepoleref25_Ints.j1 k x1 mO.1 mO.2.1 kS.1 kS.2.1 (decide (zB > 1024)) qP vK vM vN vO vP vS vT vU)))))))))
def tidepoleref25_Ints.j1 : Nat → Int → List Int → List Int → List Int → List Int → Bool → Int → Int → Int → Int → Int → List (fD) → List (fD) → List Int → List Int → Option (Int × Int × Int × Int × Int × (List (fD)) × (List (fD)) × List Int × List Int × Int)
 | 0, _, _, _, _, _, _, _, _, _, _, _, _, _, _, _ => none
 | k + 1, x1, x7, x8, x10, x11, x82, qP, vK, vM, vN, vO, vP, vS, vT, vU => if x82 = true then (some (0, 0, 0, 0, 0, ([] : List (fD)), ([] : List (fD)), ([] : List Int), ([] : List Int), 12)) else ((tidepoleref17_Runs.f k x7).bind fun rP => ((tidepoleref25_deltas.f k x8).bind fun tq => ((tidepoleref17_Runs.f k x10).bind fun uT => ((tidepoleref25_deltas.f k x11).bind fun t143 => (some (x1, vK, vM, vN, vO, rP, uT, tq, t143, 0))))))
end
def tidepoleref25_Ints.f (k : Nat) (dD : Int) (dH : Int) (dQ : Int) (dR : Int) (dO : Int) (dN : List (fD)) (dK : List (fD)) (dJ : List Int) (dI : List Int) (a1 : Int) : Option (Int × Int × Int × Int × Int × (List (fD)) × (List (fD)) × List Int × List Int × Int) := (tidepoleref09_Check.f k dD dH dQ dR dO dN dK dJ dI).bind fun eG => (if eG = 0 then (if a1 < (-4) then (tidepoleref25_Ints.j0 k a1 true dD dH dQ dR dO dN dK dJ dI) else (tidepoleref25_Ints.j0 k a1 (decide (a1 > dD)) dD dH dQ dR dO dN dK dJ dI)) else (some (0, 0, 0, 0, 0, ([] : List (fD)), ([] : List (fD)), ([] : List Int), ([] : List Int), eG)))
set_option maxHeartbeats 8000000 in
set_option maxRecDepth 100000 in
theorem tidepoleref25_Ints.calls (k : Nat) (dD : Int) (dH : Int) (dQ : Int) (dR : Int) (dO : Int) (iV : Option Addr) (iW : Nat) (dN : List (fD)) (iR : Option Addr) (iT : Nat) (dK : List (fD)) (iC : Option Addr) (iD : Nat) (dJ : List Int) (iE : Option Addr) (iF : Nat) (dI : List Int) (a1 : Int) (r1 : Int) (r2 : Int) (r3 : Int) (r4 : Int) (r5 : Int) (r6 : List (fD)) (r7 : List (fD)) (r8 : List Int) (r9 : List Int) (r10 : Int) (w : World) (oO : Kd.C nD w iV dN.length dN) (oP : dN.length ≤ iW) (oQ : Kd.C nD w iR dK.length dK) (oU : dK.length ≤ iT) (qI : Kd.C (Kd.int .i64) w iC dJ.length dJ) (qJ : dJ.length ≤ iD) (qK : Kd.C (Kd.int .i64) w iE dI.length dI) (qL : dI.length ≤ iF) (h : tidepoleref25_Ints.f k dD dH dQ dR dO dN dK dJ dI a1 = some (r1, r2, r3, r4, r5, r6, r7, r8, r9, r10)) :
  Calls Try.prog 28 #[.agg #[.int .i64 dD, .int .u64 dH, .int .u64 dQ, .int .u64 dR, .int .u64 dO, .slice iV dN.length iW, .slice iR dK.length iT, .slice iC dJ.length iD, .slice iE dI.length iF], .int .i64 a1] w fun e w' => ∃ Md Me P8 P9 : Value, e = .returned (.tuple #[.agg #[.int .i64 r1, .int .u64 r2, .int .u64 r3, .int .u64 r4, .int .u64 r5, Md, Me, P8, P9], .int .i64 r10]) ∧ Kd.R nD 127 w' w.heap.size (fun k_ => some k_ ≠ (Me : Value).ownBlock) Md r6 ∧ Kd.R nD 127 w' w.heap.size (fun k_ => some k_ ≠ (Md : Value).ownBlock) Me r7 ∧ Kd.R (Kd.int .i64) 2 w' w.heap.size (fun k_ => some k_ ≠ (P9 : Value).ownBlock) P8 r8 ∧ Kd.R (Kd.int .i64) 2 w' w.heap.size (fun k_ => some k_ ≠ (P8 : Value).ownBlock) P9 r9 ∧ Below w.heap.size w w' := by
 have aan := Try.underlying41
 have nH := ah oO
 have nI := ah oP
 clear oO oP
 have nZ := ah oQ
 have oh := ah oU
 clear oQ oU
 have oV := ah qI
 have oW := ah qJ
 clear qI qJ
 have pG := ah qK
 have pI := ah qL
 clear qK qL
 have HB := ah (Below.refl w.heap.size w)
 have H : ((tidepoleref09_Check.f k dD dH dQ dR dO dN dK dJ dI).bind fun eG => (if eG = 0 then (if a1 < (-4) then (tidepoleref25_Ints.j0 k a1 true dD dH dQ dR dO dN dK dJ dI) else (tidepoleref25_Ints.j0 k a1 (decide (a1 > dD)) dD dH dQ dR dO dN dK dJ dI)) else (some (0, 0, 0, 0, 0, ([] : List (fD)), ([] : List (fD)), ([] : List Int), ([] : List Int), eG)))) = some (r1, r2, r3, r4, r5, r6, r7, r8, r9, r10) := h
 clear h
 replace H := Option.bind_eq_some_iff.mp H
 obtain ⟨eG, IG, H⟩ := H
 replace H : (if eG = 0 then (if a1 < (-4) then (tidepoleref25_Ints.j0 k a1 true dD dH dQ dR dO dN dK dJ dI) else (tidepoleref25_Ints.j0 k a1 (decide (a1 > dD)) dD dH dQ dR dO dN dK dJ dI)) else (some (0, 0, 0, 0, 0, ([] : List (fD)), ([] : List (fD)), ([] : List Int), ([] : List Int), eG))) = some (r1, r2, r3, r4, r5, r6, r7, r8, r9, r10) := H
 have A3 := ah IG
 clear IG
 by_cases c4 : eG = 0
 ·rw [if_pos c4] at H
  have c4b0 : (eG == 0) = true := beq_iff_eq.mpr c4
  have c4b1 : (eG != 0) = false := bne_eq_false_iff_eq.mpr c4
  clear c4
  have NH := ah H
  clear H
  go_enter Try.func28, Try.ntmps28
  go_upto_region 4 with (first | ((with_reducible refine fJ (N := 2) rfl ?_); refine eU ?hg (N := 2) ?hd (cs := #[.int .i64 dD, .int .u64 dH, .int .u64 dQ, .int .u64 dR, .int .u64 dO, .slice iV dN.length iW, .slice iR dK.length iT, .slice iC dJ.length iD, .slice iE dI.length iF]) (t := 41) ?hr ?_; (case hd => rfl); (case hg => rfl); (case hr => first | (go_simp; done) | (go_simp; rfl)); intro cO hg w6 hbox hb; have aV := ah (hbox); have vG := ah ((by rw [hg]; exact (aI (aX HB.out)) : w.heap.size ≤ cO)); have bZ := ah ((by rw [hg]; exact (aI (aX HB.out)) : w.heap.size ≤ cO)); replace HB := ah (aW (aX HB.out) hb); clear hb hbox hg) | ((with_reducible refine fJ (N := 4) rfl ?_); refine eU ?hg (N := 4) ?hd (cs := #[.int .i64 0, .int .u64 0, .int .u64 0, .int .u64 0, .int .u64 0, .slice none 0 0, .slice none 0 0, .slice none 0 0, .slice none 0 0]) (t := 41) ?hr ?_; (case hd => rfl); (case hg => rfl); (case hr => first | (go_simp; done) | (go_simp; rfl)); intro aJ hg w7 hbox hb; have aN := ah (hbox); have oM := ah ((by rw [hg]; exact (aI (by repeat (first | (with_reducible first | exact HB.out | refine bJ ?_ | refine aA ?_ bZ.out) | exact HB.out))) : w.heap.size ≤ aJ)); have bT := ah ((by rw [hg]; exact (aI (by repeat (first | (with_reducible first | exact HB.out | refine bJ ?_ | refine aA ?_ bZ.out) | exact HB.out))) : w.heap.size ≤ aJ)); have aQ := ah ((by rw [hg]; exact Nat.ne_of_lt (kL (g := cO) (o := .cells #[.int .i64 dD, .int .u64 dH, .int .u64 dQ, .int .u64 dR, .int .u64 dO, .slice iV dN.length iW, .slice iR dK.length iT, .slice iC dJ.length iD, .slice iE dI.length iF] 41 (0, 0)) (jP aV.out)) : cO ≠ aJ)); have fE := ah ((by rw [hg]; exact Nat.ne_of_gt (kL (g := cO) (o := .cells #[.int .i64 dD, .int .u64 dH, .int .u64 dQ, .int .u64 dR, .int .u64 dO, .slice iV dN.length iW, .slice iR dK.length iT, .slice iC dJ.length iD, .slice iE dI.length iF] 41 (0, 0)) (jP aV.out)) : aJ ≠ cO)); replace aV := ah (dX aV.out hb); replace HB := ah (aW (by repeat (first | (with_reducible first | exact HB.out | refine bJ ?_ | refine aA ?_ bZ.out) | exact HB.out)) hb); clear hb hbox hg; have ahI := aQ.out; have ahJ := fE.out; have sS := ay aV.out; have sU := aG aV.out) | ((with_reducible refine bH (f := 39) rfl ?_); refine eH (some 16) Try.func39 #[.agg #[.int .i64 dD, .int .u64 dH, .int .u64 dQ, .int .u64 dR, .int .u64 dO, .slice iV dN.length iW, .slice iR dK.length iT, .slice iC dJ.length iD, .slice iE dI.length iF]] ?_; (with_reducible refine (tidepoleref09_Check.calls k dD dH dQ dR dO _ _ dN _ _ dK _ _ dJ _ _ dI eG _ ?dw ?dA ?jr ?jv ?pJ ?pK ?pO ?pR A3.out).mono ?_); (case dw => exact Kd.jT (Kd.bM nH.out HB.out)); (case dA => exact nI.out); (case jr => exact Kd.jT (Kd.bM nZ.out HB.out)); (case jv => exact oh.out); (case pJ => exact Kd.jT (Kd.bM oV.out HB.out)); (case pK => exact oW.out); (case pO => exact Kd.jT (Kd.bM pG.out HB.out)); (case pR => exact pI.out); rintro e w10 ⟨rfl, hb⟩; refine ⟨_, rfl, ?_⟩; replace aV := ah (dX aV.out hb); replace aN := ah (dX aN.out hb); replace HB := ah (aW (by repeat (first | (with_reducible first | exact HB.out | refine bJ ?_ | refine aA ?_ bZ.out | refine aA ?_ bT.out) | exact HB.out)) hb); (try clear hb); (try clear hb2); (try clear hk); (try clear hi); clear A3))
  (try simp only [Act.put, List.setIfInBounds_toArray, List.set_cons_zero, List.set_cons_succ])
  go_cut [28] (fun v28 wc => ∃ (kq : Nat) (Qj : Bool), v28 = .bool Qj ∧ aj (tidepoleref25_Ints.j0 kq a1 Qj dD dH dQ dR dO dN dK dJ dI = some (r1, r2, r3, r4, r5, r6, r7, r8, r9, r10)) ∧ aj (kq ≤ k) ∧ aj (wc.heap[cO]? = some (.cells #[.int .i64 dD, .int .u64 dH, .int .u64 dQ, .int .u64 dR, .int .u64 dO, (.slice iV dN.length iW), (.slice iR dK.length iT), (.slice iC dJ.length iD), (.slice iE dI.length iF)] 41 (0, 0))) ∧ aj (wc.heap[aJ]? = some (.cells #[.int .i64 0, .int .u64 0, .int .u64 0, .int .u64 0, .int .u64 0, (.slice none 0 0), (.slice none 0 0), (.slice none 0 0), (.slice none 0 0)] 41 (0, 0))) ∧ aj (Below w.heap.size w wc))
  case first =>
   have H := NH.out
   clear NH
   by_cases c11 : a1 < (-4)
   ·rw [if_pos c11] at H
    have c11b0 : decide (a1 < (-4)) = true := aiJ c11
    clear c11
    (first | rw [c11b0] | (simp only [dh, dF]; rw [c11b0]) | skip)
    have H' := ah H
    clear H
    go_wp2
    go_meet
    case rel => exact ⟨_, (true), (by first | rfl | (simp; done) | (simp [*]; done)), H', ⟨by first | omega | exact Nat.le_refl _⟩, ⟨by (repeat with_reducible refine bQ ?_); exact aV.out⟩, ⟨by (repeat with_reducible refine bQ ?_); exact aN.out⟩, ⟨by repeat (first | (with_reducible first | exact HB.out | apply ak | apply au | apply aC | refine aA ?_ bZ.out | refine aA ?_ bT.out) | exact HB.out)⟩⟩
   rw [if_neg c11] at H
   have c11b0 : decide (a1 < (-4)) = false := aiK c11
   clear c11
   (first | rw [c11b0] | (simp only [dh, dF]; rw [c11b0]) | skip)
   have H' := ah H
   clear H
   have aaE := aQ.out
   have aaF := fE.out
   have xq := ay aV.out
   have xu := aG aV.out
   go_wp2
   go_meet
   case rel => exact ⟨_, (decide (a1 > dD)), (by first | rfl | (simp; done) | (simp [*]; done)), H', ⟨by first | omega | exact Nat.le_refl _⟩, ⟨by (repeat with_reducible refine bQ ?_); exact aV.out⟩, ⟨by (repeat with_reducible refine bQ ?_); exact aN.out⟩, ⟨by repeat (first | (with_reducible first | exact HB.out | apply ak | apply au | apply aC | refine aA ?_ bZ.out | refine aA ?_ bT.out) | exact HB.out)⟩⟩
  case rest =>
   clear NH
   try clear c1
   try clear c2
   try clear p2
   try clear c3
   try clear c4
   try clear c4b0
   try clear c4b1
   try clear c8
   try clear c11
   try clear c11b0
   try clear c12
   try clear xq
   try clear sS
   try clear xu
   try clear sU
   obtain ⟨kq, Qj, rfl, HA, Jv, aV, aN, HB⟩ := hcut
   cases kq with
   | zero => exact absurd HA.out (by simp [tidepoleref25_Ints.j0])
   | succ nJ =>
    have H := HA.out
    clear HA
    simp only [tidepoleref25_Ints.j0] at H
    by_cases c14 : Qj = true
    ·subst c14
     have H1 : (some (0, 0, 0, 0, 0, ([] : List (fD)), ([] : List (fD)), ([] : List Int), ([] : List Int), 21)) = some (r1, r2, r3, r4, r5, r6, r7, r8, r9, r10) := by rw [if_pos rfl] at H; exact H
     clear H
     have H := H1
     clear H1
     simp only [Option.some.injEq, Prod.mk.injEq] at H
     obtain ⟨rfl, rfl, rfl, rfl, rfl, rfl, rfl, rfl, rfl, rfl⟩ := H
     have af4 := fE.out
     have af5 := aQ.out
     have EG := ay aN.out
     have EH := aG aN.out
     go_wp2
     refine bodyPost_ret (gQ rfl _ _ aJ 41 #[.int .i64 0, .int .u64 0, .int .u64 0, .int .u64 0, .int .u64 0, .slice none 0 0, .slice none 0 0, .slice none 0 0, .slice none 0 0] (0, 0) _ rfl (by (repeat with_reducible refine bQ ?_); refine bC (cs := #[.int .i64 0, .int .u64 0, .int .u64 0, .int .u64 0, .int .u64 0, .slice none 0 0, .slice none 0 0, .slice none 0 0, .slice none 0 0]) ?_ 8 _ rfl; (repeat with_reducible refine bQ ?_); refine bC (cs := #[.int .i64 0, .int .u64 0, .int .u64 0, .int .u64 0, .int .u64 0, .slice none 0 0, .slice none 0 0, .slice none 0 0, .slice none 0 0]) ?_ 7 _ rfl; (repeat with_reducible refine bQ ?_); refine bC (cs := #[.int .i64 0, .int .u64 0, .int .u64 0, .int .u64 0, .int .u64 0, .slice none 0 0, .slice none 0 0, .slice none 0 0, .slice none 0 0]) ?_ 6 _ rfl; (repeat with_reducible refine bQ ?_); refine bC (cs := #[.int .i64 0, .int .u64 0, .int .u64 0, .int .u64 0, .int .u64 0, .slice none 0 0, .slice none 0 0, .slice none 0 0, .slice none 0 0]) ?_ 5 _ rfl; (repeat with_reducible refine bQ ?_); refine bC (cs := #[.int .i64 0, .int .u64 0, .int .u64 0, .int .u64 0, .int .u64 0, .slice none 0 0, .slice none 0 0, .slice none 0 0, .slice none 0 0]) ?_ 4 _ rfl; (repeat with_reducible refine bQ ?_); refine bC (cs := #[.int .i64 0, .int .u64 0, .int .u64 0, .int .u64 0, .int .u64 0, .slice none 0 0, .slice none 0 0, .slice none 0 0, .slice none 0 0]) ?_ 3 _ rfl; (repeat with_reducible refine bQ ?_); refine bC (cs := #[.int .i64 0, .int .u64 0, .int .u64 0, .int .u64 0, .int .u64 0, .slice none 0 0, .slice none 0 0, .slice none 0 0, .slice none 0 0]) ?_ 2 _ rfl; (repeat with_reducible refine bQ ?_); refine bC (cs := #[.int .i64 0, .int .u64 0, .int .u64 0, .int .u64 0, .int .u64 0, .slice none 0 0, .slice none 0 0, .slice none 0 0, .slice none 0 0]) ?_ 1 _ rfl; (repeat with_reducible refine bQ ?_); refine bC (cs := #[.int .i64 0, .int .u64 0, .int .u64 0, .int .u64 0, .int .u64 0, .slice none 0 0, .slice none 0 0, .slice none 0 0, .slice none 0 0]) ?_ 0 _ rfl; (repeat with_reducible refine bQ ?_); exact aN.out) Try.underlying41 rfl (by kernel_rfl)) rfl ?_
     exact ⟨_, _, _, _, by first | rfl | (simp [aT, aU] <;> rfl) | (simp [*, aT, aU] <;> rfl), by first | exact Kd.dY _ _ _ _ _ | exact Kd.gI _ _ _ _ _ | exact Kd.gJ _ _ _ _ _ | exact Kd.gB _ _ _ _ _ | exact Kd.gG _ _ _ _ _, by first | exact Kd.dY _ _ _ _ _ | exact Kd.gI _ _ _ _ _ | exact Kd.gJ _ _ _ _ _ | exact Kd.gB _ _ _ _ _ | exact Kd.gG _ _ _ _ _, by first | exact Kd.dY _ _ _ _ _ | exact Kd.gI _ _ _ _ _ | exact Kd.gJ _ _ _ _ _ | exact Kd.gB _ _ _ _ _ | exact Kd.gG _ _ _ _ _, by first | exact Kd.dY _ _ _ _ _ | exact Kd.gI _ _ _ _ _ | exact Kd.gJ _ _ _ _ _ | exact Kd.gB _ _ _ _ _ | exact Kd.gG _ _ _ _ _, by repeat (first | (with_reducible first | exact HB.out | apply ak | apply au | apply aC | refine aA ?_ bZ.out | refine aA ?_ bT.out) | exact HB.out)⟩
    replace c14 := Bool.eq_false_iff.mpr c14
    subst c14
    have H1 : ((tidepoleref09_Side.f nJ dN dJ).bind fun Nc => ((tidepoleref09_Side.f nJ dK dI).bind fun Ed => ((tidepoleref25_Side.f nJ Nc.1 Nc.2.1 (wrap64 (dD - a1))).bind fun mO => ((tidepoleref25_Side.f nJ Ed.1 Ed.2.1 (wrap64 (dD - a1))).bind fun kS => (if (wrap64 (mO.2.2 + kS.2.2)) > 0 then (some (0, 0, 0, 0, 0, ([] : List (fD)), ([] : List (fD)), ([] : List Int), ([] : List Int), 28)) else ((tidepoleref06_Runs.f nJ mO.1).bind fun yB => (if yB > 1024 then (tidepoleref25_Ints.j1 nJ a1 mO.1 mO.2.1 kS.1 kS.2.1 true dD dH dQ dR dO dN dK dJ dI) else ((tidepoleref06_Runs.f nJ kS.1).bind fun zB => (tidepoleref25_Ints.j1 nJ a1 mO.1 mO.2.1 kS.1 kS.2.1 (decide (zB > 1024)) dD dH dQ dR dO dN dK dJ dI))))))))) = some (r1, r2, r3, r4, r5, r6, r7, r8, r9, r10) := by rw [if_neg (show ¬ (false = true) by decide)] at H; exact H
    clear H
    have H := H1
    clear H1
    replace H := Option.bind_eq_some_iff.mp H
    obtain ⟨⟨lg, t105, fU⟩, Sz, H⟩ := H
    replace H : ((tidepoleref09_Side.f nJ dK dI).bind fun Ed => ((tidepoleref25_Side.f nJ lg t105 (wrap64 (dD - a1))).bind fun mO => ((tidepoleref25_Side.f nJ Ed.1 Ed.2.1 (wrap64 (dD - a1))).bind fun kS => (if (wrap64 (mO.2.2 + kS.2.2)) > 0 then (some (0, 0, 0, 0, 0, ([] : List (fD)), ([] : List (fD)), ([] : List Int), ([] : List Int), 28)) else ((tidepoleref06_Runs.f nJ mO.1).bind fun yB => (if yB > 1024 then (tidepoleref25_Ints.j1 nJ a1 mO.1 mO.2.1 kS.1 kS.2.1 true dD dH dQ dR dO dN dK dJ dI) else ((tidepoleref06_Runs.f nJ kS.1).bind fun zB => (tidepoleref25_Ints.j1 nJ a1 mO.1 mO.2.1 kS.1 kS.2.1 (decide (zB > 1024)) dD dH dQ dR dO dN dK dJ dI)))))))) = some (r1, r2, r3, r4, r5, r6, r7, r8, r9, r10) := H
    have XK := ah Sz
    clear Sz
    replace H := Option.bind_eq_some_iff.mp H
    obtain ⟨⟨AA, jQ, tZ⟩, aa4, H⟩ := H
    replace H : ((tidepoleref25_Side.f nJ lg t105 (wrap64 (dD - a1))).bind fun mO => ((tidepoleref25_Side.f nJ AA jQ (wrap64 (dD - a1))).bind fun kS => (if (wrap64 (mO.2.2 + kS.2.2)) > 0 then (some (0, 0, 0, 0, 0, ([] : List (fD)), ([] : List (fD)), ([] : List Int), ([] : List Int), 28)) else ((tidepoleref06_Runs.f nJ mO.1).bind fun yB => (if yB > 1024 then (tidepoleref25_Ints.j1 nJ a1 mO.1 mO.2.1 kS.1 kS.2.1 true dD dH dQ dR dO dN dK dJ dI) else ((tidepoleref06_Runs.f nJ kS.1).bind fun zB => (tidepoleref25_Ints.j1 nJ a1 mO.1 mO.2.1 kS.1 kS.2.1 (decide (zB > 1024)) dD dH dQ dR dO dN dK dJ dI))))))) = some (r1, r2, r3, r4, r5, r6, r7, r8, r9, r10) := H
    have A18 := ah aa4
    clear aa4
    replace H := Option.bind_eq_some_iff.mp H
    obtain ⟨⟨uU, t119, OV⟩, TY, H⟩ := H
    replace H : ((tidepoleref25_Side.f nJ AA jQ (wrap64 (dD - a1))).bind fun kS => (if (wrap64 (OV + kS.2.2)) > 0 then (some (0, 0, 0, 0, 0, ([] : List (fD)), ([] : List (fD)), ([] : List Int), ([] : List Int), 28)) else ((tidepoleref06_Runs.f nJ uU).bind fun yB => (if yB > 1024 then (tidepoleref25_Ints.j1 nJ a1 uU t119 kS.1 kS.2.1 true dD dH dQ dR dO dN dK dJ dI) else ((tidepoleref06_Runs.f nJ kS.1).bind fun zB => (tidepoleref25_Ints.j1 nJ a1 uU t119 kS.1 kS.2.1 (decide (zB > 1024)) dD dH dQ dR dO dN dK dJ dI)))))) = some (r1, r2, r3, r4, r5, r6, r7, r8, r9, r10) := H
    have VN := ah TY
    clear TY
    replace H := Option.bind_eq_some_iff.mp H
    obtain ⟨⟨yC, AY, t127⟩, L9, H⟩ := H
    replace H : (if (wrap64 (OV + t127)) > 0 then (some (0, 0, 0, 0, 0, ([] : List (fD)), ([] : List (fD)), ([] : List Int), ([] : List Int), 28)) else ((tidepoleref06_Runs.f nJ uU).bind fun yB => (if yB > 1024 then (tidepoleref25_Ints.j1 nJ a1 uU t119 yC AY true dD dH dQ dR dO dN dK dJ dI) else ((tidepoleref06_Runs.f nJ yC).bind fun zB => (tidepoleref25_Ints.j1 nJ a1 uU t119 yC AY (decide (zB > 1024)) dD dH dQ dR dO dN dK dJ dI))))) = some (r1, r2, r3, r4, r5, r6, r7, r8, r9, r10) := H
    have sV := ah L9
    clear L9
    by_cases c21 : (wrap64 (OV + t127)) > 0
    ·rw [if_pos c21] at H
     have c21b0 : decide (0 < (wrap64 (OV + t127))) = true := aiJ c21
     clear c21
     simp only [Option.some.injEq, Prod.mk.injEq] at H
     obtain ⟨rfl, rfl, rfl, rfl, rfl, rfl, rfl, rfl, rfl, rfl⟩ := H
     have af6 := aQ.out
     have af7 := fE.out
     have xG := ay aV.out
     have xH := aG aV.out
     go_wp2_with (first | ((with_reducible refine bH (f := 82) rfl ?_); refine eH (some 35) Try.func82 #[.slice iV dN.length iW, .slice iC dJ.length iD] ?_; (with_reducible refine (tidepoleref09_Side.calls nJ _ _ dN _ _ dJ lg t105 fU _ ?dw ?dA ?jr ?jv XK.out).mono ?_); (case dw => exact Kd.jT (Kd.bM nH.out HB.out)); (case dA => exact nI.out); (case jr => exact Kd.jT (Kd.bM oV.out HB.out)); (case jv => exact oW.out); rintro e w24 ⟨v107, v109, rfl, ho0, ho1, hb⟩; refine ⟨_, rfl, ?_⟩; have fK := ah (Kd.bV ho0 (aI (by repeat (first | (with_reducible first | exact HB.out | refine bJ ?_ | refine aA ?_ bZ.out | refine aA ?_ bT.out) | exact HB.out)))); have jV := ah (Kd.bV ho1 (aI (by repeat (first | (with_reducible first | exact HB.out | refine bJ ?_ | refine aA ?_ bZ.out | refine aA ?_ bT.out) | exact HB.out)))); replace aV := ah (dX aV.out hb); replace aN := ah (dX aN.out hb); replace HB := ah (aW (by repeat (first | (with_reducible first | exact HB.out | refine bJ ?_ | refine aA ?_ bZ.out | refine aA ?_ bT.out) | exact HB.out)) hb); (try clear hb); (try clear hb2); (try clear hk); (try clear hi); (try clear ho0); (try clear ho1); clear XK; have Wx := ay aV.out; have Wy := aG aV.out) | ((with_reducible refine bH (f := 82) rfl ?_); refine eH (some 44) Try.func82 #[.slice iR dK.length iT, .slice iE dI.length iF] ?_; (with_reducible refine (tidepoleref09_Side.calls nJ _ _ dK _ _ dI AA jQ tZ _ ?dw ?dA ?jr ?jv A18.out).mono ?_); (case dw => exact Kd.jT (Kd.bM nZ.out HB.out)); (case dA => exact oh.out); (case jr => exact Kd.jT (Kd.bM pG.out HB.out)); (case jv => exact pI.out); rintro e SV ⟨Ux, aaG, rfl, ho0, ho1, hb⟩; refine ⟨_, rfl, ?_⟩; have lG := ah (Kd.bV (Kd.gq ho0 (Kd.jH (Kd.fB fK.out))) (aI (by repeat (first | (with_reducible first | exact HB.out | refine bJ ?_ | refine aA ?_ bZ.out | refine aA ?_ bT.out) | exact HB.out)))); have oZ := ah (Kd.bV (Kd.gq ho1 (Kd.jH (Kd.fB jV.out))) (aI (by repeat (first | (with_reducible first | exact HB.out | refine bJ ?_ | refine aA ?_ bZ.out | refine aA ?_ bT.out) | exact HB.out)))); replace fK := ah (Kd.dW (Kd.fB fK.out) (Kd.fP ho0) hb); replace jV := ah (Kd.dW (Kd.fB jV.out) (Kd.fP ho1) hb); replace aV := ah (dX aV.out hb); replace aN := ah (dX aN.out hb); replace HB := ah (aW (by repeat (first | (with_reducible first | exact HB.out | refine bJ ?_ | refine aA ?_ bZ.out | refine aA ?_ bT.out) | exact HB.out)) hb); (try clear hb); (try clear hb2); (try clear hk); (try clear hi); (try clear ho0); (try clear ho1); clear A18; have Jw := ay aV.out; have Jy := aG aV.out; obtain ⟨aea, aeb, aec⟩ := Kd.bY fK.out; subst aec; obtain ⟨Wh, Q9, Rf⟩ := Kd.bY jV.out; subst Rf) | ((with_reducible refine bH (f := 83) rfl ?_); refine eH (some 55) Try.func83 #[.slice aea lg.length aeb, .slice Wh t105.length Q9, .int .i64 (wrap64 (dD - a1))] ?_; (with_reducible refine (tidepoleref25_Side.calls nJ _ _ lg _ _ t105 (wrap64 (dD - a1)) uU t119 OV _ ?dw ?dA ?jr ?jv VN.out).mono ?_); (case dw => exact Kd.jT (Kd.bD fK.out).2.2); (case dA => exact (Kd.bD fK.out).2.1); (case jr => exact Kd.jT (Kd.bD jV.out).2.2); (case jv => exact (Kd.bD jV.out).2.1); rintro e w30 ⟨Zj, Zk, rfl, ho0, ho1, hb⟩; refine ⟨_, rfl, ?_⟩; have uO := ah (Kd.bV (Kd.gq (Kd.gq ho0 (Kd.jH (Kd.fB fK.out))) (Kd.jH (Kd.fB lG.out))) (aI (by repeat (first | (with_reducible first | exact HB.out | refine bJ ?_ | refine aA ?_ bZ.out | refine aA ?_ bT.out) | exact HB.out)))); have CV := ah (Kd.bV (Kd.gq (Kd.gq ho1 (Kd.jH (Kd.fB jV.out))) (Kd.jH (Kd.fB oZ.out))) (aI (by repeat (first | (with_reducible first | exact HB.out | refine bJ ?_ | refine aA ?_ bZ.out | refine aA ?_ bT.out) | exact HB.out)))); replace fK := ah (Kd.dW (Kd.fB fK.out) (Kd.fP ho0) hb); replace jV := ah (Kd.dW (Kd.fB jV.out) (Kd.fP ho1) hb); replace lG := ah (Kd.dW (Kd.fB lG.out) (Kd.fP ho0) hb); replace oZ := ah (Kd.dW (Kd.fB oZ.out) (Kd.fP ho1) hb); replace aV := ah (dX aV.out hb); replace aN := ah (dX aN.out hb); replace HB := ah (aW (by repeat (first | (with_reducible first | exact HB.out | refine bJ ?_ | refine aA ?_ bZ.out | refine aA ?_ bT.out) | exact HB.out)) hb); (try clear hb); (try clear hb2); (try clear hk); (try clear hi); (try clear ho0); (try clear ho1); clear VN; have BF := ay aV.out; have BG := aG aV.out; obtain ⟨Yq, Yr, Wi⟩ := Kd.bY lG.out; subst Wi; obtain ⟨aed, Z4, Vy⟩ := Kd.bY oZ.out; subst Vy) | ((with_reducible refine bH (f := 83) rfl ?_); refine eH (some 66) Try.func83 #[.slice Yq AA.length Yr, .slice aed jQ.length Z4, .int .i64 (wrap64 (dD - a1))] ?_; (with_reducible refine (tidepoleref25_Side.calls nJ _ _ AA _ _ jQ (wrap64 (dD - a1)) yC AY t127 _ ?dw ?dA ?jr ?jv sV.out).mono ?_); (case dw => exact Kd.jT (Kd.bD lG.out).2.2); (case dA => exact (Kd.bD lG.out).2.1); (case jr => exact Kd.jT (Kd.bD oZ.out).2.2); (case jv => exact (Kd.bD oZ.out).2.1); rintro e w34 ⟨WA, v130, rfl, ho0, ho1, hb⟩; refine ⟨_, rfl, ?_⟩; have Jh := ah (Kd.bV (Kd.gq (Kd.gq (Kd.gq ho0 (Kd.jH (Kd.fB fK.out))) (Kd.jH (Kd.fB lG.out))) (Kd.jH (Kd.fB uO.out))) (aI (by repeat (first | (with_reducible first | exact HB.out | refine bJ ?_ | refine aA ?_ bZ.out | refine aA ?_ bT.out) | exact HB.out)))); have UQ := ah (Kd.bV (Kd.gq (Kd.gq (Kd.gq ho1 (Kd.jH (Kd.fB jV.out))) (Kd.jH (Kd.fB oZ.out))) (Kd.jH (Kd.fB CV.out))) (aI (by repeat (first | (with_reducible first | exact HB.out | refine bJ ?_ | refine aA ?_ bZ.out | refine aA ?_ bT.out) | exact HB.out)))); replace fK := ah (Kd.dW (Kd.fB fK.out) (Kd.fP ho0) hb); replace jV := ah (Kd.dW (Kd.fB jV.out) (Kd.fP ho1) hb); replace lG := ah (Kd.dW (Kd.fB lG.out) (Kd.fP ho0) hb); replace oZ := ah (Kd.dW (Kd.fB oZ.out) (Kd.fP ho1) hb); replace uO := ah (Kd.dW (Kd.fB uO.out) (Kd.fP ho0) hb); replace CV := ah (Kd.dW (Kd.fB CV.out) (Kd.fP ho1) hb); replace aV := ah (dX aV.out hb); replace aN := ah (dX aN.out hb); replace HB := ah (aW (by repeat (first | (with_reducible first | exact HB.out | refine bJ ?_ | refine aA ?_ bZ.out | refine aA ?_ bT.out) | exact HB.out)) hb); (try clear hb); (try clear hb2); (try clear hk); (try clear hi); (try clear ho0); (try clear ho1); clear sV; have EK := ay aN.out; have EL := aG aN.out))
     refine bodyPost_ret (gQ rfl _ _ aJ 41 #[.int .i64 0, .int .u64 0, .int .u64 0, .int .u64 0, .int .u64 0, .slice none 0 0, .slice none 0 0, .slice none 0 0, .slice none 0 0] (0, 0) _ rfl (by (repeat with_reducible refine bQ ?_); refine bC (cs := #[.int .i64 0, .int .u64 0, .int .u64 0, .int .u64 0, .int .u64 0, .slice none 0 0, .slice none 0 0, .slice none 0 0, .slice none 0 0]) ?_ 8 _ rfl; (repeat with_reducible refine bQ ?_); refine bC (cs := #[.int .i64 0, .int .u64 0, .int .u64 0, .int .u64 0, .int .u64 0, .slice none 0 0, .slice none 0 0, .slice none 0 0, .slice none 0 0]) ?_ 7 _ rfl; (repeat with_reducible refine bQ ?_); refine bC (cs := #[.int .i64 0, .int .u64 0, .int .u64 0, .int .u64 0, .int .u64 0, .slice none 0 0, .slice none 0 0, .slice none 0 0, .slice none 0 0]) ?_ 6 _ rfl; (repeat with_reducible refine bQ ?_); refine bC (cs := #[.int .i64 0, .int .u64 0, .int .u64 0, .int .u64 0, .int .u64 0, .slice none 0 0, .slice none 0 0, .slice none 0 0, .slice none 0 0]) ?_ 5 _ rfl; (repeat with_reducible refine bQ ?_); refine bC (cs := #[.int .i64 0, .int .u64 0, .int .u64 0, .int .u64 0, .int .u64 0, .slice none 0 0, .slice none 0 0, .slice none 0 0, .slice none 0 0]) ?_ 4 _ rfl; (repeat with_reducible refine bQ ?_); refine bC (cs := #[.int .i64 0, .int .u64 0, .int .u64 0, .int .u64 0, .int .u64 0, .slice none 0 0, .slice none 0 0, .slice none 0 0, .slice none 0 0]) ?_ 3 _ rfl; (repeat with_reducible refine bQ ?_); refine bC (cs := #[.int .i64 0, .int .u64 0, .int .u64 0, .int .u64 0, .int .u64 0, .slice none 0 0, .slice none 0 0, .slice none 0 0, .slice none 0 0]) ?_ 2 _ rfl; (repeat with_reducible refine bQ ?_); refine bC (cs := #[.int .i64 0, .int .u64 0, .int .u64 0, .int .u64 0, .int .u64 0, .slice none 0 0, .slice none 0 0, .slice none 0 0, .slice none 0 0]) ?_ 1 _ rfl; (repeat with_reducible refine bQ ?_); refine bC (cs := #[.int .i64 0, .int .u64 0, .int .u64 0, .int .u64 0, .int .u64 0, .slice none 0 0, .slice none 0 0, .slice none 0 0, .slice none 0 0]) ?_ 0 _ rfl; (repeat with_reducible refine bQ ?_); exact aN.out) Try.underlying41 rfl (by kernel_rfl)) rfl ?_
     exact ⟨_, _, _, _, by first | rfl | (simp [aT, aU] <;> rfl) | (simp [*, aT, aU] <;> rfl), by first | exact Kd.dY _ _ _ _ _ | exact Kd.gI _ _ _ _ _ | exact Kd.gJ _ _ _ _ _ | exact Kd.gB _ _ _ _ _ | exact Kd.gG _ _ _ _ _, by first | exact Kd.dY _ _ _ _ _ | exact Kd.gI _ _ _ _ _ | exact Kd.gJ _ _ _ _ _ | exact Kd.gB _ _ _ _ _ | exact Kd.gG _ _ _ _ _, by first | exact Kd.dY _ _ _ _ _ | exact Kd.gI _ _ _ _ _ | exact Kd.gJ _ _ _ _ _ | exact Kd.gB _ _ _ _ _ | exact Kd.gG _ _ _ _ _, by first | exact Kd.dY _ _ _ _ _ | exact Kd.gI _ _ _ _ _ | exact Kd.gJ _ _ _ _ _ | exact Kd.gB _ _ _ _ _ | exact Kd.gG _ _ _ _ _, by repeat (first | (with_reducible first | exact HB.out | apply ak | apply au | apply aC | refine aA ?_ bZ.out | refine aA ?_ bT.out) | exact HB.out)⟩
    rw [if_neg c21] at H
    have c21b0 : decide (0 < (wrap64 (OV + t127))) = false := aiK c21
    clear c21
    have Zl := ah H
    clear H
    have af8 := aQ.out
    have af9 := fE.out
    have Qd := ay aV.out
    have Qe := aG aV.out
    go_upto_region 12 with (first | ((with_reducible refine bH (f := 82) rfl ?_); refine eH (some 35) Try.func82 #[.slice iV dN.length iW, .slice iC dJ.length iD] ?_; (with_reducible refine (tidepoleref09_Side.calls nJ _ _ dN _ _ dJ lg t105 fU _ ?dw ?dA ?jr ?jv XK.out).mono ?_); (case dw => exact Kd.jT (Kd.bM nH.out HB.out)); (case dA => exact nI.out); (case jr => exact Kd.jT (Kd.bM oV.out HB.out)); (case jv => exact oW.out); rintro e w39 ⟨v107, v109, rfl, ho0, ho1, hb⟩; refine ⟨_, rfl, ?_⟩; have fK := ah (Kd.bV ho0 (aI (by repeat (first | (with_reducible first | exact HB.out | refine bJ ?_ | refine aA ?_ bZ.out | refine aA ?_ bT.out) | exact HB.out)))); have jV := ah (Kd.bV ho1 (aI (by repeat (first | (with_reducible first | exact HB.out | refine bJ ?_ | refine aA ?_ bZ.out | refine aA ?_ bT.out) | exact HB.out)))); replace aV := ah (dX aV.out hb); replace aN := ah (dX aN.out hb); replace HB := ah (aW (by repeat (first | (with_reducible first | exact HB.out | refine bJ ?_ | refine aA ?_ bZ.out | refine aA ?_ bT.out) | exact HB.out)) hb); (try clear hb); (try clear hb2); (try clear hk); (try clear hi); (try clear ho0); (try clear ho1); clear XK; have Px := ay aV.out; have Py := aG aV.out) | ((with_reducible refine bH (f := 82) rfl ?_); refine eH (some 44) Try.func82 #[.slice iR dK.length iT, .slice iE dI.length iF] ?_; (with_reducible refine (tidepoleref09_Side.calls nJ _ _ dK _ _ dI AA jQ tZ _ ?dw ?dA ?jr ?jv A18.out).mono ?_); (case dw => exact Kd.jT (Kd.bM nZ.out HB.out)); (case dA => exact oh.out); (case jr => exact Kd.jT (Kd.bM pG.out HB.out)); (case jv => exact pI.out); rintro e w41 ⟨Ux, aaG, rfl, ho0, ho1, hb⟩; refine ⟨_, rfl, ?_⟩; have lG := ah (Kd.bV (Kd.gq ho0 (Kd.jH (Kd.fB fK.out))) (aI (by repeat (first | (with_reducible first | exact HB.out | refine bJ ?_ | refine aA ?_ bZ.out | refine aA ?_ bT.out) | exact HB.out)))); have oZ := ah (Kd.bV (Kd.gq ho1 (Kd.jH (Kd.fB jV.out))) (aI (by repeat (first | (with_reducible first | exact HB.out | refine bJ ?_ | refine aA ?_ bZ.out | refine aA ?_ bT.out) | exact HB.out)))); replace fK := ah (Kd.dW (Kd.fB fK.out) (Kd.fP ho0) hb); replace jV := ah (Kd.dW (Kd.fB jV.out) (Kd.fP ho1) hb); replace aV := ah (dX aV.out hb); replace aN := ah (dX aN.out hb); replace HB := ah (aW (by repeat (first | (with_reducible first | exact HB.out | refine bJ ?_ | refine aA ?_ bZ.out | refine aA ?_ bT.out) | exact HB.out)) hb); (try clear hb); (try clear hb2); (try clear hk); (try clear hi); (try clear ho0); (try clear ho1); clear A18; have WB := ay aV.out; have WE := aG aV.out; obtain ⟨aee, aef, aeg⟩ := Kd.bY fK.out; subst aeg; obtain ⟨aeh, aei, aej⟩ := Kd.bY jV.out; subst aej) | ((with_reducible refine bH (f := 83) rfl ?_); refine eH (some 55) Try.func83 #[.slice aee lg.length aef, .slice aeh t105.length aei, .int .i64 (wrap64 (dD - a1))] ?_; (with_reducible refine (tidepoleref25_Side.calls nJ _ _ lg _ _ t105 (wrap64 (dD - a1)) uU t119 OV _ ?dw ?dA ?jr ?jv VN.out).mono ?_); (case dw => exact Kd.jT (Kd.bD fK.out).2.2); (case dA => exact (Kd.bD fK.out).2.1); (case jr => exact Kd.jT (Kd.bD jV.out).2.2); (case jv => exact (Kd.bD jV.out).2.1); rintro e w45 ⟨Zj, Zk, rfl, ho0, ho1, hb⟩; refine ⟨_, rfl, ?_⟩; have uO := ah (Kd.bV (Kd.gq (Kd.gq ho0 (Kd.jH (Kd.fB fK.out))) (Kd.jH (Kd.fB lG.out))) (aI (by repeat (first | (with_reducible first | exact HB.out | refine bJ ?_ | refine aA ?_ bZ.out | refine aA ?_ bT.out) | exact HB.out)))); have CV := ah (Kd.bV (Kd.gq (Kd.gq ho1 (Kd.jH (Kd.fB jV.out))) (Kd.jH (Kd.fB oZ.out))) (aI (by repeat (first | (with_reducible first | exact HB.out | refine bJ ?_ | refine aA ?_ bZ.out | refine aA ?_ bT.out) | exact HB.out)))); replace fK := ah (Kd.dW (Kd.fB fK.out) (Kd.fP ho0) hb); replace jV := ah (Kd.dW (Kd.fB jV.out) (Kd.fP ho1) hb); replace lG := ah (Kd.dW (Kd.fB lG.out) (Kd.fP ho0) hb); replace oZ := ah (Kd.dW (Kd.fB oZ.out) (Kd.fP ho1) hb); replace aV := ah (dX aV.out hb); replace aN := ah (dX aN.out hb); replace HB := ah (aW (by repeat (first | (with_reducible first | exact HB.out | refine bJ ?_ | refine aA ?_ bZ.out | refine aA ?_ bT.out) | exact HB.out)) hb); (try clear hb); (try clear hb2); (try clear hk); (try clear hi); (try clear ho0); (try clear ho1); clear VN; have WG := ay aV.out; have WH := aG aV.out; obtain ⟨aek, ael, aem⟩ := Kd.bY lG.out; subst aem; obtain ⟨aen, aeo, aep⟩ := Kd.bY oZ.out; subst aep) | ((with_reducible refine bH (f := 83) rfl ?_); refine eH (some 66) Try.func83 #[.slice aek AA.length ael, .slice aen jQ.length aeo, .int .i64 (wrap64 (dD - a1))] ?_; (with_reducible refine (tidepoleref25_Side.calls nJ _ _ AA _ _ jQ (wrap64 (dD - a1)) yC AY t127 _ ?dw ?dA ?jr ?jv sV.out).mono ?_); (case dw => exact Kd.jT (Kd.bD lG.out).2.2); (case dA => exact (Kd.bD lG.out).2.1); (case jr => exact Kd.jT (Kd.bD oZ.out).2.2); (case jv => exact (Kd.bD oZ.out).2.1); rintro e w49 ⟨WA, v130, rfl, ho0, ho1, hb⟩; refine ⟨_, rfl, ?_⟩; have Jh := ah (Kd.bV (Kd.gq (Kd.gq (Kd.gq ho0 (Kd.jH (Kd.fB fK.out))) (Kd.jH (Kd.fB lG.out))) (Kd.jH (Kd.fB uO.out))) (aI (by repeat (first | (with_reducible first | exact HB.out | refine bJ ?_ | refine aA ?_ bZ.out | refine aA ?_ bT.out) | exact HB.out)))); have UQ := ah (Kd.bV (Kd.gq (Kd.gq (Kd.gq ho1 (Kd.jH (Kd.fB jV.out))) (Kd.jH (Kd.fB oZ.out))) (Kd.jH (Kd.fB CV.out))) (aI (by repeat (first | (with_reducible first | exact HB.out | refine bJ ?_ | refine aA ?_ bZ.out | refine aA ?_ bT.out) | exact HB.out)))); replace fK := ah (Kd.dW (Kd.fB fK.out) (Kd.fP ho0) hb); replace jV := ah (Kd.dW (Kd.fB jV.out) (Kd.fP ho1) hb); replace lG := ah (Kd.dW (Kd.fB lG.out) (Kd.fP ho0) hb); replace oZ := ah (Kd.dW (Kd.fB oZ.out) (Kd.fP ho1) hb); replace uO := ah (Kd.dW (Kd.fB uO.out) (Kd.fP ho0) hb); replace CV := ah (Kd.dW (Kd.fB CV.out) (Kd.fP ho1) hb); replace aV := ah (dX aV.out hb); replace aN := ah (dX aN.out hb); replace HB := ah (aW (by repeat (first | (with_reducible first | exact HB.out | refine bJ ?_ | refine aA ?_ bZ.out | refine aA ?_ bT.out) | exact HB.out)) hb); (try clear hb); (try clear hb2); (try clear hk); (try clear hi); (try clear ho0); (try clear ho1); clear sV))
    (try simp only [Act.put, List.setIfInBounds_toArray, List.set_cons_zero, List.set_cons_succ])
    go_cut [82] (fun v82 wc => ∃ (kq : Nat) (Kw : Bool), v82 = .bool Kw ∧ aj (tidepoleref25_Ints.j1 kq a1 uU t119 yC AY Kw dD dH dQ dR dO dN dK dJ dI = some (r1, r2, r3, r4, r5, r6, r7, r8, r9, r10)) ∧ aj (kq ≤ nJ) ∧ aj (Kd.R (Kd.int .i64) 3 wc w.heap.size (fun k_ => some k_ ≠ (WA : Value).ownBlock) Zj uU) ∧ aj (Kd.R (Kd.int .i64) 2 wc w.heap.size (fun k_ => some k_ ≠ (v130 : Value).ownBlock) Zk t119) ∧ aj (Kd.R (Kd.int .i64) 3 wc w.heap.size (fun k_ => some k_ ≠ (Zj : Value).ownBlock) WA yC) ∧ aj (Kd.R (Kd.int .i64) 2 wc w.heap.size (fun k_ => some k_ ≠ (Zk : Value).ownBlock) v130 AY) ∧ aj (wc.heap[cO]? = some (.cells #[.int .i64 dD, .int .u64 dH, .int .u64 dQ, .int .u64 dR, .int .u64 dO, (.slice iV dN.length iW), (.slice iR dK.length iT), (.slice iC dJ.length iD), (.slice iE dI.length iF)] 41 (0, 0))) ∧ aj (wc.heap[aJ]? = some (.cells #[.int .i64 0, .int .u64 0, .int .u64 0, .int .u64 0, .int .u64 0, (.slice none 0 0), (.slice none 0 0), (.slice none 0 0), (.slice none 0 0)] 41 (0, 0))) ∧ aj (Below w.heap.size w wc))
    case first =>
     have H := Zl.out
     clear Zl
     replace H := Option.bind_eq_some_iff.mp H
     obtain ⟨yB, aa5, H⟩ := H
     replace H : (if yB > 1024 then (tidepoleref25_Ints.j1 nJ a1 uU t119 yC AY true dD dH dQ dR dO dN dK dJ dI) else ((tidepoleref06_Runs.f nJ yC).bind fun zB => (tidepoleref25_Ints.j1 nJ a1 uU t119 yC AY (decide (zB > 1024)) dD dH dQ dR dO dN dK dJ dI))) = some (r1, r2, r3, r4, r5, r6, r7, r8, r9, r10) := H
     have JR := ah aa5
     clear aa5
     by_cases c51 : yB > 1024
     ·rw [if_pos c51] at H
      have c51b0 : decide (1024 < yB) = true := aiJ c51
      clear c51
      (first | rw [c51b0] | (simp only [dh, dF]; rw [c51b0]) | skip)
      have H' := ah H
      clear H
      obtain ⟨aer, aes, aeu⟩ := Kd.bY uO.out
      subst aeu
      go_wp2_with (first | ((with_reducible refine bH (f := 84) rfl ?_); refine eH (some 76) Try.func84 #[.slice aer uU.length aes] ?_; (with_reducible refine (tidepoleref06_Runs.calls nJ _ _ uU yB _ ?dw ?dA JR.out).mono ?_); (case dw => exact Kd.jT (Kd.bD uO.out).2.2); (case dA => exact (Kd.bD uO.out).2.1); rintro e w' ⟨rfl, ⟨nd, rfl⟩⟩; refine ⟨_, rfl, ?_⟩; clear JR))
      go_meet
      case rel => exact ⟨_, (true), (by first | rfl | (simp; done) | (simp [*]; done)), H', ⟨by have := Jv.out; first | omega | exact Nat.le_refl _⟩, ⟨by (repeat with_reducible refine Kd.kJ ?_); exact Kd.cu uO.out (fun _ hk => hk.2)⟩, ⟨by (repeat with_reducible refine Kd.kJ ?_); exact Kd.cu CV.out (fun _ hk => hk.2)⟩, ⟨by (repeat with_reducible refine Kd.kJ ?_); exact Kd.cu Jh.out (fun _ hk => hk.2)⟩, ⟨by (repeat with_reducible refine Kd.kJ ?_); exact Kd.cu UQ.out (fun _ hk => hk.2)⟩, ⟨by (repeat with_reducible refine bQ ?_); exact aV.out⟩, ⟨by (repeat with_reducible refine bQ ?_); exact aN.out⟩, ⟨by repeat (first | (with_reducible first | exact HB.out | apply ak | apply au | apply aC | refine aA ?_ bZ.out | refine aA ?_ bT.out) | exact HB.out)⟩⟩
     rw [if_neg c51] at H
     have c51b0 : decide (1024 < yB) = false := aiK c51
     clear c51
     (first | rw [c51b0] | (simp only [dh, dF]; rw [c51b0]) | skip)
     replace H := Option.bind_eq_some_iff.mp H
     obtain ⟨zB, aa6, H⟩ := H
     replace H : (tidepoleref25_Ints.j1 nJ a1 uU t119 yC AY (decide (zB > 1024)) dD dH dQ dR dO dN dK dJ dI) = some (r1, r2, r3, r4, r5, r6, r7, r8, r9, r10) := H
     have A53 := ah aa6
     clear aa6
     have H' := ah H
     clear H
     obtain ⟨aev, aew, aex⟩ := Kd.bY uO.out
     subst aex
     go_wp2_with (first | ((with_reducible refine bH (f := 84) rfl ?_); refine eH (some 76) Try.func84 #[.slice aev uU.length aew] ?_; (with_reducible refine (tidepoleref06_Runs.calls nJ _ _ uU yB _ ?dw ?dA JR.out).mono ?_); (case dw => exact Kd.jT (Kd.bD uO.out).2.2); (case dA => exact (Kd.bD uO.out).2.1); rintro e w' ⟨rfl, ⟨nd, rfl⟩⟩; refine ⟨_, rfl, ?_⟩; clear JR; obtain ⟨ahK, ahL, aey⟩ := Kd.bY Jh.out; subst aey) | (go_at_call 84; (with_reducible refine (tidepoleref06_Runs.calls nJ _ _ yC zB _ ?dw ?dA A53.out).mono ?_); (case dw => exact Kd.jT (Kd.bD Jh.out).2.2); (case dA => exact (Kd.bD Jh.out).2.1); rintro e w' ⟨rfl, ⟨nd, rfl⟩⟩; clear A53))
     go_meet
     case rel => exact ⟨_, (decide (zB > 1024)), (by first | rfl | (simp; done) | (simp [*]; done)), H', ⟨by have := Jv.out; first | omega | exact Nat.le_refl _⟩, ⟨by (repeat with_reducible refine Kd.kJ ?_); exact Kd.cu uO.out (fun _ hk => hk.2)⟩, ⟨by (repeat with_reducible refine Kd.kJ ?_); exact Kd.cu CV.out (fun _ hk => hk.2)⟩, ⟨by (repeat with_reducible refine Kd.kJ ?_); exact Kd.cu Jh.out (fun _ hk => hk.2)⟩, ⟨by (repeat with_reducible refine Kd.kJ ?_); exact Kd.cu UQ.out (fun _ hk => hk.2)⟩, ⟨by (repeat with_reducible refine bQ ?_); exact aV.out⟩, ⟨by (repeat with_reducible refine bQ ?_); exact aN.out⟩, ⟨by repeat (first | (with_reducible first | exact HB.out | apply ak | apply au | apply aC | refine aA ?_ bZ.out | refine aA ?_ bT.out) | exact HB.out)⟩⟩
    case rest =>
     clear Zl
     try clear c1
     try clear c2
     try clear p2
     try clear c3
     try clear c4
     try clear c4b0
     try clear c4b1
     try clear c5
     try clear p6
     try clear c8
     try clear c11
     try clear c11b0
     try clear c12
     try clear c14
     try clear c15
     try clear c21
     try clear c21b0
     try clear Rw
     try clear c28
     try clear c37
     try clear X0
     try clear c51
     try clear c51b0
     try clear xq
     try clear EG
     try clear xG
     try clear Wx
     try clear Jw
     try clear BF
     try clear EK
     try clear Qd
     try clear Px
     try clear WB
     try clear WG
     try clear sS
     try clear xu
     try clear EH
     try clear xH
     try clear Wy
     try clear Jy
     try clear BG
     try clear EL
     try clear Qe
     try clear Py
     try clear WE
     try clear WH
     try clear sU
     try clear p2
     obtain ⟨kq, Kw, rfl, HA, ahM, HO_7, HO_8, HO_10, HO_11, aV, aN, HB⟩ := hcut
     cases kq with
     | zero => exact absurd HA.out (by simp [tidepoleref25_Ints.j1])
     | succ CW =>
      have H := HA.out
      clear HA
      simp only [tidepoleref25_Ints.j1] at H
      by_cases c56 : Kw = true
      ·subst c56
       have H1 : (some (0, 0, 0, 0, 0, ([] : List (fD)), ([] : List (fD)), ([] : List Int), ([] : List Int), 12)) = some (r1, r2, r3, r4, r5, r6, r7, r8, r9, r10) := by rw [if_pos rfl] at H; exact H
       clear H
       have H := H1
       clear H1
       simp only [Option.some.injEq, Prod.mk.injEq] at H
       obtain ⟨rfl, rfl, rfl, rfl, rfl, rfl, rfl, rfl, rfl, rfl⟩ := H
       have agb := fE.out
       have agc := aQ.out
       have acD := ay aN.out
       have acE := aG aN.out
       go_wp2
       refine bodyPost_ret (gQ rfl _ _ aJ 41 #[.int .i64 0, .int .u64 0, .int .u64 0, .int .u64 0, .int .u64 0, .slice none 0 0, .slice none 0 0, .slice none 0 0, .slice none 0 0] (0, 0) _ rfl (by (repeat with_reducible refine bQ ?_); refine bC (cs := #[.int .i64 0, .int .u64 0, .int .u64 0, .int .u64 0, .int .u64 0, .slice none 0 0, .slice none 0 0, .slice none 0 0, .slice none 0 0]) ?_ 8 _ rfl; (repeat with_reducible refine bQ ?_); refine bC (cs := #[.int .i64 0, .int .u64 0, .int .u64 0, .int .u64 0, .int .u64 0, .slice none 0 0, .slice none 0 0, .slice none 0 0, .slice none 0 0]) ?_ 7 _ rfl; (repeat with_reducible refine bQ ?_); refine bC (cs := #[.int .i64 0, .int .u64 0, .int .u64 0, .int .u64 0, .int .u64 0, .slice none 0 0, .slice none 0 0, .slice none 0 0, .slice none 0 0]) ?_ 6 _ rfl; (repeat with_reducible refine bQ ?_); refine bC (cs := #[.int .i64 0, .int .u64 0, .int .u64 0, .int .u64 0, .int .u64 0, .slice none 0 0, .slice none 0 0, .slice none 0 0, .slice none 0 0]) ?_ 5 _ rfl; (repeat with_reducible refine bQ ?_); refine bC (cs := #[.int .i64 0, .int .u64 0, .int .u64 0, .int .u64 0, .int .u64 0, .slice none 0 0, .slice none 0 0, .slice none 0 0, .slice none 0 0]) ?_ 4 _ rfl; (repeat with_reducible refine bQ ?_); refine bC (cs := #[.int .i64 0, .int .u64 0, .int .u64 0, .int .u64 0, .int .u64 0, .slice none 0 0, .slice none 0 0, .slice none 0 0, .slice none 0 0]) ?_ 3 _ rfl; (repeat with_reducible refine bQ ?_); refine bC (cs := #[.int .i64 0, .int .u64 0, .int .u64 0, .int .u64 0, .int .u64 0, .slice none 0 0, .slice none 0 0, .slice none 0 0, .slice none 0 0]) ?_ 2 _ rfl; (repeat with_reducible refine bQ ?_); refine bC (cs := #[.int .i64 0, .int .u64 0, .int .u64 0, .int .u64 0, .int .u64 0, .slice none 0 0, .slice none 0 0, .slice none 0 0, .slice none 0 0]) ?_ 1 _ rfl; (repeat with_reducible refine bQ ?_); refine bC (cs := #[.int .i64 0, .int .u64 0, .int .u64 0, .int .u64 0, .int .u64 0, .slice none 0 0, .slice none 0 0, .slice none 0 0, .slice none 0 0]) ?_ 0 _ rfl; (repeat with_reducible refine bQ ?_); exact aN.out) Try.underlying41 rfl (by kernel_rfl)) rfl ?_
       exact ⟨_, _, _, _, by first | rfl | (simp [aT, aU] <;> rfl) | (simp [*, aT, aU] <;> rfl), by first | exact Kd.dY _ _ _ _ _ | exact Kd.gI _ _ _ _ _ | exact Kd.gJ _ _ _ _ _ | exact Kd.gB _ _ _ _ _ | exact Kd.gG _ _ _ _ _, by first | exact Kd.dY _ _ _ _ _ | exact Kd.gI _ _ _ _ _ | exact Kd.gJ _ _ _ _ _ | exact Kd.gB _ _ _ _ _ | exact Kd.gG _ _ _ _ _, by first | exact Kd.dY _ _ _ _ _ | exact Kd.gI _ _ _ _ _ | exact Kd.gJ _ _ _ _ _ | exact Kd.gB _ _ _ _ _ | exact Kd.gG _ _ _ _ _, by first | exact Kd.dY _ _ _ _ _ | exact Kd.gI _ _ _ _ _ | exact Kd.gJ _ _ _ _ _ | exact Kd.gB _ _ _ _ _ | exact Kd.gG _ _ _ _ _, by repeat (first | (with_reducible first | exact HB.out | apply ak | apply au | apply aC | refine aA ?_ bZ.out | refine aA ?_ bT.out) | exact HB.out)⟩
      replace c56 := Bool.eq_false_iff.mpr c56
      subst c56
      have H1 : ((tidepoleref17_Runs.f CW uU).bind fun rP => ((tidepoleref25_deltas.f CW t119).bind fun tq => ((tidepoleref17_Runs.f CW yC).bind fun uT => ((tidepoleref25_deltas.f CW AY).bind fun t143 => (some (a1, dH, dQ, dR, dO, rP, uT, tq, t143, 0)))))) = some (r1, r2, r3, r4, r5, r6, r7, r8, r9, r10) := by rw [if_neg (show ¬ (false = true) by decide)] at H; exact H
      clear H
      have H := H1
      clear H1
      replace H := Option.bind_eq_some_iff.mp H
      obtain ⟨rP, aa7, H⟩ := H
      replace H : ((tidepoleref25_deltas.f CW t119).bind fun tq => ((tidepoleref17_Runs.f CW yC).bind fun uT => ((tidepoleref25_deltas.f CW AY).bind fun t143 => (some (a1, dH, dQ, dR, dO, rP, uT, tq, t143, 0))))) = some (r1, r2, r3, r4, r5, r6, r7, r8, r9, r10) := H
      have A59 := ah aa7
      clear aa7
      replace H := Option.bind_eq_some_iff.mp H
      obtain ⟨tq, aa8, H⟩ := H
      replace H : ((tidepoleref17_Runs.f CW yC).bind fun uT => ((tidepoleref25_deltas.f CW AY).bind fun t143 => (some (a1, dH, dQ, dR, dO, rP, uT, tq, t143, 0)))) = some (r1, r2, r3, r4, r5, r6, r7, r8, r9, r10) := H
      have Pq := ah aa8
      clear aa8
      replace H := Option.bind_eq_some_iff.mp H
      obtain ⟨uT, aa9, H⟩ := H
      replace H : ((tidepoleref25_deltas.f CW AY).bind fun t143 => (some (a1, dH, dQ, dR, dO, rP, uT, tq, t143, 0))) = some (r1, r2, r3, r4, r5, r6, r7, r8, r9, r10) := H
      have A61 := ah aa9
      clear aa9
      replace H := Option.bind_eq_some_iff.mp H
      obtain ⟨t143, abb, H⟩ := H
      replace H : (some (a1, dH, dQ, dR, dO, rP, uT, tq, t143, 0)) = some (r1, r2, r3, r4, r5, r6, r7, r8, r9, r10) := H
      have A62 := ah abb
      clear abb
      simp only [Option.some.injEq, Prod.mk.injEq] at H
      obtain ⟨rfl, rfl, rfl, rfl, rfl, rfl, rfl, rfl, rfl, rfl⟩ := H
      have agi := aQ.out
      have agj := fE.out
      have acF := ay aV.out
      have acG := aG aV.out
      obtain ⟨abd, Zm, aez⟩ := Kd.bY HO_7.out
      subst aez
      go_wp2_with (first | ((with_reducible refine bH (f := 85) rfl ?_); refine eH (some 87) Try.func85 #[.slice abd uU.length Zm] ?_; (with_reducible refine (tidepoleref17_Runs.calls CW _ _ uU rP _ ?dw ?dA A59.out).mono ?_); (case dw => refine (Kd.bD (e := 3) (base := w.heap.size) (ok := fun k_ => some k_ ≠ (WA : Value).ownBlock) (n := uU.length) (c := Zm) ?_).2.2; exact (Kd.fB (Kd.cu (Kd.cZ (p := ⟨cO, 0, none⟩) (Kd.gY HO_7.out aV.out (by decide)) (fun _ hk => hk.2) (.int .i64 a1)) (fun _ h_ => h_.1)))); (case dA => exact (Kd.bD HO_7.out).2.1); rintro e w66 ⟨ahN, rfl, ho0, hb⟩; refine ⟨_, rfl, ?_⟩; have gZ := ah (Kd.fC (Kd.fB (Kd.cu (Kd.cZ (p := ⟨cO, 0, none⟩) (Kd.gY HO_7.out aV.out (by decide)) (fun _ hk => hk.2) (.int .i64 a1)) (fun _ h_ => h_.1))) hb); have iL := ah (Kd.fC (Kd.fB (Kd.cu (Kd.cZ (p := ⟨cO, 0, none⟩) (Kd.gY HO_8.out aV.out (by decide)) (fun _ hk => hk.2) (.int .i64 a1)) (fun _ h_ => h_.1))) hb); have jC := ah (Kd.fC (Kd.fB (Kd.cu (Kd.cZ (p := ⟨cO, 0, none⟩) (Kd.gY HO_10.out aV.out (by decide)) (fun _ hk => hk.2) (.int .i64 a1)) (fun _ h_ => h_.1))) hb); have jZ := ah (Kd.fC (Kd.fB (Kd.cu (Kd.cZ (p := ⟨cO, 0, none⟩) (Kd.gY HO_11.out aV.out (by decide)) (fun _ hk => hk.2) (.int .i64 a1)) (fun _ h_ => h_.1))) hb); have Ai := ah (Kd.bV ho0 (aI (by repeat (first | (with_reducible first | exact HB.out | refine bJ ?_ | refine aA ?_ bZ.out | refine aA ?_ bT.out) | exact HB.out)))); replace aV := ah (bG (g := cO) (o := .cells #[.int .i64 a1, .int .u64 dH, .int .u64 dQ, .int .u64 dR, .int .u64 dO, .slice iV dN.length iW, .slice iR dK.length iT, .slice iC dJ.length iD, .slice iE dI.length iF] 41 (0, 0)) (by (repeat with_reducible refine bQ ?_); refine bC (cs := #[.int .i64 dD, .int .u64 dH, .int .u64 dQ, .int .u64 dR, .int .u64 dO, .slice iV dN.length iW, .slice iR dK.length iT, .slice iC dJ.length iD, .slice iE dI.length iF]) ?_ 0 _ rfl; (repeat with_reducible refine bQ ?_); exact aV.out) hb); replace aN := ah (bG (g := aJ) (o := .cells #[.int .i64 0, .int .u64 0, .int .u64 0, .int .u64 0, .int .u64 0, .slice none 0 0, .slice none 0 0, .slice none 0 0, .slice none 0 0] 41 (0, 0)) (by (repeat with_reducible refine bQ ?_); refine iG ?_ fE.out _; (repeat with_reducible refine bQ ?_); exact aN.out) hb); replace HB := ah (aW (by repeat (first | (with_reducible first | exact HB.out | refine bJ ?_ | refine aA ?_ bZ.out | refine aA ?_ bT.out) | exact HB.out)) hb); clear HO_7; have HO_7 := gZ; clear gZ HO_8; have HO_8 := iL; clear iL HO_10; have HO_10 := jC; clear jC HO_11; have HO_11 := jZ; clear jZ; (try clear hb); (try clear hb2); (try clear hk); (try clear hi); (try clear ho0); clear A59; obtain ⟨aeA, aeB, aeC⟩ := Kd.bY HO_8.out; subst aeC) | ((with_reducible refine bH (f := 86) rfl ?_); refine eH (some 89) Try.func86 #[.slice aeA t119.length aeB] ?_; (with_reducible refine (tidepoleref25_deltas.calls CW _ _ t119 tq _ ?dw ?dA Pq.out).mono ?_); (case dw => exact Kd.jT (Kd.bD HO_8.out).2.2); (case dA => exact (Kd.bD HO_8.out).2.1); rintro e w68 ⟨v138, rfl, ho0, hb⟩; refine ⟨_, rfl, ?_⟩; have Ee := ah (Kd.bV (Kd.gq (Kd.gq ho0 (Kd.jH (Kd.fB HO_8.out))) (Kd.jH (Kd.fB HO_11.out))) (aI (by repeat (first | (with_reducible first | exact HB.out | refine bJ ?_ | refine aA ?_ bZ.out | refine aA ?_ bT.out) | exact HB.out)))); replace HO_7 := ah (Kd.kE HO_7.out hb); replace HO_8 := ah (Kd.dW (Kd.fB HO_8.out) (Kd.fP ho0) hb); replace HO_10 := ah (Kd.kE HO_10.out hb); replace HO_11 := ah (Kd.dW (Kd.fB HO_11.out) (Kd.fP ho0) hb); replace Ai := ah (Kd.kE Ai.out hb); replace aV := ah (dX aV.out hb); replace aN := ah (dX aN.out hb); replace HB := ah (aW (by repeat (first | (with_reducible first | exact HB.out | refine bJ ?_ | refine aA ?_ bZ.out | refine aA ?_ bT.out) | exact HB.out)) hb); (try clear hb); (try clear hb2); (try clear hk); (try clear hi); (try clear ho0); clear Pq; obtain ⟨yD, yE, aeD⟩ := Kd.bY Ai.out; subst aeD; have acH := ay aV.out; have acI := aG aV.out; obtain ⟨AZ, Ba, aeE⟩ := Kd.bY Ee.out; subst aeE; obtain ⟨aeF, abe, aeG⟩ := Kd.bY HO_10.out; subst aeG) | ((with_reducible refine bH (f := 85) rfl ?_); refine eH (some 93) Try.func85 #[.slice aeF yC.length abe] ?_; (with_reducible refine (tidepoleref17_Runs.calls CW _ _ yC uT _ ?dw ?dA A61.out).mono ?_); (case dw => refine (Kd.bD (e := 3) (base := w.heap.size) (ok := fun k_ => some k_ ≠ (.slice abd uU.length Zm : Value).ownBlock) (n := yC.length) (c := abe) ?_).2.2; exact (Kd.fB (Kd.cu (Kd.cZ (p := ⟨cO, 7, none⟩) (Kd.cZ (p := ⟨cO, 5, none⟩) (Kd.gY HO_10.out aV.out (by decide)) (fun _ hk => hk.2) (.slice yD rP.length yE)) (fun _ hk => hk.2) (.slice AZ tq.length Ba)) (fun _ h_ => h_.1)))); (case dA => exact (Kd.bD HO_10.out).2.1); rintro e w73 ⟨v141, rfl, ho0, hb⟩; refine ⟨_, rfl, ?_⟩; have gZ := ah (Kd.fC (Kd.fB (Kd.cu (Kd.cZ (p := ⟨cO, 7, none⟩) (Kd.cZ (p := ⟨cO, 5, none⟩) (Kd.gY HO_7.out aV.out (by decide)) (fun _ hk => hk.2) (.slice yD rP.length yE)) (fun _ hk => hk.2) (.slice AZ tq.length Ba)) (fun _ h_ => h_.1))) hb); have iL := ah (Kd.fC (Kd.fB (Kd.cu (Kd.cZ (p := ⟨cO, 7, none⟩) (Kd.cZ (p := ⟨cO, 5, none⟩) (Kd.gY HO_8.out aV.out (by decide)) (fun _ hk => hk.2) (.slice yD rP.length yE)) (fun _ hk => hk.2) (.slice AZ tq.length Ba)) (fun _ h_ => h_.1))) hb); have jC := ah (Kd.fC (Kd.fB (Kd.cu (Kd.cZ (p := ⟨cO, 7, none⟩) (Kd.cZ (p := ⟨cO, 5, none⟩) (Kd.gY HO_10.out aV.out (by decide)) (fun _ hk => hk.2) (.slice yD rP.length yE)) (fun _ hk => hk.2) (.slice AZ tq.length Ba)) (fun _ h_ => h_.1))) hb); have jZ := ah (Kd.fC (Kd.fB (Kd.cu (Kd.cZ (p := ⟨cO, 7, none⟩) (Kd.cZ (p := ⟨cO, 5, none⟩) (Kd.gY HO_11.out aV.out (by decide)) (fun _ hk => hk.2) (.slice yD rP.length yE)) (fun _ hk => hk.2) (.slice AZ tq.length Ba)) (fun _ h_ => h_.1))) hb); have mQ := ah (Kd.dW (Kd.fB (Kd.cu (Kd.cZ (p := ⟨cO, 7, none⟩) (Kd.cZ (p := ⟨cO, 5, none⟩) (Kd.gY Ai.out aV.out (by decide)) (fun _ hk => hk.2) (.slice yD rP.length yE)) (fun _ hk => hk.2) (.slice AZ tq.length Ba)) (fun _ h_ => h_.1))) (Kd.fP ho0) hb); have qY := ah (Kd.fC (Kd.fB (Kd.cu (Kd.cZ (p := ⟨cO, 7, none⟩) (Kd.cZ (p := ⟨cO, 5, none⟩) (Kd.gY Ee.out aV.out (by decide)) (fun _ hk => hk.2) (.slice yD rP.length yE)) (fun _ hk => hk.2) (.slice AZ tq.length Ba)) (fun _ h_ => h_.1))) hb); have Qk := ah (Kd.bV (Kd.gq ho0 (Kd.jH (Kd.fB (Kd.cu (Kd.cZ (p := ⟨cO, 7, none⟩) (Kd.cZ (p := ⟨cO, 5, none⟩) (Kd.gY Ai.out aV.out (by decide)) (fun _ hk => hk.2) (.slice yD rP.length yE)) (fun _ hk => hk.2) (.slice AZ tq.length Ba)) (fun _ h_ => h_.1))))) (aI (by repeat (first | (with_reducible first | exact HB.out | refine bJ ?_ | refine aA ?_ bZ.out | refine aA ?_ bT.out) | exact HB.out)))); replace aV := ah (bG (g := cO) (o := .cells #[.int .i64 a1, .int .u64 dH, .int .u64 dQ, .int .u64 dR, .int .u64 dO, .slice yD rP.length yE, .slice iR dK.length iT, .slice AZ tq.length Ba, .slice iE dI.length iF] 41 (0, 0)) (by (repeat with_reducible refine bQ ?_); refine bC (cs := #[.int .i64 a1, .int .u64 dH, .int .u64 dQ, .int .u64 dR, .int .u64 dO, .slice yD rP.length yE, .slice iR dK.length iT, .slice iC dJ.length iD, .slice iE dI.length iF]) ?_ 7 _ rfl; (repeat with_reducible refine bQ ?_); refine bC (cs := #[.int .i64 a1, .int .u64 dH, .int .u64 dQ, .int .u64 dR, .int .u64 dO, .slice iV dN.length iW, .slice iR dK.length iT, .slice iC dJ.length iD, .slice iE dI.length iF]) ?_ 5 _ rfl; (repeat with_reducible refine bQ ?_); exact aV.out) hb); replace aN := ah (bG (g := aJ) (o := .cells #[.int .i64 0, .int .u64 0, .int .u64 0, .int .u64 0, .int .u64 0, .slice none 0 0, .slice none 0 0, .slice none 0 0, .slice none 0 0] 41 (0, 0)) (by (repeat with_reducible refine bQ ?_); refine iG ?_ fE.out _; (repeat with_reducible refine bQ ?_); refine iG ?_ fE.out _; (repeat with_reducible refine bQ ?_); exact aN.out) hb); replace HB := ah (aW (by repeat (first | (with_reducible first | exact HB.out | refine bJ ?_ | refine aA ?_ bZ.out | refine aA ?_ bT.out) | exact HB.out)) hb); clear HO_7; have HO_7 := gZ; clear gZ HO_8; have HO_8 := iL; clear iL HO_10; have HO_10 := jC; clear jC HO_11; have HO_11 := jZ; clear jZ Ai; have Ai := mQ; clear mQ Ee; have Ee := qY; clear qY; (try clear hb); (try clear hb2); (try clear hk); (try clear hi); (try clear ho0); clear A61; obtain ⟨aeH, aeI, aeJ⟩ := Kd.bY HO_11.out; subst aeJ) | ((with_reducible refine bH (f := 86) rfl ?_); refine eH (some 95) Try.func86 #[.slice aeH AY.length aeI] ?_; (with_reducible refine (tidepoleref25_deltas.calls CW _ _ AY t143 _ ?dw ?dA A62.out).mono ?_); (case dw => exact Kd.jT (Kd.bD HO_11.out).2.2); (case dA => exact (Kd.bD HO_11.out).2.1); rintro e w75 ⟨ahO, rfl, ho0, hb⟩; refine ⟨_, rfl, ?_⟩; have Xx := ah (Kd.bV (Kd.gq (Kd.gq (Kd.gq ho0 (Kd.jH (Kd.fB HO_8.out))) (Kd.jH (Kd.fB HO_11.out))) (Kd.jH (Kd.fB Ee.out))) (aI (by repeat (first | (with_reducible first | exact HB.out | refine bJ ?_ | refine aA ?_ bZ.out | refine aA ?_ bT.out) | exact HB.out)))); replace HO_7 := ah (Kd.kE HO_7.out hb); replace HO_8 := ah (Kd.dW (Kd.fB HO_8.out) (Kd.fP ho0) hb); replace HO_10 := ah (Kd.kE HO_10.out hb); replace HO_11 := ah (Kd.dW (Kd.fB HO_11.out) (Kd.fP ho0) hb); replace Ai := ah (Kd.kE Ai.out hb); replace Ee := ah (Kd.dW (Kd.fB Ee.out) (Kd.fP ho0) hb); replace Qk := ah (Kd.kE Qk.out hb); replace aV := ah (dX aV.out hb); replace aN := ah (dX aN.out hb); replace HB := ah (aW (by repeat (first | (with_reducible first | exact HB.out | refine bJ ?_ | refine aA ?_ bZ.out | refine aA ?_ bT.out) | exact HB.out)) hb); (try clear hb); (try clear hb2); (try clear hk); (try clear hi); (try clear ho0); clear A62; obtain ⟨GY, GZ, aeK⟩ := Kd.bY Qk.out; subst aeK; have acJ := ay aV.out; have acK := aG aV.out; obtain ⟨Ky, Kz, aeL⟩ := Kd.bY Xx.out; subst aeL; have acL := ay aN.out; have acM := aG aN.out))
      refine bodyPost_ret (gQ rfl _ _ aJ 41 #[.int .i64 a1, .int .u64 dH, .int .u64 dQ, .int .u64 dR, .int .u64 dO, .slice yD rP.length yE, .slice GY uT.length GZ, .slice AZ tq.length Ba, .slice Ky t143.length Kz] (0, 0) _ rfl (by (repeat with_reducible refine bQ ?_); refine bC (cs := #[.int .i64 a1, .int .u64 dH, .int .u64 dQ, .int .u64 dR, .int .u64 dO, .slice yD rP.length yE, .slice GY uT.length GZ, .slice AZ tq.length Ba, .slice none 0 0]) ?_ 8 _ rfl; (repeat with_reducible refine bQ ?_); refine bC (cs := #[.int .i64 a1, .int .u64 dH, .int .u64 dQ, .int .u64 dR, .int .u64 dO, .slice yD rP.length yE, .slice GY uT.length GZ, .slice none 0 0, .slice none 0 0]) ?_ 7 _ rfl; (repeat with_reducible refine bQ ?_); refine bC (cs := #[.int .i64 a1, .int .u64 dH, .int .u64 dQ, .int .u64 dR, .int .u64 dO, .slice yD rP.length yE, .slice none 0 0, .slice none 0 0, .slice none 0 0]) ?_ 6 _ rfl; (repeat with_reducible refine bQ ?_); refine bC (cs := #[.int .i64 a1, .int .u64 dH, .int .u64 dQ, .int .u64 dR, .int .u64 dO, .slice none 0 0, .slice none 0 0, .slice none 0 0, .slice none 0 0]) ?_ 5 _ rfl; (repeat with_reducible refine bQ ?_); refine bC (cs := #[.int .i64 a1, .int .u64 dH, .int .u64 dQ, .int .u64 dR, .int .u64 0, .slice none 0 0, .slice none 0 0, .slice none 0 0, .slice none 0 0]) ?_ 4 _ rfl; (repeat with_reducible refine bQ ?_); refine bC (cs := #[.int .i64 a1, .int .u64 dH, .int .u64 dQ, .int .u64 0, .int .u64 0, .slice none 0 0, .slice none 0 0, .slice none 0 0, .slice none 0 0]) ?_ 3 _ rfl; (repeat with_reducible refine bQ ?_); refine bC (cs := #[.int .i64 a1, .int .u64 dH, .int .u64 0, .int .u64 0, .int .u64 0, .slice none 0 0, .slice none 0 0, .slice none 0 0, .slice none 0 0]) ?_ 2 _ rfl; (repeat with_reducible refine bQ ?_); refine bC (cs := #[.int .i64 a1, .int .u64 0, .int .u64 0, .int .u64 0, .int .u64 0, .slice none 0 0, .slice none 0 0, .slice none 0 0, .slice none 0 0]) ?_ 1 _ rfl; (repeat with_reducible refine bQ ?_); refine bC (cs := #[.int .i64 0, .int .u64 0, .int .u64 0, .int .u64 0, .int .u64 0, .slice none 0 0, .slice none 0 0, .slice none 0 0, .slice none 0 0]) ?_ 0 _ rfl; (repeat with_reducible refine bQ ?_); refine iG ?_ fE.out _; (repeat with_reducible refine bQ ?_); refine iG ?_ fE.out _; (repeat with_reducible refine bQ ?_); exact aN.out) Try.underlying41 rfl (by kernel_rfl)) rfl ?_
      exact ⟨_, _, _, _, by first | rfl | (simp [aT, aU] <;> rfl) | (simp [*, aT, aU] <;> rfl), by (repeat with_reducible refine Kd.kJ ?_); exact Kd.cu (Kd.cZ (p := ⟨aJ, 8, none⟩) (Kd.cZ (p := ⟨aJ, 7, none⟩) (Kd.cZ (p := ⟨aJ, 6, none⟩) (Kd.cZ (p := ⟨aJ, 5, none⟩) (Kd.cZ (p := ⟨aJ, 4, none⟩) (Kd.cZ (p := ⟨aJ, 3, none⟩) (Kd.cZ (p := ⟨aJ, 2, none⟩) (Kd.cZ (p := ⟨aJ, 1, none⟩) (Kd.cZ (p := ⟨aJ, 0, none⟩) (Kd.cZ (p := ⟨cO, 8, none⟩) (Kd.cZ (p := ⟨cO, 6, none⟩) (Kd.gY (Kd.gY Ai.out aV.out (by decide)) aN.out (by decide)) (fun _ hk => hk.1.2) (.slice GY uT.length GZ)) (fun _ hk => hk.1.2) (.slice Ky t143.length Kz)) (fun _ hk => hk.2) (.int .i64 a1)) (fun _ hk => hk.2) (.int .u64 dH)) (fun _ hk => hk.2) (.int .u64 dQ)) (fun _ hk => hk.2) (.int .u64 dR)) (fun _ hk => hk.2) (.int .u64 dO)) (fun _ hk => hk.2) (.slice yD rP.length yE)) (fun _ hk => hk.2) (.slice GY uT.length GZ)) (fun _ hk => hk.2) (.slice AZ tq.length Ba)) (fun _ hk => hk.2) (.slice Ky t143.length Kz)) (fun _ hk => hk.1.1.2), by (repeat with_reducible refine Kd.kJ ?_); exact Kd.cu (Kd.cZ (p := ⟨aJ, 8, none⟩) (Kd.cZ (p := ⟨aJ, 7, none⟩) (Kd.cZ (p := ⟨aJ, 6, none⟩) (Kd.cZ (p := ⟨aJ, 5, none⟩) (Kd.cZ (p := ⟨aJ, 4, none⟩) (Kd.cZ (p := ⟨aJ, 3, none⟩) (Kd.cZ (p := ⟨aJ, 2, none⟩) (Kd.cZ (p := ⟨aJ, 1, none⟩) (Kd.cZ (p := ⟨aJ, 0, none⟩) (Kd.cZ (p := ⟨cO, 8, none⟩) (Kd.cZ (p := ⟨cO, 6, none⟩) (Kd.gY (Kd.gY Qk.out aV.out (by decide)) aN.out (by decide)) (fun _ hk => hk.1.2) (.slice GY uT.length GZ)) (fun _ hk => hk.1.2) (.slice Ky t143.length Kz)) (fun _ hk => hk.2) (.int .i64 a1)) (fun _ hk => hk.2) (.int .u64 dH)) (fun _ hk => hk.2) (.int .u64 dQ)) (fun _ hk => hk.2) (.int .u64 dR)) (fun _ hk => hk.2) (.int .u64 dO)) (fun _ hk => hk.2) (.slice yD rP.length yE)) (fun _ hk => hk.2) (.slice GY uT.length GZ)) (fun _ hk => hk.2) (.slice AZ tq.length Ba)) (fun _ hk => hk.2) (.slice Ky t143.length Kz)) (fun _ hk => hk.1.1.2), by (repeat with_reducible refine Kd.kJ ?_); exact Kd.cu (Kd.cZ (p := ⟨aJ, 8, none⟩) (Kd.cZ (p := ⟨aJ, 7, none⟩) (Kd.cZ (p := ⟨aJ, 6, none⟩) (Kd.cZ (p := ⟨aJ, 5, none⟩) (Kd.cZ (p := ⟨aJ, 4, none⟩) (Kd.cZ (p := ⟨aJ, 3, none⟩) (Kd.cZ (p := ⟨aJ, 2, none⟩) (Kd.cZ (p := ⟨aJ, 1, none⟩) (Kd.cZ (p := ⟨aJ, 0, none⟩) (Kd.cZ (p := ⟨cO, 8, none⟩) (Kd.cZ (p := ⟨cO, 6, none⟩) (Kd.gY (Kd.gY Ee.out aV.out (by decide)) aN.out (by decide)) (fun _ hk => hk.1.2) (.slice GY uT.length GZ)) (fun _ hk => hk.1.2) (.slice Ky t143.length Kz)) (fun _ hk => hk.2) (.int .i64 a1)) (fun _ hk => hk.2) (.int .u64 dH)) (fun _ hk => hk.2) (.int .u64 dQ)) (fun _ hk => hk.2) (.int .u64 dR)) (fun _ hk => hk.2) (.int .u64 dO)) (fun _ hk => hk.2) (.slice yD rP.length yE)) (fun _ hk => hk.2) (.slice GY uT.length GZ)) (fun _ hk => hk.2) (.slice AZ tq.length Ba)) (fun _ hk => hk.2) (.slice Ky t143.length Kz)) (fun _ hk => hk.1.1.2), by (repeat with_reducible refine Kd.kJ ?_); exact Kd.cu (Kd.cZ (p := ⟨aJ, 8, none⟩) (Kd.cZ (p := ⟨aJ, 7, none⟩) (Kd.cZ (p := ⟨aJ, 6, none⟩) (Kd.cZ (p := ⟨aJ, 5, none⟩) (Kd.cZ (p := ⟨aJ, 4, none⟩) (Kd.cZ (p := ⟨aJ, 3, none⟩) (Kd.cZ (p := ⟨aJ, 2, none⟩) (Kd.cZ (p := ⟨aJ, 1, none⟩) (Kd.cZ (p := ⟨aJ, 0, none⟩) (Kd.cZ (p := ⟨cO, 8, none⟩) (Kd.cZ (p := ⟨cO, 6, none⟩) (Kd.gY (Kd.gY Xx.out aV.out (by decide)) aN.out (by decide)) (fun _ hk => hk.1.2) (.slice GY uT.length GZ)) (fun _ hk => hk.1.2) (.slice Ky t143.length Kz)) (fun _ hk => hk.2) (.int .i64 a1)) (fun _ hk => hk.2) (.int .u64 dH)) (fun _ hk => hk.2) (.int .u64 dQ)) (fun _ hk => hk.2) (.int .u64 dR)) (fun _ hk => hk.2) (.int .u64 dO)) (fun _ hk => hk.2) (.slice yD rP.length yE)) (fun _ hk => hk.2) (.slice GY uT.length GZ)) (fun _ hk => hk.2) (.slice AZ tq.length Ba)) (fun _ hk => hk.2) (.slice Ky t143.length Kz)) (fun _ hk => hk.1.1.2), by repeat (first | (with_reducible first | exact HB.out | apply ak | apply au | apply aC | refine aA ?_ bZ.out | refine aA ?_ bT.out) | exact HB.out)⟩
 rw [if_neg c4] at H
 have c4b0 : (eG == 0) = false := beq_eq_false_iff_ne.mpr c4
 have c4b1 : (eG != 0) = true := bne_iff_ne.mpr c4
 simp only [Option.some.injEq, Prod.mk.injEq] at H
 obtain ⟨rfl, rfl, rfl, rfl, rfl, rfl, rfl, rfl, rfl, rfl⟩ := H
 go_enter Try.func28, Try.ntmps28
 go_wp2_with (first | ((with_reducible refine fJ (N := 2) rfl ?_); refine eU ?hg (N := 2) ?hd (cs := #[.int .i64 dD, .int .u64 dH, .int .u64 dQ, .int .u64 dR, .int .u64 dO, .slice iV dN.length iW, .slice iR dK.length iT, .slice iC dJ.length iD, .slice iE dI.length iF]) (t := 41) ?hr ?_; (case hd => rfl); (case hg => rfl); (case hr => first | (go_simp; done) | (go_simp; rfl)); intro cO hg w80 hbox hb; have aV := ah (hbox); have vG := ah ((by rw [hg]; exact (aI (aX HB.out)) : w.heap.size ≤ cO)); have bZ := ah ((by rw [hg]; exact (aI (aX HB.out)) : w.heap.size ≤ cO)); replace HB := ah (aW (aX HB.out) hb); clear hb hbox hg) | ((with_reducible refine fJ (N := 4) rfl ?_); refine eU ?hg (N := 4) ?hd (cs := #[.int .i64 0, .int .u64 0, .int .u64 0, .int .u64 0, .int .u64 0, .slice none 0 0, .slice none 0 0, .slice none 0 0, .slice none 0 0]) (t := 41) ?hr ?_; (case hd => rfl); (case hg => rfl); (case hr => first | (go_simp; done) | (go_simp; rfl)); intro aJ hg w81 hbox hb; have aN := ah (hbox); have oM := ah ((by rw [hg]; exact (aI (by repeat (first | (with_reducible first | exact HB.out | refine bJ ?_ | refine aA ?_ bZ.out) | exact HB.out))) : w.heap.size ≤ aJ)); have bT := ah ((by rw [hg]; exact (aI (by repeat (first | (with_reducible first | exact HB.out | refine bJ ?_ | refine aA ?_ bZ.out) | exact HB.out))) : w.heap.size ≤ aJ)); have aQ := ah ((by rw [hg]; exact Nat.ne_of_lt (kL (g := cO) (o := .cells #[.int .i64 dD, .int .u64 dH, .int .u64 dQ, .int .u64 dR, .int .u64 dO, .slice iV dN.length iW, .slice iR dK.length iT, .slice iC dJ.length iD, .slice iE dI.length iF] 41 (0, 0)) (jP aV.out)) : cO ≠ aJ)); have fE := ah ((by rw [hg]; exact Nat.ne_of_gt (kL (g := cO) (o := .cells #[.int .i64 dD, .int .u64 dH, .int .u64 dQ, .int .u64 dR, .int .u64 dO, .slice iV dN.length iW, .slice iR dK.length iT, .slice iC dJ.length iD, .slice iE dI.length iF] 41 (0, 0)) (jP aV.out)) : aJ ≠ cO)); replace aV := ah (dX aV.out hb); replace HB := ah (aW (by repeat (first | (with_reducible first | exact HB.out | refine bJ ?_ | refine aA ?_ bZ.out) | exact HB.out)) hb); clear hb hbox hg; have agk := aQ.out; have agl := fE.out; have acN := ay aV.out; have acO := aG aV.out) | ((with_reducible refine bH (f := 39) rfl ?_); refine eH (some 16) Try.func39 #[.agg #[.int .i64 dD, .int .u64 dH, .int .u64 dQ, .int .u64 dR, .int .u64 dO, .slice iV dN.length iW, .slice iR dK.length iT, .slice iC dJ.length iD, .slice iE dI.length iF]] ?_; (with_reducible refine (tidepoleref09_Check.calls k dD dH dQ dR dO _ _ dN _ _ dK _ _ dJ _ _ dI eG _ ?dw ?dA ?jr ?jv ?pJ ?pK ?pO ?pR A3.out).mono ?_); (case dw => exact Kd.jT (Kd.bM nH.out HB.out)); (case dA => exact nI.out); (case jr => exact Kd.jT (Kd.bM nZ.out HB.out)); (case jv => exact oh.out); (case pJ => exact Kd.jT (Kd.bM oV.out HB.out)); (case pK => exact oW.out); (case pO => exact Kd.jT (Kd.bM pG.out HB.out)); (case pR => exact pI.out); rintro e w84 ⟨rfl, hb⟩; refine ⟨_, rfl, ?_⟩; replace aV := ah (dX aV.out hb); replace aN := ah (dX aN.out hb); replace HB := ah (aW (by repeat (first | (with_reducible first | exact HB.out | refine bJ ?_ | refine aA ?_ bZ.out | refine aA ?_ bT.out) | exact HB.out)) hb); (try clear hb); (try clear hb2); (try clear hk); (try clear hi); clear A3; have acP := ay aN.out; have acQ := aG aN.out))
 refine bodyPost_ret (gQ rfl _ _ aJ 41 #[.int .i64 0, .int .u64 0, .int .u64 0, .int .u64 0, .int .u64 0, .slice none 0 0, .slice none 0 0, .slice none 0 0, .slice none 0 0] (0, 0) _ rfl (by (repeat with_reducible refine bQ ?_); refine bC (cs := #[.int .i64 0, .int .u64 0, .int .u64 0, .int .u64 0, .int .u64 0, .slice none 0 0, .slice none 0 0, .slice none 0 0, .slice none 0 0]) ?_ 8 _ rfl; (repeat with_reducible refine bQ ?_); refine bC (cs := #[.int .i64 0, .int .u64 0, .int .u64 0, .int .u64 0, .int .u64 0, .slice none 0 0, .slice none 0 0, .slice none 0 0, .slice none 0 0]) ?_ 7 _ rfl; (repeat with_reducible refine bQ ?_); refine bC (cs := #[.int .i64 0, .int .u64 0, .int .u64 0, .int .u64 0, .int .u64 0, .slice none 0 0, .slice none 0 0, .slice none 0 0, .slice none 0 0]) ?_ 6 _ rfl; (repeat with_reducible refine bQ ?_); refine bC (cs := #[.int .i64 0, .int .u64 0, .int .u64 0, .int .u64 0, .int .u64 0, .slice none 0 0, .slice none 0 0, .slice none 0 0, .slice none 0 0]) ?_ 5 _ rfl; (repeat with_reducible refine bQ ?_); refine bC (cs := #[.int .i64 0, .int .u64 0, .int .u64 0, .int .u64 0, .int .u64 0, .slice none 0 0, .slice none 0 0, .slice none 0 0, .slice none 0 0]) ?_ 4 _ rfl; (repeat with_reducible refine bQ ?_); refine bC (cs := #[.int .i64 0, .int .u64 0, .int .u64 0, .int .u64 0, .int .u64 0, .slice none 0 0, .slice none 0 0, .slice none 0 0, .slice none 0 0]) ?_ 3 _ rfl; (repeat with_reducible refine bQ ?_); refine bC (cs := #[.int .i64 0, .int .u64 0, .int .u64 0, .int .u64 0, .int .u64 0, .slice none 0 0, .slice none 0 0, .slice none 0 0, .slice none 0 0]) ?_ 2 _ rfl; (repeat with_reducible refine bQ ?_); refine bC (cs := #[.int .i64 0, .int .u64 0, .int .u64 0, .int .u64 0, .int .u64 0, .slice none 0 0, .slice none 0 0, .slice none 0 0, .slice none 0 0]) ?_ 1 _ rfl; (repeat with_reducible refine bQ ?_); refine bC (cs := #[.int .i64 0, .int .u64 0, .int .u64 0, .int .u64 0, .int .u64 0, .slice none 0 0, .slice none 0 0, .slice none 0 0, .slice none 0 0]) ?_ 0 _ rfl; (repeat with_reducible refine bQ ?_); exact aN.out) Try.underlying41 rfl (by kernel_rfl)) rfl ?_
 exact ⟨_, _, _, _, by first | rfl | (simp [aT, aU] <;> rfl) | (simp [*, aT, aU] <;> rfl), by first | exact Kd.dY _ _ _ _ _ | exact Kd.gI _ _ _ _ _ | exact Kd.gJ _ _ _ _ _ | exact Kd.gB _ _ _ _ _ | exact Kd.gG _ _ _ _ _, by first | exact Kd.dY _ _ _ _ _ | exact Kd.gI _ _ _ _ _ | exact Kd.gJ _ _ _ _ _ | exact Kd.gB _ _ _ _ _ | exact Kd.gG _ _ _ _ _, by first | exact Kd.dY _ _ _ _ _ | exact Kd.gI _ _ _ _ _ | exact Kd.gJ _ _ _ _ _ | exact Kd.gB _ _ _ _ _ | exact Kd.gG _ _ _ _ _, by first | exact Kd.dY _ _ _ _ _ | exact Kd.gI _ _ _ _ _ | exact Kd.gJ _ _ _ _ _ | exact Kd.gB _ _ _ _ _ | exact Kd.gG _ _ _ _ _, by repeat (first | (with_reducible first | exact HB.out | apply ak | apply au | apply aC | refine aA ?_ bZ.out | refine aA ?_ bT.out) | exact HB.out)⟩
end Go.Proofs.Ytooiccpmngmapaa.P
namespace Go.Proofs.Ytooiccpmngmapaa.P
open Go.RowKit Go.Shelf Go.Proofs.YtooiccpmngmapaaW.PrintWords Go.Proofs.YtooiccpmngmapaaW.PrintLast Go.Proofs.YtooiccpmngmapaaW.PrintMore
theorem OW (s q : Int) (p : Pr) (t : List Pr) : mV s q (p :: t) = (if fQ p.f0 s = q then p.f1 else 0) + mV s q t := by
 unfold mV
 rw [vX.eq_2]
 simp only [decide_eq_true_eq]
theorem CX (s q : Int) {l : List Pr} (h : ∀ p ∈ l, 0 ≤ p.f1) : 0 ≤ mV s q l := xX _ l h
theorem OX (s : Int) (l : List Pr) (hr : ∀ p ∈ l, i64 p.f0 ∧ 0 ≤ p.f1 ∧ p.f1 ≤ 9223372036854775807) (hm : l.length ≤ 4096) (o n all : List Int) (i : Nat) (hi : i < all.length) (ha : all.length ≤ 4096) (ho : o.length ≤ i) (hn : n.length ≤ i) : ∀ (d m j : Nat) (acc : Int), l.length - j = d → 67 ≤ m → j ≤ l.length → 0 ≤ acc → acc ≤ 9223372036854775807 →
    tidepoleref25_Side.l1 (d + 1 + m) (l.map (·.f0)) (l.map (·.f1)) s o n all (i : Int) acc (j : Int) = if 9223372036854775807 < acc + mV s all[i] (l.drop j) then some ([], [], 1) else
      if acc + mV s all[i] (l.drop j) = 0 then tidepoleref25_Side.l0 m (l.map (·.f0)) (l.map (·.f1)) s o n all ((i + 1 : Nat) : Int) else tidepoleref25_Side.l0 m (l.map (·.f0)) (l.map (·.f1)) s (o ++ [all[i]]) (n ++ [acc + mV s all[i] (l.drop j)]) all ((i + 1 : Nat) : Int) := by
  intro d
  induction d with
  | zero =>
    intro m j acc hd hm hj h0 h1
    rw [show 0 + 1 + m = m + 1 by omega, tidepoleref25_Side.l1, if_neg (by rw [List.length_map]; omega), List.drop_eq_nil_of_le (by omega), show mV s all[i] [] = 0 from rfl, Int.add_zero, if_neg (show ¬ 9223372036854775807 < acc by omega), wrap_succ (by omega)]
    by_cases c : acc = 0
    · rw [if_neg (by omega), if_pos c]
    · rw [if_pos (by omega), if_neg c, if_pos (by omega), if_pos (by omega), qC hi, if_pos (by omega), if_pos (by omega)]
  | succ d ih =>
    intro m j acc hd hm hj h0 h1
    have hlt : j < l.length := by omega
    obtain ⟨p0, p1, p2⟩ := hr l[j] (List.getElem_mem hlt)
    have e0 : rd (l.map (·.f0)) (j : Int) = l[j].f0 := Oj (·.f0) hlt
    have e1 : rd (l.map (·.f1)) (j : Int) = l[j].f1 := Oj (·.f1) hlt
    rw [show d + 1 + 1 + m = (d + 1 + m) + 1 by omega, tidepoleref25_Side.l1, if_pos (by rw [List.length_map]; omega), if_pos (by omega), e0, AL _ (by omega) _ _ p0, Option.bind_some, if_pos (by omega), if_pos (by omega), qC hi]
    have hnn := CX s all[i] (l := l.drop (j + 1)) (fun p hp => (hr p (List.mem_of_mem_drop hp)).2.1)
    rw [List.drop_eq_getElem_cons hlt, OW]
    by_cases c : fQ l[j].f0 s = all[i]
    · rw [if_pos c, if_pos c, if_pos (by rw [List.length_map]; omega), e1, eu (x := 9223372036854775807 - acc) (by omega) (by omega)]
      by_cases c2 : l[j].f1 > 9223372036854775807 - acc
      · rw [if_pos c2, if_pos (by omega)]
      · rw [if_neg c2, eu (x := acc + l[j].f1) (by omega) (by omega), wrap_succ (by omega), ih m (j + 1) (acc + l[j].f1) (by omega) hm (by omega) (by omega) (by omega), Int.add_assoc]
    · rw [if_neg c, if_neg c, wrap_succ (by omega), ih m (j + 1) acc (by omega) hm (by omega) h0 h1, Int.zero_add]
theorem OY (s : Int) (l : List Pr) (hr : ∀ p ∈ l, i64 p.f0 ∧ 0 ≤ p.f1 ∧ p.f1 ≤ 9223372036854775807) (hm : l.length ≤ 4096) (all : List Int) (ha : all.length ≤ 4096) : ∀ (d k i : Nat) (o n : List Int), all.length - i = d → d * (l.length + 2) + 68 ≤ k → i ≤ all.length → o.length ≤ i → n.length ≤ i →
    tidepoleref25_Side.l0 k (l.map (·.f0)) (l.map (·.f1)) s o n all (i : Int) = if tooBig ((all.drop i).map (fun q => (⟨q, mV s q l⟩ : Pr))) = true then some ([], [], 1) else some (o ++ (jq ((all.drop i).map (fun q => (⟨q, mV s q l⟩ : Pr)))).map (·.f0), n ++ (jq ((all.drop i).map (fun q => (⟨q, mV s q l⟩ : Pr)))).map (·.f1), 0) := by
  intro d
  induction d with
  | zero =>
    intro k i o n hd hk hi ho hn
    obtain ⟨k, rfl⟩ : ∃ m, k = m + 1 := ⟨k - 1, by omega⟩
    rw [tidepoleref25_Side.l0, if_neg (by omega), List.drop_eq_nil_of_le (by omega)]
    simp [tooBig, jq]
  | succ d ih =>
    intro k i o n hd hk hi ho hn
    have hlt : i < all.length := by omega
    have hmul : (d + 1) * (l.length + 2) = d * (l.length + 2) + (l.length + 2) := by rw [Nat.add_mul, Nat.one_mul]
    obtain ⟨m, rfl⟩ : ∃ m, k = (l.length + 1 + m) + 1 := ⟨k - l.length - 2, by omega⟩
    have hnn := CX s all[i] (l := l) (fun p hp => (hr p hp).2.1)
    have h1 := OX s l hr hm o n all i hlt ha ho hn l.length m 0 0 (by omega) (by omega) (by omega) (by omega) (by omega)
    rw [tidepoleref25_Side.l0, if_pos (by omega)]
    rw [show ((0 : Nat) : Int) = 0 from rfl, List.drop_zero, Int.zero_add] at h1
    rw [h1, List.drop_eq_getElem_cons hlt, List.map_cons]
    generalize mV s all[i] l = v at *
    have tb : ∀ t, tooBig ((⟨all[i], v⟩ : Pr) :: t) = (decide (9223372036854775807 < v) || tooBig t) := fun t => by simp [tooBig]
    by_cases c : 9223372036854775807 < v
    · rw [if_pos c, tb, aiJ c]
      simp
    · rw [if_neg c, tb, aiK c, Bool.false_or]
      by_cases c0 : v = 0
      · have e0 : ∀ t, jq ((⟨all[i], v⟩ : Pr) :: t) = jq t := fun t => by unfold jq; rw [List.filter_cons]; simp [c0]
        rw [if_pos c0, e0, ih m (i + 1) o n (by omega) (by omega) (by omega) (by omega) (by omega)]
      · have e0 : ∀ t, jq ((⟨all[i], v⟩ : Pr) :: t) = (⟨all[i], v⟩ : Pr) :: jq t := fun t => by unfold jq; rw [List.filter_cons]; simp [c0]
        rw [if_neg c0, e0, ih m (i + 1) (o ++ [all[i]]) (n ++ [v]) (by omega) (by omega) (by omega) (by simp <;> omega) (by simp <;> omega)]
        simp
def UR (s : Int) (l : List Pr) : List Int × List Int × Int := match kG s l with | some r => ((jq r).map (·.f0), (jq r).map (·.f1), 0) | none => ([], [], 1)
theorem CY (s : Int) (l : List Pr) (hr : RowOK l) (k : Nat) (hk : 17000000 ≤ k) : tidepoleref25_Side.f k (l.map (·.f0)) (l.map (·.f1)) s = some (UR s l) := by
 have hl := hr.len
 have hw := Rt s (l.map (·.f0))
 rw [List.length_map] at hw
 unfold tidepoleref25_Side.f
 rw [OQ _ s (fun x hx => by obtain ⟨p, hp, rfl⟩ := List.mem_map.1 hx; exact (hr.cnt p hp).1) (by rw [List.length_map]; omega) k (by rw [List.length_map]; omega), Option.bind_some]
 have hb : (wS s (l.map (·.f0))).length * (l.length + 2) ≤ 4096 * 4098 := Nat.mul_le_mul (by omega) (by omega)
 have := OY s l hr.cnt hl (wS s (l.map (·.f0))) (by omega) (wS s (l.map (·.f0))).length k 0 [] [] (by omega) (by omega) (by omega) (by simp) (by simp)
 rw [show ((0 : Nat) : Int) = 0 from rfl, List.drop_zero, List.nil_append, List.nil_append] at this
 rw [this]
 unfold UR
 rw [Ro hr]
 show (if tooBig (GX s l) = true then some ([], [], 1) else some ((jq (GX s l)).map (·.f0), (jq (GX s l)).map (·.f1), 0)) = _
 split <;> rfl
theorem Nh (c : List Int) (hc : ∀ x ∈ c, 0 ≤ x ∧ x ≤ 9223372036854775807) (hm : c.length ≤ 4096) : ∀ (d k i : Nat) (acc : List Int) (a : Int), c.length - i = d → d < k → i ≤ c.length → acc.length = i → 0 ≤ a → a ≤ 9223372036854775807 →
    tidepoleref25_deltas.l0 k c acc a (i : Int) = some (acc ++ oG a (c.drop i)) := by
  intro d
  induction d with
  | zero =>
    intro k i acc a hd hk hi hl h0 h1
    obtain ⟨k, rfl⟩ : ∃ m, k = m + 1 := ⟨k - 1, by omega⟩
    rw [tidepoleref25_deltas.l0, if_neg (by omega), List.drop_eq_nil_of_le (by omega)]
    simp [oG]
  | succ d ih =>
    intro k i acc a hd hk hi hl h0 h1
    obtain ⟨k, rfl⟩ : ∃ m, k = m + 1 := ⟨k - 1, by omega⟩
    have hlt : i < c.length := by omega
    obtain ⟨x0, x1⟩ := hc c[i] (List.getElem_mem hlt)
    rw [tidepoleref25_deltas.l0, if_pos (by omega), if_pos (by omega), if_pos (by omega), qC hlt, wrap_succ (by omega), eu (x := c[i] - a) (by omega) (by omega), ih k (i + 1) _ c[i] (by omega) (by omega) (by omega) (by simp [hl]) x0 x1, List.drop_eq_getElem_cons hlt]
    simp [oG]
theorem zC (c : List Int) (hc : ∀ x ∈ c, 0 ≤ x ∧ x ≤ 9223372036854775807) (hm : c.length ≤ 4096) (k : Nat) (hk : 4096 < k) : tidepoleref25_deltas.f k c = some (oG 0 c) :=
 Nh c hc hm c.length k 0 [] 0 (by omega) (by omega) (by omega) rfl (by decide) (by decide)
theorem Ji {l : List Int} {i : Nat} (h : i < l.length) : (iO (l.take (i + 1))).2 = l[i] + 1 := by
 rw [take_at h, rF]; rfl
theorem UU (c : List Sp × Int) (p : Int) : (vg c p).1 ≠ [] := by
 unfold vg
 split
 ·simp
 ·rename_i h
  have hc : c.1 ≠ [] := fun e => h (.inl e)
  obtain ⟨s, hs⟩ : ∃ s, c.1.getLast? = some s := ⟨c.1.getLast hc, List.getLast?_eq_some_getLast hc⟩
  simp [hs]
theorem Nk {l : List Int} {i : Nat} (h : i < l.length) : (iO (l.take (i + 1))).1 ≠ [] := by
 rw [take_at h, rF]; exact UU _ _
theorem UW {l : List Int} (hu : l.Pairwise (· < ·)) {i : Nat} (h : i + 1 < l.length) : l[i] < l[i + 1] := List.pairwise_iff_getElem.1 hu i (i + 1) (by omega) h (by omega)
theorem KD (l : List Int) (hu : l.Pairwise (· < ·)) (hb : ∀ x ∈ l, -1048576 ≤ x ∧ x ≤ 1048576) (hm : l.length ≤ 4096) : ∀ (d k i : Nat), l.length - i = d → d < k → i ≤ l.length → (iO (l.take i)).1.length ≤ i →
    tidepoleref06_Runs.l0 k l ((iO (l.take i)).1.length : Int) (i : Int) = some ((spansOf l).length : Int) := by
  intro d
  induction d with
  | zero =>
    intro k i hd hk hi hc
    obtain ⟨k, rfl⟩ : ∃ m, k = m + 1 := ⟨k - 1, by omega⟩
    rw [tidepoleref06_Runs.l0, if_neg (by omega), List.take_of_length_le (by omega)]
    rfl
  | succ d ih =>
    intro k i hd hk hi hc
    obtain ⟨k, rfl⟩ : ∃ m, k = m + 1 := ⟨k - 1, by omega⟩
    have hlt : i < l.length := by omega
    have hs : iO (l.take (i + 1)) = vg (iO (l.take i)) l[i] := by rw [take_at hlt, rF]
    rw [tidepoleref06_Runs.l0, if_pos (by omega)]
    cases i with
    | zero =>
      rw [if_pos (by simp)]
      have e1 : (iO (l.take 1)).1.length = 1 := by rw [hs]; simp [vg, iO]
      have := ih k 1 (by omega) (by omega) (by omega) (by omega)
      rw [e1] at this
      have e0 : (iO (l.take 0)).1.length = 0 := by simp [iO]
      rw [e0]
      rw [show wrap64 (((0 : Nat) : Int) + 1) = ((1 : Nat) : Int) from by unfold wrap64; omega]
      exact this
    | succ i =>
      have hi' : i < l.length := by omega
      have hup := UW hu hlt
      have e2 := Ji hi'
      have hne := Nk hi'
      obtain ⟨b1, b2⟩ := hb l[i] (List.getElem_mem hi')
      obtain ⟨b3, b4⟩ := hb l[i + 1] (List.getElem_mem hlt)
      rw [if_neg (by omega), if_pos (by omega), eu (x := ((i + 1 : Nat) : Int) - 1) (by omega) (by omega), show ((i + 1 : Nat) : Int) - 1 = (i : Int) by omega, if_pos (by omega), if_pos (by omega), qC hlt, qC hi', eu (x := l[i] + 1) (by omega) (by omega), wrap_succ (by omega)]
      by_cases c : l[i + 1] = l[i] + 1
      · rw [if_pos c]
        have e1 : (iO (l.take (i + 1 + 1))).1.length = (iO (l.take (i + 1))).1.length := by
          rw [hs]
          unfold vg
          rw [if_neg (by rw [e2]; rintro (h | h); exact hne h; omega)]
          obtain ⟨s, hs'⟩ : ∃ s, (iO (l.take (i + 1))).1.getLast? = some s := ⟨_, List.getLast?_eq_some_getLast hne⟩
          have hlen : 0 < (iO (l.take (i + 1))).1.length := List.length_pos_iff.2 hne
          simp [hs']; omega
        rw [← e1]
        exact ih k (i + 1 + 1) (by omega) (by omega) (by omega) (by omega)
      · rw [if_neg c]
        have e1 : (iO (l.take (i + 1 + 1))).1.length = (iO (l.take (i + 1))).1.length + 1 := by
          rw [hs]
          unfold vg
          rw [if_pos (by rw [e2]; exact .inr (by omega))]
          simp
        rw [eu (by omega) (by omega), show ((iO (l.take (i + 1))).1.length : Int) + 1 = ((iO (l.take (i + 1 + 1))).1.length : Int) by omega]
        exact ih k (i + 1 + 1) (by omega) (by omega) (by omega) (by omega)
theorem G5 (l : List Int) (hu : l.Pairwise (· < ·)) (hb : ∀ x ∈ l, -1048576 ≤ x ∧ x ≤ 1048576) (hm : l.length ≤ 4096) (k : Nat) (hk : 4096 < k) : tidepoleref06_Runs.f k l = some ((spansOf l).length : Int) := by
 have := KD l hu hb hm l.length k 0 (by omega) (by omega) (by omega) (by simp [iO])
 exact this
theorem KE (h : Hi) (hw : yQ h) (h7 : h.f7.length ≤ 4096) (h8 : h.f8.length ≤ 4096) (k : Nat) (hk : 5130000 ≤ k) : tidepoleref09_Check.f k h.f0 h.f1 h.f2 h.f3 h.f4 (h.f5.map toR) (h.f6.map toR) h.f7 h.f8 = some (jD h) := by
 obtain ⟨w0, w1, w2, w3, w4, w5, w6, w7, w8, w9, w10⟩ := hw
 have r5 := vF (l := h.f5) w7
 have r6 := vF (l := h.f6) w8
 have hf := Om h.f2 h.f3 h.f4 (dU h.f5 h.f7).1 (dU h.f6 h.f8).1 w2 w3 w4 (fun x hx => (r5.cnt x hx).2) (fun x hx => (r6.cnt x hx).2) (by have := r5.len; omega) (by have := r6.len; omega) k (by have := r5.len; have := r6.len; omega)
 unfold tidepoleref09_Check.f
 rw [Ol _ _ k (by omega), show (if h.f0 < -4 ∨ h.f0 > 8 then (21 : Int) else if ¬ h.f1 < 9218868437227405312 then 11 else 0) = uH h from rfl, Dx]
 simp only [Option.bind_some]
 by_cases c1 : uH h = 0
 ·rw [if_pos c1, if_neg (by omega), xM h.f5 h.f7 w5 w7 w9 k (by omega)]
  simp only [Option.bind_some, xK]
  by_cases c2 : (dU h.f5 h.f7).2 = 0
  ·rw [if_pos c2, if_neg (by omega), xM h.f6 h.f8 w6 w8 w10 k (by omega)]
   simp only [Option.bind_some, xK]
   by_cases c3 : (dU h.f6 h.f8).2 = 0
   ·rw [if_pos c3, if_neg (by omega), hf]; rfl
   ·rw [if_neg c3, if_pos c3]
  ·rw [if_neg c2, if_pos c2]
 ·rw [if_neg c1, if_pos c1]
theorem G6 : ∀ (l : List Int) (e : Int) (i : Nat), rises e l = true → rises e (l.take i) = true
  | [], e, i, h => by simpa using h
  | x :: l, e, 0, h => rfl
  | x :: l, e, i + 1, h => by
    simp only [rises, Bool.and_eq_true] at h
    simp only [List.take_succ_cons, rises, Bool.and_eq_true]
    exact ⟨h.1, G6 l _ i h.2⟩
theorem Nl {α : Type} (x : List α) (y z : α) : (x ++ [y]).set x.length z = x ++ [z] := by simp
theorem Np (x : List Rsp) (y : Rsp) : aY (x ++ [y]) (x.length : Int) = y := by rw [Lu (by simp)]; simp
theorem Xy (x : List Rsp) (y : Rsp) (h : x.length < 8796093022208) : wrap64 (((x ++ [y]).length : Int) - 1) = (x.length : Int) := by rw [eu (by simp <;> omega) (by simp <;> omega)]; simp
theorem G7 (l : List Int) (hr : rises (-1048576) l = true) (hm : l.length ≤ 4096) : ∀ (d k i : Nat), l.length - i = d → d < k → i ≤ l.length →
    tidepoleref17_Runs.l0 k l ((iO (l.take i)).1.map toR) (iO (l.take i)).2 (i : Int) = some ((spansOf l).map toR) := by
  intro d
  induction d with
  | zero =>
    intro k i hd hk hi
    obtain ⟨k, rfl⟩ : ∃ m, k = m + 1 := ⟨k - 1, by omega⟩
    rw [tidepoleref17_Runs.l0, if_neg (by omega), List.take_of_length_le (by omega)]
    rfl
  | succ d ih =>
    intro k i hd hk hi
    obtain ⟨k, rfl⟩ : ∃ m, k = m + 1 := ⟨k - 1, by omega⟩
    have hlt : i < l.length := by omega
    have hsp := nV (l.take i) (G6 l _ i hr)
    have hbd := zV hr
    obtain ⟨b3, b4⟩ := hbd l[i] (List.getElem_mem hlt)
    have hs : iO (l.take (i + 1)) = vg (iO (l.take i)) l[i] := by rw [take_at hlt, rF]
    have ih' := ih k (i + 1) (by omega) (by omega) (by omega)
    rw [hs] at ih'
    have hpos := hsp.pos
    have hlen := hsp.len
    have hlast := hsp.last
    have hnil := hsp.nil
    have hfirst := hsp.first
    change ∀ s ∈ (iO (l.take i)).1, _ at hpos
    change (iO (l.take i)).1.length ≤ _ at hlen
    change (iO (l.take i)).1 = [] ↔ _ at hnil
    rw [List.length_take, Nat.min_eq_left (by omega)] at hlen
    have hup : ∀ h0 : 0 < i, l[i - 1]'(by omega) < l[i] := fun h0 => List.pairwise_iff_getElem.1 (zX l _ hr).1 (i - 1) i (by omega) hlt (by omega)
    have hend : ∀ h0 : 0 < i, (iO (l.take i)).2 = l[i - 1]'(by omega) + 1 := fun h0 => by
      have := Ji (l := l) (i := i - 1) (by omega)
      rwa [show i - 1 + 1 = i by omega] at this
    generalize hg : iO (l.take i) = g at *
    obtain ⟨c, e⟩ := g
    simp only at hpos hlen hlast hnil hfirst hend ⊢
    have hml : (c.map toR).length < 8796093022208 := by rw [List.length_map]; omega
    have app : ∀ v : Int, wrap64 (l[i] - e) = v → v = l[i] - e → (c = [] ∨ l[i] > e) → ((some (c.map toR ++ [(⟨wrap64 (l[i] - e), 0⟩ : Rsp)] : List Rsp)).bind fun y102 => (if 0 ≤ (wrap64 ((y102.length : Int) - 1)) then (if (wrap64 ((y102.length : Int) - 1)) < (y102.length : Int) then (tidepoleref17_Runs.l0 k l (y102.set ((wrap64 ((y102.length : Int) - 1)) : Int).toNat (⟨(aY y102 (wrap64 ((y102.length : Int) - 1))).f0, wrap64 (((aY y102 (wrap64 ((y102.length : Int) - 1))).f1) + 1)⟩ : Rsp)) (wrap64 (l[i] + 1)) (wrap64 ((i : Int) + 1))) else (none)) else (none))) = some ((spansOf l).map toR) := by
      intro v hv hv2 hc
      rw [Option.bind_some, Xy _ _ hml, if_pos (by omega), if_pos (by simp <;> omega), Np, Int.toNat_natCast, Nl, hv, hv2, eu (x := l[i] + 1) (by omega) (by omega), wrap_succ (by omega), show wrap64 ((0 : Int) + 1) = 1 from by unfold wrap64; omega]
      unfold vg at ih'
      rw [if_pos hc] at ih'
      simpa [toR] using ih'
    rw [tidepoleref17_Runs.l0, if_pos (by omega), qC hlt]
    cases i with
    | zero =>
      have e0 : c = [] := hnil.2 (by simp)
      have e1 : e = 0 := hfirst (by simp)
      rw [if_pos (by simp), if_pos (by omega), if_pos hml]
      exact app (l[0] - e) (eu (by omega) (by omega)) rfl (.inl e0)
    | succ i =>
      have hi' : i < l.length := by omega
      have hup := hup (by omega)
      have hend := hend (by omega)
      simp only [Nat.add_sub_cancel] at hup hend
      obtain ⟨b1, b2⟩ := hbd l[i] (List.getElem_mem hi')
      have hne : c ≠ [] := fun h => Nk hi' (by rw [hg]; exact h)
      rw [if_neg (by omega), if_pos (by omega)]
      by_cases c1 : l[i + 1] = e
      · obtain ⟨c', s, rfl⟩ : ∃ c' s, c = c' ++ [s] := ⟨c.dropLast, c.getLast hne, (List.dropLast_concat_getLast hne).symm⟩
        obtain ⟨p1, p2, p3, p4⟩ := hpos s (by simp)
        rw [if_pos c1]
        have em : (c' ++ [s]).map toR = c'.map toR ++ [toR s] := by simp
        have hcl : (c'.map toR).length < 8796093022208 := by simp at hml ⊢; omega
        have hp2 : s.f1 ≤ 4096 := by rw [List.length_take] at p2; omega
        rw [em, Xy _ _ hcl, if_pos (by omega), if_pos (by simp <;> omega), Np, Int.toNat_natCast, Nl, eu (x := l[i + 1] + 1) (by omega) (by omega), wrap_succ (by omega), show (toR s).f1 = s.f1 from rfl, show (toR s).f0 = s.f0 from rfl, eu (x := s.f1 + 1) (by omega) (by omega)]
        unfold vg at ih'
        rw [if_neg (by simp; omega)] at ih'
        simpa [toR] using ih'
      · rw [if_neg c1, if_pos hml]
        exact app (l[i + 1] - e) (eu (by omega) (by omega)) rfl (.inr (by omega))
theorem CZ (l : List Int) (hr : rises (-1048576) l = true) (hm : l.length ≤ 4096) (k : Nat) (hk : 4096 < k) : tidepoleref17_Runs.f k l = some ((spansOf l).map toR) := by
 have := G7 l hr hm l.length k 0 (by omega) (by omega) (by omega)
 exact this
def Xz (x : Hi × Int) : Int × Int × Int × Int × Int × List Rsp × List Rsp × List Int × List Int × Int := (x.1.f0, x.1.f1, x.1.f2, x.1.f3, x.1.f4, x.1.f5.map toR, x.1.f6.map toR, x.1.f7, x.1.f8, x.2)
theorem Jj {l : List Pr} (h : RowOK l) (hb : ∀ p ∈ l, -1048576 ≤ p.f0 ∧ p.f0 ≤ 1048576) : rises (-1048576) (l.map (·.f0)) = true := wO l _ h.ups hb
theorem Nq {l : List Pr} (h : RowOK l) : (l.map (·.f0)).Pairwise (· < ·) := List.pairwise_map.2 h.ups
theorem KG (h : Hi) (hw : yQ h) (tt : Int) (ht : i64 tt) (k : Nat) (hk : 17000003 ≤ k) (h7 : h.f7.length ≤ 4096) (h8 : h.f8.length ≤ 4096) :
    tidepoleref25_Ints.f k h.f0 h.f1 h.f2 h.f3 h.f4 (h.f5.map toR) (h.f6.map toR) h.f7 h.f8 tt = some (Xz (lM h tt)) := by
  unfold tidepoleref25_Ints.f
  rw [KE h hw h7 h8 k (by omega), Option.bind_some]
  by_cases hc : jD h = 0
  rotate_left
  · rw [if_neg hc]
    unfold lM
    rw [if_pos hc]
    rfl
  rw [if_pos hc]
  have hs := rX hc
  obtain ⟨k, rfl⟩ : ∃ m, k = m + 1 + 1 := ⟨k - 2, by omega⟩
  have hbad : ∀ b, b = true → tidepoleref25_Ints.j0 (k + 1 + 1) tt b h.f0 h.f1 h.f2 h.f3 h.f4 (h.f5.map toR) (h.f6.map toR) h.f7 h.f8 = some (Xz (qH, 21)) := by
    intro b hb
    rw [tidepoleref25_Ints.j0, if_pos hb]; rfl
  by_cases c1 : tt < -4
  · rw [if_pos c1, hbad true rfl, xY hc, if_pos (.inl c1)]
  rw [if_neg c1]
  by_cases c2 : tt > h.f0
  · rw [hbad _ (aiJ c2), xY hc, if_pos (.inr c2)]
  rw [aiK c2, tidepoleref25_Ints.j0, if_neg (by decide)]
  obtain ⟨r1, r2, b1, b2, l1, l2, hf, hd⟩ := zu hw hc
  obtain ⟨z1, z2, z3, z4⟩ := zl hc
  have ho := yY hc
  have hw7 := hw.2.2.2.2.2.2.2.2.2.1
  have hw8 := hw.2.2.2.2.2.2.2.2.2.2
  have e1 : tidepoleref09_Side.f (k + 1) (h.f5.map toR) h.f7 = some (xK h.f5 h.f7) := xM h.f5 h.f7 hw.2.2.2.2.2.1 hw.2.2.2.2.2.2.2.1 (by omega) _ (by omega)
  have e2 : tidepoleref09_Side.f (k + 1) (h.f6.map toR) h.f8 = some (xK h.f6 h.f8) := xM h.f6 h.f8 hw.2.2.2.2.2.2.1 hw.2.2.2.2.2.2.2.2.1 (by omega) _ (by omega)
  rw [e1, e2]
  have s1 : (dU h.f5 h.f7).1 = (iy h).1 := by rw [ho]
  have s2 : (dU h.f6 h.f8).1 = (iy h).2.1 := by rw [ho]
  simp only [Option.bind_some, xK, s1, s2]
  rw [eu (x := h.f0 - tt) (by omega) (by omega), CY _ _ r1 _ (by omega), CY _ _ r2 _ (by omega)]
  simp only [Option.bind_some]
  have hsr := xY (tt := tt) hc
  rw [if_neg (by omega)] at hsr
  unfold UR
  cases hP : kG (h.f0 - tt) (iy h).1 with
  | none =>
    rw [hP] at hsr
    simp only at hsr
    cases hN : kG (h.f0 - tt) (iy h).2.1 with
    | none => simp only []; rw [if_pos (by unfold wrap64; omega), hsr]; rfl
    | some n => simp only []; rw [if_pos (by unfold wrap64; omega), hsr]; rfl
  | some p =>
    cases hN : kG (h.f0 - tt) (iy h).2.1 with
    | none => rw [hP, hN] at hsr; simp only at hsr ⊢; rw [if_pos (by unfold wrap64; omega), hsr]; rfl
    | some n =>
      simp only []
      rw [if_neg (by unfold wrap64; omega), OO hw hc (by omega) (by omega) hP hN]
      obtain ⟨w1, w2, w3, w4⟩ := lq r1 hP
      obtain ⟨v1, v2, v3, v4⟩ := lq r2 hN
      have o1 := sO w1
      have o2 := sO v1
      have g1 : ∀ q ∈ jq p, -1048576 ≤ q.f0 ∧ q.f0 ≤ 1048576 := fun q hq => qj r1 hP b1 q (List.mem_filter.1 hq).1
      have g2 : ∀ q ∈ jq n, -1048576 ≤ q.f0 ∧ q.f0 ≤ 1048576 := fun q hq => qj r2 hN b2 q (List.mem_filter.1 hq).1
      generalize jq p = P at *
      generalize jq n = Q at *
      have i1 : ∀ x ∈ P.map (·.f0), -1048576 ≤ x ∧ x ≤ 1048576 := fun x hx => by obtain ⟨q, hq, rfl⟩ := List.mem_map.1 hx; exact g1 q hq
      have i2 : ∀ x ∈ Q.map (·.f0), -1048576 ≤ x ∧ x ≤ 1048576 := fun x hx => by obtain ⟨q, hq, rfl⟩ := List.mem_map.1 hx; exact g2 q hq
      have t1 : ∀ x ∈ P.map (·.f1), 0 ≤ x ∧ x ≤ 9223372036854775807 := fun x hx => by obtain ⟨q, hq, rfl⟩ := List.mem_map.1 hx; exact (o1.cnt q hq).2
      have t2 : ∀ x ∈ Q.map (·.f1), 0 ≤ x ∧ x ≤ 9223372036854775807 := fun x hx => by obtain ⟨q, hq, rfl⟩ := List.mem_map.1 hx; exact (o2.cnt q hq).2
      have n1 : (P.map (·.f0)).length ≤ 4096 := by rw [List.length_map]; exact o1.len
      have n2 : (Q.map (·.f0)).length ≤ 4096 := by rw [List.length_map]; exact o2.len
      have n3 : (P.map (·.f1)).length ≤ 4096 := by rw [List.length_map]; exact o1.len
      have n4 : (Q.map (·.f1)).length ≤ 4096 := by rw [List.length_map]; exact o2.len
      rw [G5 _ (Nq o1) i1 n1 _ (by omega), Option.bind_some]
      by_cases k1 : 1024 < (spansOf (P.map (·.f0))).length
      · rw [if_pos (by omega), tidepoleref25_Ints.j1, if_pos rfl, if_pos (.inl k1)]; rfl
      rw [if_neg (by omega), G5 _ (Nq o2) i2 n2 _ (by omega), Option.bind_some]
      by_cases k2 : 1024 < (spansOf (Q.map (·.f0))).length
      · rw [aiJ (by omega), tidepoleref25_Ints.j1, if_pos rfl, if_pos (.inr k2)]; rfl
      rw [aiK (by omega), tidepoleref25_Ints.j1, if_neg (by decide), if_neg (by omega)]
      rw [CZ _ (Jj o1 g1) n1 _ (by omega), CZ _ (Jj o2 g2) n2 _ (by omega), zC _ t1 n3 _ (by omega), zC _ t2 n4 _ (by omega)]
      simp only [Option.bind_some]
      rfl
theorem KH (a x : Hi) (e tt : Int) (hw : yQ a) (a7 : a.f7.length ≤ 4096) (a8 : a.f8.length ≤ 4096) (ht : i64 tt) (hx : lM a tt = (x, e)) (w : World) (u : Value) (hu : HR w u a) : Calls Try.prog 28 #[u, .int .i64 tt] w fun r w' => ∃ D5x g5x D6x g6x D7x g7x D8x g8x, r = .returned (.tuple #[.agg #[.int .i64 x.f0, .int .u64 x.f1, .int .u64 x.f2, .int .u64 x.f3, .int .u64 x.f4, .slice D5x x.f5.length g5x, .slice D6x x.f6.length g6x, .slice D7x x.f7.length g7x, .slice D8x x.f8.length g8x], .int .i64 e]) ∧ HR w' (.agg #[.int .i64 x.f0, .int .u64 x.f1, .int .u64 x.f2, .int .u64 x.f3, .int .u64 x.f4, .slice D5x x.f5.length g5x, .slice D6x x.f6.length g6x, .slice D7x x.f7.length g7x, .slice D8x x.f8.length g8x]) x ∧ Below w.heap.size w w' := by
 obtain ⟨v5, v6, v7, v8, rfl, ⟨A5, c5, rfl, NY, NZ⟩, ⟨A6, c6, rfl, N7, N8⟩, ⟨A7, c7, rfl, N9, h72⟩, ⟨A8, c8, rfl, Oa, Ob⟩⟩ := hu
 have he := KG a hw tt ht 17000003 (Nat.le_refl _) a7 a8
 rw [hx] at he
 refine (tidepoleref25_Ints.calls 17000003 a.f0 a.f1 a.f2 a.f3 a.f4 A5 c5 _ A6 c6 _ A7 c7 _ A8 c8 _ tt _ _ _ _ _ _ _ _ _ _ w NZ NY N8 N7 h72 N9 Ob Oa he).mono ?_
 rintro r w1 ⟨v5, v6, v7, v8, rfl, i5, i6, i7, i8, hb⟩
 have hr : HR w1 (.agg #[.int .i64 x.f0, .int .u64 x.f1, .int .u64 x.f2, .int .u64 x.f3, .int .u64 x.f4, v5, v6, v7, v8]) x := ⟨v5, v6, v7, v8, rfl, .qR i5, .qR i6, .qR i7, .qR i8⟩
 obtain ⟨D5, g5, D6, g6, D7, g7, D8, g8, ev, -⟩ := hr.open_
 rw [ev] at hr
 refine ⟨D5, g5, D6, g6, D7, g7, D8, g8, ?_, hr, hb⟩
 rw [← ev]
theorem Eu {a x : Hi} {e tt : Int} (hw : yQ a) (h7 : a.f7.length ≤ 1024) (h8 : a.f8.length ≤ 1024) (hx : lM a tt = (x, e)) (he : e = 0) : yQ x ∧ jD x = 0 := by
 subst he
 obtain ⟨hc, t0, t1, p, n, hp, hn⟩ := Wp (h := a) (tt := tt) (by rw [hx])
 obtain ⟨x', ex, cx, ox, sx, wx, -⟩ := Rk hw hc h7 h8 t0 t1 hp hn
 rw [hx] at ex
 injection ex with ex _
 subst ex
 exact ⟨wx, cx⟩
set_option maxHeartbeats 64000000 in
set_option maxRecDepth 100000 in
theorem Nr (a : Hi) (tt : Int) (hwa : Zt a) (htt : i64 tt) (w : World) (u x1 : Value) (hx1 : x1 = .int .i64 tt) (hua : HI w u a) : Calls Try.prog 5 #[u, x1] w fun e w' => e = .returned (.bool true) ∧ Below w.heap.size w w' := by
  subst hx1
  have hud := Try.underlying29
  have hur := Try.underlying41
  obtain ⟨b1, hb1, cs⟩ := QS a hwa.2.2.2.2.2.1 hwa.2.2.2.2.2.2.1
  have CS := ah cs
  clear cs
  cases b1 with
  | false =>
    clear hb1
    obtain ⟨A5a, c5a, A6a, c6a, A7a, c7a, A8a, c8a, e, -⟩ := hua.open_
    subst e
    have B := ah (ak (Below.refl w.heap.size w) (.cells #[.int .i64 a.f0, .int .u64 a.f1, .int .u64 a.f2, .int .u64 a.f3, .int .u64 a.f4, .slice A5a a.f5.length c5a, .slice A6a a.f6.length c6a, .slice A7a a.f7.length c7a, .slice A8a a.f8.length c8a] 29))
    have X := ah (qU.new w #[.int .i64 a.f0, .int .u64 a.f1, .int .u64 a.f2, .int .u64 a.f3, .int .u64 a.f4, .slice A5a a.f5.length c5a, .slice A6a a.f6.length c6a, .slice A7a a.f7.length c7a, .slice A8a a.f8.length c8a] 29)
    have hx := fun i => X.out.cell i
    have HA := ah (hua.below B.out)
    clear hua
    go_enter Try.func5, Try.ntmps5
    go_wp2_with (first | (go_at_call 25; (with_reducible refine (CS.out _ _ HA.out).mono ?_); rintro e W1 ⟨rfl, hb⟩; replace B := ah (aH B.out B.out.size hb); replace HA := ah (HA.out.below hb); replace X := ah (X.out.below hb); replace hx := fun i => X.out.cell i; clear  hb) | (go_at_call 26; (with_reducible refine (Dz _).mono ?_); rintro e W2 ⟨rfl, hb⟩; replace B := ah (aH B.out B.out.size hb); replace HA := ah (HA.out.below hb); replace X := ah (X.out.below hb); replace hx := fun i => X.out.cell i; clear  hb))
    go_ret
    exact ⟨rfl, B.out⟩
  | true =>
  obtain ⟨n5, n6, n7, n8⟩ := hb1 rfl
  have hWa := Yo hwa (by omega) (by omega)
  obtain ⟨⟨x, e⟩, hx⟩ : ∃ r, lM a tt = r := ⟨_, rfl⟩
  have n1 := QT a x e tt hWa htt hx
  have r1 := KH a x e tt hWa (by omega) (by omega) htt hx
  have lx := MV hWa htt
  rw [hx] at lx
  have N1 := ah n1
  have R1 := ah r1
  have I1 := ah (Um a (by omega) (by omega))
  have J1 := ah (OL x (by have := lx.l5; simp only at this; omega) (by have := lx.l6; simp only at this; omega) (by have := lx.l7; simp only at this; omega) (by have := lx.l8; simp only at this; omega))
  have d3 : (e == e) = true := beq_self_eq_true _
  by_cases c1 : e = 0
  · obtain ⟨wx, cx⟩ := Eu hWa (by omega) (by omega) hx c1
    have k1 := JW x wx
    rw [cx] at k1
    have K1 := ah k1
    subst c1
    clear n1 r1 hx lx n5 n6 n7 n8 hb1 hwa htt hWa wx cx k1
    obtain ⟨A5a, c5a, A6a, c6a, A7a, c7a, A8a, c8a, e, -⟩ := hua.open_
    subst e
    have B := ah (ak (Below.refl w.heap.size w) (.cells #[.int .i64 a.f0, .int .u64 a.f1, .int .u64 a.f2, .int .u64 a.f3, .int .u64 a.f4, .slice A5a a.f5.length c5a, .slice A6a a.f6.length c6a, .slice A7a a.f7.length c7a, .slice A8a a.f8.length c8a] 29))
    have X := ah (qU.new w #[.int .i64 a.f0, .int .u64 a.f1, .int .u64 a.f2, .int .u64 a.f3, .int .u64 a.f4, .slice A5a a.f5.length c5a, .slice A6a a.f6.length c6a, .slice A7a a.f7.length c7a, .slice A8a a.f8.length c8a] 29)
    have hx := fun i => X.out.cell i
    have HA := ah (hua.below B.out)
    clear hua
    go_enter Try.func5, Try.ntmps5
    go_wp2_with (first | (go_at_call 25; (with_reducible refine (CS.out _ _ HA.out).mono ?_); rintro e W1 ⟨rfl, hb⟩; replace B := ah (aH B.out B.out.size hb); replace HA := ah (HA.out.below hb); replace X := ah (X.out.below hb); replace hx := fun i => X.out.cell i; clear  hb) | (go_at_call 27; (with_reducible refine (N1.out _ _ HA.out).mono ?_); rintro e W2 ⟨D5x, g5x, D6x, g6x, D7x, g7x, D8x, g8x, rfl, hh, hb⟩; replace B := ah (aH B.out B.out.size hb); replace HA := ah (HA.out.below hb); replace X := ah (X.out.below hb); replace hx := fun i => X.out.cell i; have HX := ah hh; have hxa := fun i => (X.out.alloc (.cells #[.int .i64 x.f0, .int .u64 x.f1, .int .u64 x.f2, .int .u64 x.f3, .int .u64 x.f4, .slice D5x x.f5.length g5x, .slice D6x x.f6.length g6x, .slice D7x x.f7.length g7x, .slice D8x x.f8.length g8x] 29)).cell i; clear hh hb))
    (try clear hxa)
    have hal := ak (Below.refl W2.heap.size W2) (.cells #[.int .i64 x.f0, .int .u64 x.f1, .int .u64 x.f2, .int .u64 x.f3, .int .u64 x.f4, .slice D5x x.f5.length g5x, .slice D6x x.f6.length g6x, .slice D7x x.f7.length g7x, .slice D8x x.f8.length g8x] 29)
    replace B := ah (aH B.out B.out.size hal)
    replace HA := ah (HA.out.below hal)
    replace HX := ah (HX.out.below hal)
    replace X := ah (X.out.alloc (.cells #[.int .i64 x.f0, .int .u64 x.f1, .int .u64 x.f2, .int .u64 x.f3, .int .u64 x.f4, .slice D5x x.f5.length g5x, .slice D6x x.f6.length g6x, .slice D7x x.f7.length g7x, .slice D8x x.f8.length g8x] 29)); replace hx := fun i => X.out.cell i
    have P := ah (qU.new W2 #[.int .i64 x.f0, .int .u64 x.f1, .int .u64 x.f2, .int .u64 x.f3, .int .u64 x.f4, .slice D5x x.f5.length g5x, .slice D6x x.f6.length g6x, .slice D7x x.f7.length g7x, .slice D8x x.f8.length g8x] 29); have hp := fun i => P.out.cell i; clear hal
    go_wp2_with (first | (go_at_call 29; (with_reducible refine (I1.out _ _ HA.out).mono ?_); rintro e W3 ⟨ra, rfl, hr, hb⟩; replace B := ah (aH B.out B.out.size hb); replace HA := ah (HA.out.below hb); replace HX := ah (HX.out.below hb); replace X := ah (X.out.below hb); replace hx := fun i => X.out.cell i; replace P := ah (P.out.below hb); replace hp := fun i => P.out.cell i; have RA := ah hr; clear hr hb) | (go_at_call 28; (with_reducible refine (R1.out _ _ RA.out).mono ?_); rintro e W4 ⟨D5y, g5y, D6y, g6y, D7y, g7y, D8y, g8y, rfl, hh, hb⟩; replace B := ah (aH B.out B.out.size hb); replace HA := ah (HA.out.below hb); replace HX := ah (HX.out.below hb); replace RA := ah (RA.out.below hb); replace X := ah (X.out.below hb); replace hx := fun i => X.out.cell i; replace P := ah (P.out.below hb); replace hp := fun i => P.out.cell i; have RY := ah hh; have hxa := fun i => (X.out.alloc (.cells #[.int .i64 x.f0, .int .u64 x.f1, .int .u64 x.f2, .int .u64 x.f3, .int .u64 x.f4, .slice D5y x.f5.length g5y, .slice D6y x.f6.length g6y, .slice D7y x.f7.length g7y, .slice D8y x.f8.length g8y] 41)).cell i; have hpa := fun i => (P.out.alloc (.cells #[.int .i64 x.f0, .int .u64 x.f1, .int .u64 x.f2, .int .u64 x.f3, .int .u64 x.f4, .slice D5y x.f5.length g5y, .slice D6y x.f6.length g6y, .slice D7y x.f7.length g7y, .slice D8y x.f8.length g8y] 41)).cell i; clear hh hb))
    (try clear hxa hpa)
    have hal := ak (Below.refl W4.heap.size W4) (.cells #[.int .i64 x.f0, .int .u64 x.f1, .int .u64 x.f2, .int .u64 x.f3, .int .u64 x.f4, .slice D5y x.f5.length g5y, .slice D6y x.f6.length g6y, .slice D7y x.f7.length g7y, .slice D8y x.f8.length g8y] 41)
    replace B := ah (aH B.out B.out.size hal)
    replace HA := ah (HA.out.below hal)
    replace HX := ah (HX.out.below hal)
    replace RA := ah (RA.out.below hal)
    replace RY := ah (RY.out.below hal)
    replace X := ah (X.out.alloc (.cells #[.int .i64 x.f0, .int .u64 x.f1, .int .u64 x.f2, .int .u64 x.f3, .int .u64 x.f4, .slice D5y x.f5.length g5y, .slice D6y x.f6.length g6y, .slice D7y x.f7.length g7y, .slice D8y x.f8.length g8y] 41)); replace hx := fun i => X.out.cell i
    replace P := ah (P.out.alloc (.cells #[.int .i64 x.f0, .int .u64 x.f1, .int .u64 x.f2, .int .u64 x.f3, .int .u64 x.f4, .slice D5y x.f5.length g5y, .slice D6y x.f6.length g6y, .slice D7y x.f7.length g7y, .slice D8y x.f8.length g8y] 41)); replace hp := fun i => P.out.cell i
    have Q := ah (qU.new W4 #[.int .i64 x.f0, .int .u64 x.f1, .int .u64 x.f2, .int .u64 x.f3, .int .u64 x.f4, .slice D5y x.f5.length g5y, .slice D6y x.f6.length g6y, .slice D7y x.f7.length g7y, .slice D8y x.f8.length g8y] 41); have hq := fun i => Q.out.cell i; clear hal
    go_wp2_with (first | (go_at_call 30; (with_reducible refine (J1.out _ _ _ HX.out RY.out).mono ?_); rintro e W5 ⟨rfl, hb⟩; replace B := ah (aH B.out B.out.size hb); replace HA := ah (HA.out.below hb); replace HX := ah (HX.out.below hb); replace RA := ah (RA.out.below hb); replace RY := ah (RY.out.below hb); replace X := ah (X.out.below hb); replace hx := fun i => X.out.cell i; replace P := ah (P.out.below hb); replace hp := fun i => P.out.cell i; replace Q := ah (Q.out.below hb); replace hq := fun i => Q.out.cell i; clear  hb) | (go_at_call 31; (with_reducible refine (K1.out _ _ HX.out).mono ?_); rintro e W6 ⟨rfl, hb⟩; replace B := ah (aH B.out B.out.size hb); replace HA := ah (HA.out.below hb); replace HX := ah (HX.out.below hb); replace RA := ah (RA.out.below hb); replace RY := ah (RY.out.below hb); replace X := ah (X.out.below hb); replace hx := fun i => X.out.cell i; replace P := ah (P.out.below hb); replace hp := fun i => P.out.cell i; replace Q := ah (Q.out.below hb); replace hq := fun i => Q.out.cell i; clear  hb) | (go_at_call 26; (with_reducible refine (Dz _).mono ?_); rintro e W7 ⟨rfl, hb⟩; replace B := ah (aH B.out B.out.size hb); replace HA := ah (HA.out.below hb); replace HX := ah (HX.out.below hb); replace RA := ah (RA.out.below hb); replace RY := ah (RY.out.below hb); replace X := ah (X.out.below hb); replace hx := fun i => X.out.cell i; replace P := ah (P.out.below hb); replace hp := fun i => P.out.cell i; replace Q := ah (Q.out.below hb); replace hq := fun i => Q.out.cell i; clear  hb))
    go_ret
    exact ⟨rfl, B.out⟩
  · have d1 : (e != 0) = true := bne_iff_ne.2 c1
    clear c1 n1 r1 hx lx n5 n6 n7 n8 hb1 hwa htt hWa
    obtain ⟨A5a, c5a, A6a, c6a, A7a, c7a, A8a, c8a, e, -⟩ := hua.open_
    subst e
    have B := ah (ak (Below.refl w.heap.size w) (.cells #[.int .i64 a.f0, .int .u64 a.f1, .int .u64 a.f2, .int .u64 a.f3, .int .u64 a.f4, .slice A5a a.f5.length c5a, .slice A6a a.f6.length c6a, .slice A7a a.f7.length c7a, .slice A8a a.f8.length c8a] 29))
    have X := ah (qU.new w #[.int .i64 a.f0, .int .u64 a.f1, .int .u64 a.f2, .int .u64 a.f3, .int .u64 a.f4, .slice A5a a.f5.length c5a, .slice A6a a.f6.length c6a, .slice A7a a.f7.length c7a, .slice A8a a.f8.length c8a] 29)
    have hx := fun i => X.out.cell i
    have HA := ah (hua.below B.out)
    clear hua
    go_enter Try.func5, Try.ntmps5
    go_wp2_with (first | (go_at_call 25; (with_reducible refine (CS.out _ _ HA.out).mono ?_); rintro e W1 ⟨rfl, hb⟩; replace B := ah (aH B.out B.out.size hb); replace HA := ah (HA.out.below hb); replace X := ah (X.out.below hb); replace hx := fun i => X.out.cell i; clear  hb) | (go_at_call 27; (with_reducible refine (N1.out _ _ HA.out).mono ?_); rintro e W2 ⟨D5x, g5x, D6x, g6x, D7x, g7x, D8x, g8x, rfl, hh, hb⟩; replace B := ah (aH B.out B.out.size hb); replace HA := ah (HA.out.below hb); replace X := ah (X.out.below hb); replace hx := fun i => X.out.cell i; have HX := ah hh; have hxa := fun i => (X.out.alloc (.cells #[.int .i64 x.f0, .int .u64 x.f1, .int .u64 x.f2, .int .u64 x.f3, .int .u64 x.f4, .slice D5x x.f5.length g5x, .slice D6x x.f6.length g6x, .slice D7x x.f7.length g7x, .slice D8x x.f8.length g8x] 29)).cell i; clear hh hb))
    (try clear hxa)
    have hal := ak (Below.refl W2.heap.size W2) (.cells #[.int .i64 x.f0, .int .u64 x.f1, .int .u64 x.f2, .int .u64 x.f3, .int .u64 x.f4, .slice D5x x.f5.length g5x, .slice D6x x.f6.length g6x, .slice D7x x.f7.length g7x, .slice D8x x.f8.length g8x] 29)
    replace B := ah (aH B.out B.out.size hal)
    replace HA := ah (HA.out.below hal)
    replace HX := ah (HX.out.below hal)
    replace X := ah (X.out.alloc (.cells #[.int .i64 x.f0, .int .u64 x.f1, .int .u64 x.f2, .int .u64 x.f3, .int .u64 x.f4, .slice D5x x.f5.length g5x, .slice D6x x.f6.length g6x, .slice D7x x.f7.length g7x, .slice D8x x.f8.length g8x] 29)); replace hx := fun i => X.out.cell i
    have P := ah (qU.new W2 #[.int .i64 x.f0, .int .u64 x.f1, .int .u64 x.f2, .int .u64 x.f3, .int .u64 x.f4, .slice D5x x.f5.length g5x, .slice D6x x.f6.length g6x, .slice D7x x.f7.length g7x, .slice D8x x.f8.length g8x] 29); have hp := fun i => P.out.cell i; clear hal
    go_wp2_with (first | (go_at_call 29; (with_reducible refine (I1.out _ _ HA.out).mono ?_); rintro e W3 ⟨ra, rfl, hr, hb⟩; replace B := ah (aH B.out B.out.size hb); replace HA := ah (HA.out.below hb); replace HX := ah (HX.out.below hb); replace X := ah (X.out.below hb); replace hx := fun i => X.out.cell i; replace P := ah (P.out.below hb); replace hp := fun i => P.out.cell i; have RA := ah hr; clear hr hb) | (go_at_call 28; (with_reducible refine (R1.out _ _ RA.out).mono ?_); rintro e W4 ⟨D5y, g5y, D6y, g6y, D7y, g7y, D8y, g8y, rfl, hh, hb⟩; replace B := ah (aH B.out B.out.size hb); replace HA := ah (HA.out.below hb); replace HX := ah (HX.out.below hb); replace RA := ah (RA.out.below hb); replace X := ah (X.out.below hb); replace hx := fun i => X.out.cell i; replace P := ah (P.out.below hb); replace hp := fun i => P.out.cell i; have RY := ah hh; have hxa := fun i => (X.out.alloc (.cells #[.int .i64 x.f0, .int .u64 x.f1, .int .u64 x.f2, .int .u64 x.f3, .int .u64 x.f4, .slice D5y x.f5.length g5y, .slice D6y x.f6.length g6y, .slice D7y x.f7.length g7y, .slice D8y x.f8.length g8y] 41)).cell i; have hpa := fun i => (P.out.alloc (.cells #[.int .i64 x.f0, .int .u64 x.f1, .int .u64 x.f2, .int .u64 x.f3, .int .u64 x.f4, .slice D5y x.f5.length g5y, .slice D6y x.f6.length g6y, .slice D7y x.f7.length g7y, .slice D8y x.f8.length g8y] 41)).cell i; clear hh hb))
    (try clear hxa hpa)
    have hal := ak (Below.refl W4.heap.size W4) (.cells #[.int .i64 x.f0, .int .u64 x.f1, .int .u64 x.f2, .int .u64 x.f3, .int .u64 x.f4, .slice D5y x.f5.length g5y, .slice D6y x.f6.length g6y, .slice D7y x.f7.length g7y, .slice D8y x.f8.length g8y] 41)
    replace B := ah (aH B.out B.out.size hal)
    replace HA := ah (HA.out.below hal)
    replace HX := ah (HX.out.below hal)
    replace RA := ah (RA.out.below hal)
    replace RY := ah (RY.out.below hal)
    replace X := ah (X.out.alloc (.cells #[.int .i64 x.f0, .int .u64 x.f1, .int .u64 x.f2, .int .u64 x.f3, .int .u64 x.f4, .slice D5y x.f5.length g5y, .slice D6y x.f6.length g6y, .slice D7y x.f7.length g7y, .slice D8y x.f8.length g8y] 41)); replace hx := fun i => X.out.cell i
    replace P := ah (P.out.alloc (.cells #[.int .i64 x.f0, .int .u64 x.f1, .int .u64 x.f2, .int .u64 x.f3, .int .u64 x.f4, .slice D5y x.f5.length g5y, .slice D6y x.f6.length g6y, .slice D7y x.f7.length g7y, .slice D8y x.f8.length g8y] 41)); replace hp := fun i => P.out.cell i
    have Q := ah (qU.new W4 #[.int .i64 x.f0, .int .u64 x.f1, .int .u64 x.f2, .int .u64 x.f3, .int .u64 x.f4, .slice D5y x.f5.length g5y, .slice D6y x.f6.length g6y, .slice D7y x.f7.length g7y, .slice D8y x.f8.length g8y] 41); have hq := fun i => Q.out.cell i; clear hal
    go_wp2_with (first | (go_at_call 30; (with_reducible refine (J1.out _ _ _ HX.out RY.out).mono ?_); rintro e W5 ⟨rfl, hb⟩; replace B := ah (aH B.out B.out.size hb); replace HA := ah (HA.out.below hb); replace HX := ah (HX.out.below hb); replace RA := ah (RA.out.below hb); replace RY := ah (RY.out.below hb); replace X := ah (X.out.below hb); replace hx := fun i => X.out.cell i; replace P := ah (P.out.below hb); replace hp := fun i => P.out.cell i; replace Q := ah (Q.out.below hb); replace hq := fun i => Q.out.cell i; clear  hb) | (go_at_call 31; (with_reducible refine (K1.out _ _ HX.out).mono ?_); rintro e W6 ⟨rfl, hb⟩; replace B := ah (aH B.out B.out.size hb); replace HA := ah (HA.out.below hb); replace HX := ah (HX.out.below hb); replace RA := ah (RA.out.below hb); replace RY := ah (RY.out.below hb); replace X := ah (X.out.below hb); replace hx := fun i => X.out.cell i; replace P := ah (P.out.below hb); replace hp := fun i => P.out.cell i; replace Q := ah (Q.out.below hb); replace hq := fun i => Q.out.cell i; clear  hb) | (go_at_call 26; (with_reducible refine (Dz _).mono ?_); rintro e W7 ⟨rfl, hb⟩; replace B := ah (aH B.out B.out.size hb); replace HA := ah (HA.out.below hb); replace HX := ah (HX.out.below hb); replace RA := ah (RA.out.below hb); replace RY := ah (RY.out.below hb); replace X := ah (X.out.below hb); replace hx := fun i => X.out.cell i; replace P := ah (P.out.below hb); replace hp := fun i => P.out.cell i; replace Q := ah (Q.out.below hb); replace hq := fun i => Q.out.cell i; clear  hb))
    go_ret
    exact ⟨rfl, B.out⟩
def tidepolelaw25_ScaleInts.f (s0 z0 zc0 ct0 sm0 : Int) (dN dK : List Sp) (dJ dI : List Int) (tt : Int) : Option Bool := if Zt ⟨s0, z0, zc0, ct0, sm0, dN, dK, dJ, dI⟩ ∧ i64 tt then some true else none
theorem tidepolelaw25_ScaleInts.calls (s0 : Int) (z0 : Int) (zc0 : Int) (ct0 : Int) (sm0 : Int) (iV : Option Addr) (iW : Nat) (dN : List Sp) (iR : Option Addr) (iT : Nat) (dK : List Sp) (iC : Option Addr) (iD : Nat) (dJ : List Int) (iE : Option Addr) (iF : Nat) (dI : List Int) (tt : Int) (r : Bool) (w : World) (oO : Kd.C kSp w iV dN.length dN) (oP : dN.length ≤ iW) (oQ : Kd.C kSp w iR dK.length dK) (oU : dK.length ≤ iT) (qI : Kd.C (Kd.int .i64) w iC dJ.length dJ) (qJ : dJ.length ≤ iD) (qK : Kd.C (Kd.int .i64) w iE dI.length dI) (qL : dI.length ≤ iF) (h : tidepolelaw25_ScaleInts.f s0 z0 zc0 ct0 sm0 dN dK dJ dI tt = some r) :
  Calls Try.prog 5 #[.agg #[.int .i64 s0, .int .u64 z0, .int .u64 zc0, .int .u64 ct0, .int .u64 sm0, .slice iV dN.length iW, .slice iR dK.length iT, .slice iC dJ.length iD, .slice iE dI.length iF], .int .i64 tt] w fun e w' => e = .returned (.bool r) ∧ Below w.heap.size w w' := by
 obtain ⟨⟨q0, q1⟩, rfl⟩ := lN h
 exact Nr _ _ q0 q1 w _ _ rfl (HI.mk (h := ⟨s0, z0, zc0, ct0, sm0, dN, dK, dJ, dI⟩) (.of oO oP) (.of oQ oU) (.of qI qJ) (.of qK qL))
def wU : List Char := List.map Char.ofNat [104, 97, 114, 110, 101, 115, 115, 32, 50, 100, 53, 99, 55, 48, 56, 102, 52, 98, 49, 57, 100, 52, 102, 50, 51, 51, 98, 56, 97, 99, 48, 56, 102, 97, 54, 99, 97, 50, 48, 100, 54, 99, 52, 98, 101, 97, 49, 51, 56, 101, 55, 98, 51, 53, 101, 57, 55, 55, 52, 56, 53, 99, 50, 100, 49, 101, 97, 97, 48, 102, 57, 55, 32, 99, 117, 116, 32, 97, 116, 32, 116, 105, 100, 101, 112, 111, 108, 101, 47, 116, 105, 100, 101, 112, 111, 108, 101, 108, 97, 119, 50, 56, 46, 82, 105, 115, 101, 83, 112, 108, 105, 116, 115, 32, 116, 105, 100, 101, 112, 111, 108, 101, 47, 116, 105, 100, 101, 112, 111, 108, 101, 108, 97, 119, 50, 56, 46, 82, 105, 115, 101, 83, 116, 101, 97, 100, 121, 32, 116, 105, 100, 101, 112, 111, 108, 101, 47, 116, 105, 100, 101, 112, 111, 108, 101, 108, 97, 119, 50, 53, 46, 83, 99, 97, 108, 101, 73, 110, 116, 115, 32, 116, 105, 100, 101, 112, 111, 108, 101, 47, 116, 105, 100, 101, 112, 111, 108, 101, 108, 97, 119, 50, 53, 46, 83, 99, 97, 108, 101, 70, 108, 111, 97, 116, 115, 32, 116, 105, 100, 101, 112, 111, 108, 101, 47, 116, 105, 100, 101, 112, 111, 108, 101, 108, 97, 119, 50, 53, 46, 83, 99, 97, 108, 101, 70, 105, 116, 115, 32, 116, 105, 100, 101, 112, 111, 108, 101, 47, 116, 105, 100, 101, 112, 111, 108, 101, 108, 97, 119, 50, 55, 46, 65, 100, 100, 83, 117, 109, 115, 32, 116, 105, 100, 101, 112, 111, 108, 101, 47, 116, 105, 100, 101, 112, 111, 108, 101, 108, 97, 119, 50, 55, 46, 65, 100, 100, 73, 110, 116, 115, 32, 116, 105, 100, 101, 112, 111, 108, 101, 47, 116, 105, 100, 101, 112, 111, 108, 101, 108, 97, 119, 50, 55, 46, 65, 100, 100, 84, 117, 114, 110, 115, 32, 116, 105, 100, 101, 112, 111, 108, 101, 47, 116, 105, 100, 101, 112, 111, 108, 101, 108, 97, 119, 50, 55, 46, 65, 100, 100, 74, 111, 105, 110, 115, 32, 116, 105, 100, 101, 112, 111, 108, 101, 47, 116, 105, 100, 101, 112, 111, 108, 101, 108, 97, 119, 50, 55, 46, 65, 100, 100, 76, 101, 115, 115, 32, 116, 105, 100, 101, 112, 111, 108, 101, 47, 116, 105, 100, 101, 112, 111, 108, 101, 108, 97, 119, 50, 55, 46, 65, 100, 100, 66, 97, 99, 107, 32, 116, 105, 100, 101, 112, 111, 108, 101, 47, 116, 105, 100, 101, 112, 111, 108, 101, 108, 97, 119, 50, 55, 46, 65, 100, 100, 65, 108, 108, 32, 116, 105, 100, 101, 112, 111, 108, 101, 47, 116, 105, 100, 101, 112, 111, 108, 101, 108, 97, 119, 50, 56, 46, 82, 105, 115, 101, 78, 101, 118, 101, 114]
theorem WI : Try.prog.initOrder = String.ofList wU := by kernel_rfl
theorem yc : Try.prog.initOrder.toList = wU := by rw [WI]; exact String.toList_ofList
theorem OZ : (behindMainWord (wordsSigns wU)).head? = some "cut".toList := by kernel_rfl
theorem yg : ∃ r, behindMainWord (wordsSigns wU) = "cut".toList :: r := by have h := OZ; cases h2 : behindMainWord (wordsSigns wU) with | nil => rw [h2] at h; cases h | cons c r => rw [h2] at h; injection h with h; exact ⟨r, by rw [h]⟩
theorem Jk (r : List (List Char)) : stripLifts liftWords ("cut".toList :: r) = ([], "cut".toList :: r) := by kernel_rfl
theorem O1 : Try.prog.headLifts = [] := by obtain ⟨r, hr⟩ := yg; unfold Program.headLifts; rw [yc, hr, Jk]; kernel_rfl
theorem Ik : Try.prog.doorFits [] = true := by kernel_rfl
theorem G8 : Try.prog.laysLater = false := by kernel_rfl
theorem C9 : Try.prog.bearsReflect = false := by kernel_rfl
theorem Ns {P : Program} {L : List Char} {r : List (List Char)} (h1 : P.initOrder.toList = L) (h2 : behindMainWord (wordsSigns L) = "cut".toList :: r) (h3 : P.doorFits [] = true) (h4 : P.laysLater = false) (h5 : P.bearsReflect = false) : P.mayEnter = true := by unfold Program.mayEnter; rw [h1, h2]; simp only [Jk, h3, h4, h5]; kernel_rfl
theorem Il : Try.prog.mayEnter = true := by obtain ⟨r, hr⟩ := yg; exact Ns yc hr Ik G8 C9
theorem Ew : Try.prog.liftsFinal = false := by obtain ⟨r, hr⟩ := yg; unfold Program.liftsFinal; rw [yc, O1, hr]; kernel_rfl
theorem WJ {P : Program} {L : List Char} {r : List (List Char)} (h1 : P.initOrder.toList = L) (h2 : behindMainWord (wordsSigns L) = "cut".toList :: r) : P.make = some .cut := by unfold Program.make; rw [h1, h2]; kernel_rfl
theorem Ru : Try.prog.make = some .cut := by obtain ⟨r, hr⟩ := yg; exact WJ yc hr
theorem KI : laidOutB Try.prog = true := by kernel_rfl
theorem G9 : mapsRowed Try.prog = true := by kernel_rfl
theorem O4 : (Try.prog.stops == []) = true := by kernel_rfl
theorem He : (Try.prog.stopKnobs == []) = true := by kernel_rfl
theorem Hf : Try.prog.plainKeys = true := by kernel_rfl
theorem Ey : Try.prog.stopsHeard = true := by kernel_rfl
end Go.Proofs.Ytooiccpmngmapaa.P
namespace Go.Proofs.Ytooiccpmngmapaa.Pure
open Go.RowKit Go.Proofs.Ytooiccpmngmapaa.P Go.Proofs.YtooiccpmngmapaaW.PrintWords
theorem ScaleInts : ∀ (x0 : WU) (a1 : Int), XJ x0 → (Nu .i64) a1 → tidepolelaw25_ScaleInts.f x0.f0 x0.f1 x0.f2 x0.f3 x0.f4 x0.f5 x0.f6 x0.f7 x0.f8 a1 = some true := fun _ _ h0 h1 => if_pos ⟨Yn h0, EX h1⟩
end Go.Proofs.Ytooiccpmngmapaa.Pure
namespace Go.Proofs.Ytooiccpmngmapaa.scaleInts
open Go.ChangeShapes Go.WideShapes Go.ChangeAt Go.RowKit Go.Proofs.Ytooiccpmngmapaa.P Go.Proofs.YtooiccpmngmapaaW.PrintWords
theorem own : ownKnob Try.prog.godebug = none := by kernel_rfl
theorem laidOut : laidOutB Try.prog = true := by kernel_rfl
set_option maxRecDepth 100000 in
set_option maxHeartbeats 4000000 in
theorem lifted (os : Os) (started : os.Started) (H : Type) (enc : TypeId × Value → H) :
  ReturnsInHanded {} Try.checked os 5 .any (Rows.scaleIntsSpec.pre6 enc Try.prog Try.f5 Rows.scaleIntsRow.domain false) (Rows.scaleIntsSpec.post enc Try.prog Try.f5 false true false false) := by
 refine returnsInHanded_of_change_sized (C := Try.checked) own started (by kernel_rfl) Try.func5
  (ChangeSpec.witness6 (enc := enc) (C := Try.checked) false ⟨#[], #[.agg #[.int .i64 0, .int .u64 0, .int .u64 0, .int .u64 0, .int .u64 0, .slice none 0 0, .slice none 0 0, .slice none 0 0, .slice none 0 0], .int .i64 0], []⟩ 8 (by kernel_rfl) (by kernel_rfl) (by kernel_rfl) (by kernel_rfl)) ?_
 intro W base args ds gs before hval0 hW hcnd hsz0 _
 have hval : ∀ (j : Nat) t v, Try.f5.params[j]? = some t → args[j]? = some v → Value.okWide Try.prog W .any base t v := hval0
 have hW' := hW
 obtain ⟨p, q, hA0, hV, rfl, hfz, hnd⟩ := hW
 have hA : DataW.TrodAll enc Try.prog W 0 (fun _ => true) true Try.f5.params.toList args.toList ds p := hA0
 rw [Try.params5] at hA hval
 obtain ⟨v0, vs0, d0, ds0, p0, q0, hargs, rfl, rfl, h0, r0⟩ := trodAll_cons hA
 obtain ⟨v1, vs1, d1, ds1, p1, q1, rfl, rfl, rfl, h1, r1⟩ := trodAll_cons r0
 obtain ⟨rfl, rfl, rfl⟩ := trodAll_nil r1
 obtain rfl : args = #[v0, v1] := by cases args; simp_all
 obtain ⟨rfl, rfl⟩ := trodVars_none hV
 have k0 := h0
 have lt0 : ∀ x ∈ p0, x.block < W.heap.size := by obtain ⟨m, hm⟩ := k0; exact DataW.trod_lt m _ _ _ hm
 obtain ⟨fu0, hf0⟩ := h0
 obtain ⟨x0, hK0, w0⟩ := Vj enc W 0 _ true fu0 _ _ hf0
 obtain ⟨cs0, rfl, _⟩ := okWide_struct Try.underlying29 (hval 0 29 v0 rfl rfl)
 obtain ⟨iV, iW, iR, iT, iC, iD, iE, iF, he0, h0_5_l, abh, h0_6_l, abj, h0_7_l, abk, h0_8_l, abl⟩ := Sv hK0
 obtain rfl : cs0 = #[.int .i64 x0.f0, .int .u64 x0.f1, .int .u64 x0.f2, .int .u64 x0.f3, .int .u64 x0.f4, .slice iV x0.f5.length iW, .slice iR x0.f6.length iT, .slice iC x0.f7.length iD, .slice iE x0.f8.length iF] := by
  have he : cs0.toList = _ := he0
  exact Array.toList_inj.1 he
 obtain ⟨a1, rfl, rfl, rfl, w1⟩ := open_int Try.underlying3 (hval 1 3 v1 rfl rfl) h1
 clear hA0 hval0 hsz0
 obtain hk := Pure.ScaleInts x0 a1 w0 w1
 refine (P.tidepolelaw25_ScaleInts.calls x0.f0 x0.f1 x0.f2 x0.f3 x0.f4 iV iW x0.f5 iR iT x0.f6 iC iD x0.f7 iE iF x0.f8 a1 true W abh h0_5_l abj h0_6_l abk h0_7_l abl h0_8_l hk).mono fun e W' ⟨he, bel⟩ => ?_
 subst he
 exact ⟨_, rfl, _, _, _, [], _, [], hW', trodAll_mk1 (shut_bool Try.underlying4 _), (trodAll_cons_mk (Below.trod laidOut (by kernel_rfl) (aiI (by kernel_rfl)) k0 bel lt0) (trodAll_cons_mk (shut_int Try.underlying3 w1) trodAll_mk0)), rfl, bel.frame _, fun h => by cases h⟩
theorem cf0 : (Rows.scaleIntsRow.wf (OpenSpec.ofChange Rows.scaleIntsSpec)) = true := by kernel_rfl
theorem cf1 : (laidOutB Try.prog) = true := P.KI
theorem cf2 : (mapsRowed Try.prog) = true := P.G9
theorem cf3 : (Try.f5.params.all (Try.prog.readableRec ·)) = true := by kernel_rfl
theorem cf4 : (namedTie Try.prog Rows.scaleIntsRow.named Rows.scaleIntsSpec.vars) = true := by kernel_rfl
theorem cf5 : ((Rows.scaleIntsRow.stops == [])) = true := by kernel_rfl
theorem cf6 : ((Try.prog.stops == [])) = true := P.O4
theorem cf7 : ((Rows.scaleIntsRow.knobs == [])) = true := by kernel_rfl
theorem cf8 : ((Try.prog.stopKnobs == [])) = true := P.He
theorem cf9 : ((Rows.scaleIntsRow.inPlace == Try.prog.inPlace 5)) = true := by kernel_rfl
theorem aeM : ((Rows.scaleIntsRow.unfollowed == Try.prog.unfollowed 5)) = true := by kernel_rfl
theorem aeN : ((Rows.scaleIntsRow.recurses == Try.prog.recurses 5)) = true := by kernel_rfl
theorem aeO : ((Rows.scaleIntsRow.named == Try.prog.varsNamed 5)) = true := by kernel_rfl
theorem aeP : ((Rows.scaleIntsRow.maps == (Try.f5.params.toList ++ Rows.scaleIntsSpec.plain.varTypes Try.prog).any (Try.prog.mapsRec ·))) = true := by kernel_rfl
theorem aeQ : ((Rows.scaleIntsRow.ifaces == (Try.f5.params.toList ++ Rows.scaleIntsSpec.plain.varTypes Try.prog).any (Try.prog.ifacesRec ·))) = true := by kernel_rfl
theorem aeR : ((Rows.scaleIntsRow.mapsOut == Try.prog.mapsAmong Try.f5.resultTypes.toList)) = true := by kernel_rfl
theorem aeS : ((Rows.scaleIntsRow.loops == (Try.f5.params.toList ++ Rows.scaleIntsSpec.plain.varTypes Try.prog).any (Try.prog.loopsFrom ·))) = true := by kernel_rfl
theorem aeT : ((Rows.scaleIntsRow.wideKeys == (Try.f5.params.toList ++ Rows.scaleIntsSpec.plain.varTypes Try.prog ++ Try.f5.resultTypes.toList).any (Try.prog.wideKeysFrom ·))) = true := by kernel_rfl
theorem aeU : (Rows.scaleIntsSpec.vars.all (Try.prog.varReadable ·)) = true := by kernel_rfl
theorem aeV : (Try.f5.resultTypes.all (fun t => Try.prog.readableRec t && decide (t < Try.prog.types.size))) = true := by kernel_rfl
theorem aeW : ((Rows.scaleIntsRow.ifacesOut == Try.f5.resultTypes.toList.any (Try.prog.ifacesRec ·))) = true := by kernel_rfl
theorem aeX : ((Rows.scaleIntsRow.loopsOut == Try.f5.resultTypes.toList.any (Try.prog.loopsFrom ·))) = true := by kernel_rfl
theorem aeY : ((Rows.scaleIntsRow.plainKeys == Try.prog.plainKeys)) = true := by rw [P.Hf]; kernel_rfl
theorem aeZ : (Rows.scaleIntsRow.shortTexts.isNone) = true := by kernel_rfl
theorem ae0 : (Try.prog.stopsHeard) = true := P.Ey
theorem ae1 : (Try.prog.mayEnter) = true := P.Il
theorem ae2 : ((Rows.scaleIntsRow.lifted == Try.prog.liftsFinal)) = true := by rw [P.Ew]; kernel_rfl
theorem ae3 : ((Try.prog.make == some Rows.scaleIntsRow.make)) = true := by rw [P.Ru]; kernel_rfl
theorem ahY : ((Rows.scaleIntsRow.kinds == (if Rows.scaleIntsRow.domain.isEmpty then [] else Try.f5.params.toList.map fun t => match Try.prog.underlying t with | some (.int k) => some k | _ => none))) = true := by kernel_rfl
theorem ae4 : ((Rows.scaleIntsRow.pinned == Rows.scaleIntsRow.pinnedBy)) = true := by kernel_rfl
theorem ae5 : ((Rows.scaleIntsRow.veiled == (Try.f5.params.toList ++ Rows.scaleIntsSpec.plain.varTypes Try.prog ++ Try.f5.resultTypes.toList).any (Try.prog.veiledRec ·))) = true := by kernel_rfl
theorem ae6 : (Rows.scaleIntsRow.veiledFits Try.prog Try.f5.params.toList (Try.f5.params.toList ++ Rows.scaleIntsSpec.plain.varTypes Try.prog ++ Try.f5.resultTypes.toList)) = true := by kernel_rfl
theorem iY {a b : Bool} (h : a = true) (k : b = true) : (a && b) = true := by rw [h, k]; rfl
theorem closed : joinedFacts Try.prog 5 Try.f5 Rows.scaleIntsSpec Rows.scaleIntsRow = true := by unfold joinedFacts; exact (iY (iY (iY (iY (iY (iY (iY (iY (iY (iY (iY (iY (iY (iY (iY (iY (iY (iY (iY (iY (iY (iY (iY (iY (iY (iY (iY (iY (iY (iY (iY cf0 cf1) cf2) cf3) cf4) cf5) cf6) cf7) cf8) cf9) aeM) aeN) aeO) aeP) aeQ) aeR) aeS) aeT) aeU) aeV) aeW) aeX) aeY) aeZ) ae0) ae1) ae2) ae3) (by kernel_rfl)) ae4) ae5) ae6)
theorem over : Rows.scaleIntsRow.holds Try.pinned (OpenSpec.ofChange Rows.scaleIntsSpec) :=
 OpenClaim.holds_of_wide 5 Try.f5 rfl rfl rfl rfl rfl rfl rfl ⟨rfl, rfl, rfl, rfl, rfl⟩ rfl rfl rfl rfl rfl (by kernel_rfl) Try.func5 closed
  (aiI (by kernel_rfl)) (by unfold Func.isWrapper; first | (rw [if_pos (by decide +kernel)]; kernel_rfl) | (rw [if_neg (by decide +kernel)]; exact ⟨rfl, rfl⟩))
  (fun os started H enc _ => lifted os started H enc)
theorem proved : Rows.ScaleIntsSaid := over
#print axioms proved
end Go.Proofs.Ytooiccpmngmapaa.scaleInts
namespace Go.Proofs.Ytooiccpmngmapaa
theorem scaleInts_holds : Rows.ScaleIntsSaid := scaleInts.proved
end Go.Proofs.Ytooiccpmngmapaa