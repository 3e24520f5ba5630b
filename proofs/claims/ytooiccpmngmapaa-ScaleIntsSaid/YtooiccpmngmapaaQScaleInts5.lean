/- ScaleInts: the part that this text bears of the proof that the statement answers true for every input. No condition. -/
import Derived.Test.YtooiccpmngmapaaQScaleInts4
set_option linter.unusedVariables false
set_option linter.unusedSimpArgs false
namespace Go.Proofs.Ytooiccpmngmapaa.P
open Go.RowKit Go.Proofs.YtooiccpmngmapaaW.PrintWords Go.Proofs.YtooiccpmngmapaaW.PrintLast Go.Proofs.YtooiccpmngmapaaW.PrintMore
attribute [local go_sem] jh ji jR jS iI iJ jk jl
def scale_Fit.l0 : Nat → Int → List (gy) → List (gy) → Int → Int → Int → Int → Int → Int → List (dP) → List (dP) → List Int → List Int → Option (Int × Int)
 | 0, _, _, _, _, _, _, _, _, _, _, _, _, _ => none
 | k + 1, x1, x6, x8, x10, qP, vK, vM, vN, vO, vP, vS, vT, vU => if x10 ≥ (-4) then ((scale_many.f k x6 (wrap64 (qP - x10))).bind fun t116 => ((scale_many.f k x8 (wrap64 (qP - x10))).bind fun t117 => (if (wrap64 (t116 + t117)) ≤ x1 then (some (x10, 0)) else (scale_Fit.l0 k x1 x6 x8 (wrap64 (x10 - 1)) qP vK vM vN vO vP vS vT vU)))) else (some (0, 12))
def scale_Fit.f (k : Nat) (dD : Int) (dH : Int) (dQ : Int) (dR : Int) (dO : Int) (dN : List (dP)) (dK : List (dP)) (dJ : List Int) (dI : List Int) (a1 : Int) : Option (Int × Int) := (hist_Pairs.f k dD dH dQ dR dO dN dK dJ dI 0).bind fun lX => (if lX.2 = 0 then (if a1 < 0 then (some (0, 11)) else ((hist_Pairs.f k dD dH dQ dR dO dN dK dJ dI 1).bind fun oq => ((pairs_Without_int64.f lX.1 0).bind fun uS => ((pairs_Without_int64.f oq.1 0).bind fun tZ => (scale_Fit.l0 k a1 uS tZ dD dD dH dQ dR dO dN dK dJ dI))))) else (some (0, lX.2)))
def scale_Fit.T11 : Bool × List (List Nat × List Nat) := (true, [([], []), ([], []), ([1], [1]), ([], []), ([2, 3], [2, 3]), ([0, 4], [0, 4]), ([], []), ([], []), ([7], [7]), ([], []), ([8, 9], [8, 9]), ([6, 10, 5], [6, 10]), ([5, 11], [5, 11]), ([], []), ([12, 13], [12, 13])])
def scale_Fit.B11 : List Nat := [0, 0, 2, 0, 14, 31, 0, 0, 128, 0, 896, 2047, 4095, 0, 16383]
theorem scale_Fit.Xl : rZ .any (opsOf Try.f38 11) = scale_Fit.T11 := by kernel_rfl
theorem scale_Fit.Uw : tJ scale_Fit.T11.2 scale_Fit.B11 = true := by kernel_rfl
set_option maxHeartbeats 8000000 in
set_option maxRecDepth 100000 in
theorem scale_Fit.calls (k : Nat) (dD : Int) (dH : Int) (dQ : Int) (dR : Int) (dO : Int) (iV : Option Addr) (iW : Nat) (dN : List (dP)) (iR : Option Addr) (iT : Nat) (dK : List (dP)) (iC : Option Addr) (iD : Nat) (dJ : List Int) (iE : Option Addr) (iF : Nat) (dI : List Int) (a1 : Int) (r1 : Int) (r2 : Int) (w : World) (oO : Kd.C jE w iV dN.length dN) (oP : dN.length ≤ iW) (oQ : Kd.C jE w iR dK.length dK) (oU : dK.length ≤ iT) (qI : Kd.C (Kd.int .i64) w iC dJ.length dJ) (qJ : dJ.length ≤ iD) (qK : Kd.C (Kd.int .i64) w iE dI.length dI) (qL : dI.length ≤ iF) (h : scale_Fit.f k dD dH dQ dR dO dN dK dJ dI a1 = some (r1, r2)) :
  Calls Try.prog 38 #[.agg #[.int .i64 dD, .int .u64 dH, .int .u64 dQ, .int .u64 dR, .int .u64 dO, .slice iV dN.length iW, .slice iR dK.length iT, .slice iC dJ.length iD, .slice iE dI.length iF], .int .i64 a1] w fun e w' => e = .returned (.tuple #[.int .i64 r1, .int .i64 r2]) ∧ Below w.heap.size w w' := by
 have Ui := Try.underlying29
 have nH := ah oO
 have nI := ah oP
 clear oO oP
 have nZ := ah oQ
 have oh := ah oU
 clear oQ oU
 have oV := ah qI
 have oW := ah qJ
 clear qI qJ
 have pG := ah qK
 have pI := ah qL
 clear qK qL
 have HB := ah (Below.refl w.heap.size w)
 have H : ((hist_Pairs.f k dD dH dQ dR dO dN dK dJ dI 0).bind fun lX => (if lX.2 = 0 then (if a1 < 0 then (some (0, 11)) else ((hist_Pairs.f k dD dH dQ dR dO dN dK dJ dI 1).bind fun oq => ((pairs_Without_int64.f lX.1 0).bind fun uS => ((pairs_Without_int64.f oq.1 0).bind fun tZ => (scale_Fit.l0 k a1 uS tZ dD dD dH dQ dR dO dN dK dJ dI))))) else (some (0, lX.2)))) = some (r1, r2) := h
 clear h
 replace H := Option.bind_eq_some_iff.mp H
 obtain ⟨⟨eP, t105⟩, IG, H⟩ := H
 replace H : (if t105 = 0 then (if a1 < 0 then (some (0, 11)) else ((hist_Pairs.f k dD dH dQ dR dO dN dK dJ dI 1).bind fun oq => ((pairs_Without_int64.f eP 0).bind fun uS => ((pairs_Without_int64.f oq.1 0).bind fun tZ => (scale_Fit.l0 k a1 uS tZ dD dD dH dQ dR dO dN dK dJ dI))))) else (some (0, t105))) = some (r1, r2) := H
 have A3 := ah IG
 clear IG
 by_cases c4 : t105 = 0
 ·rw [if_pos c4] at H
  have c4b0 : (t105 == 0) = true := beq_iff_eq.mpr c4
  have c4b1 : (t105 != 0) = false := bne_eq_false_iff_eq.mpr c4
  clear c4
  by_cases c5 : a1 < 0
  ·rw [if_pos c5] at H
   have c5b0 : decide (a1 < 0) = true := aiJ c5
   clear c5
   simp only [Option.some.injEq, Prod.mk.injEq] at H
   obtain ⟨rfl, rfl⟩ := H
   go_enter Try.func38, Try.ntmps38
   go_wp2_with (first | ((with_reducible refine fJ (N := 2) rfl ?_); refine eU ?hg (N := 2) ?hd (cs := #[.int .i64 dD, .int .u64 dH, .int .u64 dQ, .int .u64 dR, .int .u64 dO, .slice iV dN.length iW, .slice iR dK.length iT, .slice iC dJ.length iD, .slice iE dI.length iF]) (t := 29) ?hr ?_; (case hd => rfl); (case hg => rfl); (case hr => first | (go_simp; done) | (go_simp; rfl)); intro cO hg w6 hbox hb; have aV := ah (hbox); have vG := ah ((by rw [hg]; exact (aI (aX HB.out)) : w.heap.size ≤ cO)); have bZ := ah ((by rw [hg]; exact (aI (aX HB.out)) : w.heap.size ≤ cO)); replace HB := ah (aW (aX HB.out) hb); clear hb hbox hg; have yH := ay aV.out; have yI := aG aV.out) | ((with_reducible refine bH (f := 78) rfl ?_); refine pV (some 13) rfl rfl Try.func78 (by kernel_rfl) rfl #[.agg #[.int .i64 dD, .int .u64 dH, .int .u64 dQ, .int .u64 dR, .int .u64 dO, .slice iV dN.length iW, .slice iR dK.length iT, .slice iC dJ.length iD, .slice iE dI.length iF], .int .i64 0] rfl (by (try simp only [List.map_toArray, List.map_cons, List.map_nil]); first | done | rfl | (simp only [List.length_drop, List.length_take]; rfl)) ?_; (with_reducible refine (hist_Pairs.calls k dD dH dQ dR dO _ _ dN _ _ dK _ _ dJ _ _ dI 0 eP t105 _ ?dw ?dA ?jr ?jv ?pJ ?pK ?pO ?pR A3.out).mono ?_); (case dw => exact Kd.jT (Kd.bM nH.out HB.out)); (case dA => exact nI.out); (case jr => exact Kd.jT (Kd.bM nZ.out HB.out)); (case jv => exact oh.out); (case pJ => exact Kd.jT (Kd.bM oV.out HB.out)); (case pK => exact oW.out); (case pO => exact Kd.jT (Kd.bM pG.out HB.out)); (case pR => exact pI.out); rintro e w8 ⟨yK, rfl, ho0, hb⟩; refine ⟨_, rfl, ?_⟩; have iq := ah (Kd.bV ho0 (aI (by repeat (first | (with_reducible first | exact HB.out | refine bJ ?_ | refine aA ?_ bZ.out) | exact HB.out)))); replace aV := ah (dX aV.out hb); replace HB := ah (aW (by repeat (first | (with_reducible first | exact HB.out | refine bJ ?_ | refine aA ?_ bZ.out) | exact HB.out)) hb); (try clear hb); (try clear hb2); (try clear hk); (try clear hi); (try clear ho0); clear A3))
   go_ret2
   exact ⟨by first | rfl | (simp [aT, aU] <;> rfl) | (simp [*, aT, aU] <;> rfl), by repeat (first | (with_reducible first | exact HB.out | apply ak | apply au | apply aC | refine aA ?_ bZ.out) | exact HB.out)⟩
  rw [if_neg c5] at H
  have c5b0 : decide (a1 < 0) = false := aiK c5
  clear c5
  replace H := Option.bind_eq_some_iff.mp H
  obtain ⟨⟨fU, t109⟩, A90, H⟩ := H
  replace H : ((pairs_Without_int64.f eP 0).bind fun uS => ((pairs_Without_int64.f fU 0).bind fun tZ => (scale_Fit.l0 k a1 uS tZ dD dD dH dQ dR dO dN dK dJ dI))) = some (r1, r2) := H
  have A9 := ah A90
  clear A90
  replace H := Option.bind_eq_some_iff.mp H
  obtain ⟨uS, Uc, H⟩ := H
  replace H : ((pairs_Without_int64.f fU 0).bind fun tZ => (scale_Fit.l0 k a1 uS tZ dD dD dH dQ dR dO dN dK dJ dI)) = some (r1, r2) := H
  have H9 := ah Uc
  clear Uc
  replace H := Option.bind_eq_some_iff.mp H
  obtain ⟨tZ, aaz, H⟩ := H
  replace H : (scale_Fit.l0 k a1 uS tZ dD dD dH dQ dR dO dN dK dJ dI) = some (r1, r2) := H
  have A11 := ah aaz
  clear aaz
  have H' := ah H
  clear H
  go_enter Try.func38, Try.ntmps38
  go_wp2_with (first | ((with_reducible refine fJ (N := 2) rfl ?_); refine eU ?hg (N := 2) ?hd (cs := #[.int .i64 dD, .int .u64 dH, .int .u64 dQ, .int .u64 dR, .int .u64 dO, .slice iV dN.length iW, .slice iR dK.length iT, .slice iC dJ.length iD, .slice iE dI.length iF]) (t := 29) ?hr ?_; (case hd => rfl); (case hg => rfl); (case hr => first | (go_simp; done) | (go_simp; rfl)); intro cO hg w12 hbox hb; have aV := ah (hbox); have vG := ah ((by rw [hg]; exact (aI (aX HB.out)) : w.heap.size ≤ cO)); have bZ := ah ((by rw [hg]; exact (aI (aX HB.out)) : w.heap.size ≤ cO)); replace HB := ah (aW (aX HB.out) hb); clear hb hbox hg; have xq := ay aV.out; have xu := aG aV.out) | ((with_reducible refine bH (f := 78) rfl ?_); refine pV (some 13) rfl rfl Try.func78 (by kernel_rfl) rfl #[.agg #[.int .i64 dD, .int .u64 dH, .int .u64 dQ, .int .u64 dR, .int .u64 dO, .slice iV dN.length iW, .slice iR dK.length iT, .slice iC dJ.length iD, .slice iE dI.length iF], .int .i64 0] rfl (by (try simp only [List.map_toArray, List.map_cons, List.map_nil]); first | done | rfl | (simp only [List.length_drop, List.length_take]; rfl)) ?_; (with_reducible refine (hist_Pairs.calls k dD dH dQ dR dO _ _ dN _ _ dK _ _ dJ _ _ dI 0 eP t105 _ ?dw ?dA ?jr ?jv ?pJ ?pK ?pO ?pR A3.out).mono ?_); (case dw => exact Kd.jT (Kd.bM nH.out HB.out)); (case dA => exact nI.out); (case jr => exact Kd.jT (Kd.bM nZ.out HB.out)); (case jv => exact oh.out); (case pJ => exact Kd.jT (Kd.bM oV.out HB.out)); (case pK => exact oW.out); (case pO => exact Kd.jT (Kd.bM pG.out HB.out)); (case pR => exact pI.out); rintro e w14 ⟨yK, rfl, ho0, hb⟩; refine ⟨_, rfl, ?_⟩; have iq := ah (Kd.bV ho0 (aI (by repeat (first | (with_reducible first | exact HB.out | refine bJ ?_ | refine aA ?_ bZ.out) | exact HB.out)))); replace aV := ah (dX aV.out hb); replace HB := ah (aW (by repeat (first | (with_reducible first | exact HB.out | refine bJ ?_ | refine aA ?_ bZ.out) | exact HB.out)) hb); (try clear hb); (try clear hb2); (try clear hk); (try clear hi); (try clear ho0); clear A3; have V7 := ay aV.out; have V8 := aG aV.out) | ((with_reducible refine bH (f := 78) rfl ?_); refine pV (some 23) rfl rfl Try.func78 (by kernel_rfl) rfl #[.agg #[.int .i64 dD, .int .u64 dH, .int .u64 dQ, .int .u64 dR, .int .u64 dO, .slice iV dN.length iW, .slice iR dK.length iT, .slice iC dJ.length iD, .slice iE dI.length iF], .int .i64 1] rfl (by (try simp only [List.map_toArray, List.map_cons, List.map_nil]); first | done | rfl | (simp only [List.length_drop, List.length_take]; rfl)) ?_; (with_reducible refine (hist_Pairs.calls k dD dH dQ dR dO _ _ dN _ _ dK _ _ dJ _ _ dI 1 fU t109 _ ?dw ?dA ?jr ?jv ?pJ ?pK ?pO ?pR A9.out).mono ?_); (case dw => exact Kd.jT (Kd.bM nH.out HB.out)); (case dA => exact nI.out); (case jr => exact Kd.jT (Kd.bM nZ.out HB.out)); (case jv => exact oh.out); (case pJ => exact Kd.jT (Kd.bM oV.out HB.out)); (case pK => exact oW.out); (case pO => exact Kd.jT (Kd.bM pG.out HB.out)); (case pR => exact pI.out); rintro e w16 ⟨v107, rfl, ho0, hb⟩; refine ⟨_, rfl, ?_⟩; have fK := ah (Kd.bV (Kd.gq ho0 (Kd.jH (Kd.fB iq.out))) (aI (by repeat (first | (with_reducible first | exact HB.out | refine bJ ?_ | refine aA ?_ bZ.out) | exact HB.out)))); replace iq := ah (Kd.dW (Kd.fB iq.out) (Kd.fP ho0) hb); replace aV := ah (dX aV.out hb); replace HB := ah (aW (by repeat (first | (with_reducible first | exact HB.out | refine bJ ?_ | refine aA ?_ bZ.out) | exact HB.out)) hb); (try clear hb); (try clear hb2); (try clear hk); (try clear hi); (try clear ho0); clear A9; obtain ⟨XL, SH, SK⟩ := Kd.bY iq.out; subst SK) | ((with_reducible refine bH (f := 71) rfl ?_); refine pV (some 27) rfl rfl Try.func71 (by kernel_rfl) rfl #[.slice XL eP.length SH, .int .i64 0] rfl (by (try simp only [List.map_toArray, List.map_cons, List.map_nil]); first | done | rfl | (simp only [List.length_drop, List.length_take]; rfl)) ?_; (with_reducible refine (pairs_Without_int64.calls _ _ eP 0 uS _ ?dw ?dA H9.out).mono ?_); (case dw => exact Kd.jT (Kd.bD iq.out).2.2); (case dA => exact (Kd.bD iq.out).2.1); rintro e w18 ⟨aaA, rfl, ho0, hb⟩; refine ⟨_, rfl, ?_⟩; have Qc := ah (Kd.bV (Kd.gq (Kd.gq ho0 (Kd.jH (Kd.fB iq.out))) (Kd.jH (Kd.fB fK.out))) (aI (by repeat (first | (with_reducible first | exact HB.out | refine bJ ?_ | refine aA ?_ bZ.out) | exact HB.out)))); replace iq := ah (Kd.dW (Kd.fB iq.out) (Kd.fP ho0) hb); replace fK := ah (Kd.dW (Kd.fB fK.out) (Kd.fP ho0) hb); replace aV := ah (dX aV.out hb); replace HB := ah (aW (by repeat (first | (with_reducible first | exact HB.out | refine bJ ?_ | refine aA ?_ bZ.out) | exact HB.out)) hb); (try clear hb); (try clear hb2); (try clear hk); (try clear hi); (try clear ho0); clear H9; obtain ⟨adM, aaB, V9⟩ := Kd.bY fK.out; subst V9) | ((with_reducible refine bH (f := 71) rfl ?_); refine pV (some 29) rfl rfl Try.func71 (by kernel_rfl) rfl #[.slice adM fU.length aaB, .int .i64 0] rfl (by (try simp only [List.map_toArray, List.map_cons, List.map_nil]); first | done | rfl | (simp only [List.length_drop, List.length_take]; rfl)) ?_; (with_reducible refine (pairs_Without_int64.calls _ _ fU 0 tZ _ ?dw ?dA A11.out).mono ?_); (case dw => exact Kd.jT (Kd.bD fK.out).2.2); (case dA => exact (Kd.bD fK.out).2.1); rintro e w20 ⟨Ux, rfl, ho0, hb⟩; refine ⟨_, rfl, ?_⟩; have lG := ah (Kd.bV (Kd.gq (Kd.gq (Kd.gq ho0 (Kd.jH (Kd.fB iq.out))) (Kd.jH (Kd.fB fK.out))) (Kd.jH (Kd.fB Qc.out))) (aI (by repeat (first | (with_reducible first | exact HB.out | refine bJ ?_ | refine aA ?_ bZ.out) | exact HB.out)))); replace iq := ah (Kd.dW (Kd.fB iq.out) (Kd.fP ho0) hb); replace fK := ah (Kd.dW (Kd.fB fK.out) (Kd.fP ho0) hb); replace Qc := ah (Kd.dW (Kd.fB Qc.out) (Kd.fP ho0) hb); replace aV := ah (dX aV.out hb); replace HB := ah (aW (by repeat (first | (with_reducible first | exact HB.out | refine bJ ?_ | refine aA ?_ bZ.out) | exact HB.out)) hb); (try clear hb); (try clear hb2); (try clear hk); (try clear hi); (try clear ho0); clear A11; have PV := ay aV.out; have PW := aG aV.out))
  go_loopg [10] k (fun kq v10 w' => ∃ (dG : Int), v10 = .int .i64 dG ∧ aj (scale_Fit.l0 kq a1 uS tZ dG dD dH dQ dR dO dN dK dJ dI = some (r1, r2)) ∧ aj (kq ≤ k) ∧ aj (Kd.R jI 173 w' w.heap.size (fun k_ => some k_ ≠ (Ux : Value).ownBlock) aaA uS) ∧ aj (Kd.R jI 173 w' w.heap.size (fun k_ => some k_ ≠ (aaA : Value).ownBlock) Ux tZ) ∧ aj (w'.heap[cO]? = some (.cells #[.int .i64 dD, .int .u64 dH, .int .u64 dQ, .int .u64 dR, .int .u64 dO, (.slice iV dN.length iW), (.slice iR dK.length iT), (.slice iC dJ.length iD), (.slice iE dI.length iF)] 29 (0, 0))) ∧ aj (Below w.heap.size w w'))
  case atStart => exact ⟨(dD), (by first | rfl | (simp; done) | (simp [*]; done)), H', ⟨Nat.le_refl _⟩, ⟨by (repeat with_reducible refine Kd.kJ ?_); exact Kd.cu Qc.out (fun _ hk => hk.2)⟩, ⟨by (repeat with_reducible refine Kd.kJ ?_); exact Kd.cu lG.out (fun _ hk => hk.2)⟩, ⟨by (repeat with_reducible refine bQ ?_); exact aV.out⟩, ⟨by repeat (first | (with_reducible first | exact HB.out | apply ak | apply au | apply aC | refine aA ?_ bZ.out) | exact HB.out)⟩⟩
  case round =>
   clear H'
   try clear p2
   try clear c3
   try clear c4
   try clear c4b0
   try clear c4b1
   try clear c5
   try clear c5b0
   try clear c7
   try clear xq
   try clear V7
   try clear PV
   try clear yH
   try clear xu
   try clear V8
   try clear PW
   try clear yI
   obtain ⟨dG, rfl, HA, jf, HO_6, HO_8, aV, HB⟩ := hrel
   cases gk with
   | zero => exact absurd HA.out (by simp [scale_Fit.l0])
   | succ k1 =>
    have H := HA.out
    clear HA
    simp only [scale_Fit.l0] at H
    by_cases Rw : dG ≥ (-4)
    ·rw [if_pos Rw] at H
     have c22b0 : decide ((-4) ≤ dG) = true := aiJ Rw
     clear Rw
     replace H := Option.bind_eq_some_iff.mp H
     obtain ⟨t116, aaC, H⟩ := H
     replace H : ((scale_many.f k1 tZ (wrap64 (dD - dG))).bind fun t117 => (if (wrap64 (t116 + t117)) ≤ a1 then (some (dG, 0)) else (scale_Fit.l0 k1 a1 uS tZ (wrap64 (dG - 1)) dD dH dQ dR dO dN dK dJ dI))) = some (r1, r2) := H
     have A23 := ah aaC
     clear aaC
     replace H := Option.bind_eq_some_iff.mp H
     obtain ⟨t117, SC, H⟩ := H
     replace H : (if (wrap64 (t116 + t117)) ≤ a1 then (some (dG, 0)) else (scale_Fit.l0 k1 a1 uS tZ (wrap64 (dG - 1)) dD dH dQ dR dO dN dK dJ dI)) = some (r1, r2) := H
     have Vo := ah SC
     clear SC
     by_cases c25 : (wrap64 (t116 + t117)) ≤ a1
     ·rw [if_pos c25] at H
      have c25b0 : decide ((wrap64 (t116 + t117)) ≤ a1) = true := aiJ c25
      clear c25
      simp only [Option.some.injEq, Prod.mk.injEq] at H
      obtain ⟨rfl, rfl⟩ := H
      try go_wp2
      have gZ := ah (Kd.yF HO_6.out)
      have iL := ah (Kd.yF HO_8.out)
      have jC := ah (rY aV.out)
      have jZ := ah (aC HB.out)
      clear HO_6
      clear HO_8
      clear aV
      clear HB
      have HO_6 := gZ
      have HO_8 := iL
      have aV := jC
      have HB := jZ
      clear gZ iL jC jZ
      obtain ⟨ZP, SX, NI⟩ := Kd.bY HO_6.out
      (first | subst NI | (injection NI with sG yM sH; have yN := sG.symm; have yO := sH.symm; clear sG yM sH; subst yN; subst yO))
      refine Dj (n := 15) (S := fun w' => w'.cell? ⟨cO, 0, none⟩ = some (.int .i64 dD) ∧ w'.cell? ⟨cO, 1, none⟩ = some (.int .u64 dH) ∧ w'.cell? ⟨cO, 2, none⟩ = some (.int .u64 dQ) ∧ w'.cell? ⟨cO, 3, none⟩ = some (.int .u64 dR) ∧ w'.cell? ⟨cO, 4, none⟩ = some (.int .u64 dO) ∧ w'.cell? ⟨cO, 5, none⟩ = some (.slice iV dN.length iW) ∧ w'.cell? ⟨cO, 6, none⟩ = some (.slice iR dK.length iT) ∧ w'.cell? ⟨cO, 7, none⟩ = some (.slice iC dJ.length iD) ∧ w'.cell? ⟨cO, 8, none⟩ = some (.slice iE dI.length iF)) (ds := []) #[false, false, false, false, false, false, false, false, false, false, false, false, false, false, false] (by kernel_rfl) rfl rfl ⟨(ay aV.out 0).trans rfl, (ay aV.out 1).trans rfl, (ay aV.out 2).trans rfl, (ay aV.out 3).trans rfl, (ay aV.out 4).trans rfl, (ay aV.out 5).trans rfl, (ay aV.out 6).trans rfl, (ay aV.out 7).trans rfl, (ay aV.out 8).trans rfl⟩ (fun hHeld => ?_); refine uf scale_Fit.Xl scale_Fit.Uw (fun HT_ HW_ => ?_)
      generalize wr.drew = SV at HO_6 HO_8 aV HB hHeld ⊢
      refine iH (i := 0) (N := some 36) (v := ?_) (a' := ?_) #[true, false, false, false, false, false, false, false, false, false, false, false, false, false, false] rfl rfl (gu HT_.out (by kernel_rfl)) (fun _ _ _ h => h) (Or.inl ⟨by rfl, ?_⟩) ?_ ?_
      rotate_left
      ·intro w'
       go_simp
       with_reducible rfl
      rotate_left
      ·simp only [Act.put, List.setIfInBounds_toArray, List.set_cons_zero, List.set_cons_succ, dh, dF]
       rfl
      refine iH (i := 1) (N := some 37) (v := ?_) (a' := ?_) #[true, true, false, false, false, false, false, false, false, false, false, false, false, false, false] rfl rfl (gu HT_.out (by kernel_rfl)) (fun _ _ _ h => h) (Or.inl ⟨by rfl, ?_⟩) ?_ ?_
      rotate_left
      ·intro w'
       go_simp
       with_reducible rfl
      rotate_left
      ·simp only [Act.put, List.setIfInBounds_toArray, List.set_cons_zero, List.set_cons_succ, dh, dF]
       rfl
      refine iH (i := 3) (N := some 39) (v := ?_) (a' := ?_) #[true, true, false, true, false, false, false, false, false, false, false, false, false, false, false] rfl rfl (gu HT_.out (by kernel_rfl)) (fun _ _ _ h => h) (Or.inl ⟨by rfl, ?_⟩) ?_ ?_
      rotate_left
      ·intro w'
       go_simp
       with_reducible rfl
      rotate_left
      ·simp only [Act.put, List.setIfInBounds_toArray, List.set_cons_zero, List.set_cons_succ, dh, dF]
       rfl
      refine iH (i := 6) (N := some 42) (v := ?_) (a' := ?_) #[true, true, false, true, false, false, true, false, false, false, false, false, false, false, false] rfl rfl (gu HT_.out (by kernel_rfl)) (fun _ _ _ h => h) (Or.inl ⟨by rfl, ?_⟩) ?_ ?_
      rotate_left
      ·intro w'
       go_simp
       with_reducible rfl
      rotate_left
      ·simp only [Act.put, List.setIfInBounds_toArray, List.set_cons_zero, List.set_cons_succ, dh, dF]
       rfl
      refine iH (i := 7) (N := some 43) (v := ?_) (a' := ?_) #[true, true, false, true, false, false, true, true, false, false, false, false, false, false, false] rfl rfl (gu HT_.out (by kernel_rfl)) (fun _ _ _ h => h) (Or.inl ⟨by rfl, ?_⟩) ?_ ?_
      rotate_left
      ·intro w'
       go_simp
       with_reducible rfl
      rotate_left
      ·simp only [Act.put, List.setIfInBounds_toArray, List.set_cons_zero, List.set_cons_succ, dh, dF]
       rfl
      refine iH (i := 9) (N := some 45) (v := ?_) (a' := ?_) #[true, true, false, true, false, false, true, true, false, true, false, false, false, false, false] rfl rfl (gu HT_.out (by kernel_rfl)) (fun _ _ _ h => h) (Or.inl ⟨by rfl, ?_⟩) ?_ ?_
      rotate_left
      ·intro w'
       go_simp
       with_reducible rfl
      rotate_left
      ·simp only [Act.put, List.setIfInBounds_toArray, List.set_cons_zero, List.set_cons_succ, dh, dF]
       rfl
      refine iH (i := 13) (N := some 49) (v := ?_) (a' := ?_) #[true, true, false, true, false, false, true, true, false, true, false, false, false, true, false] rfl rfl (gu HT_.out (by kernel_rfl)) (fun _ _ _ h => h) (Or.inl ⟨by rfl, ?_⟩) ?_ ?_
      rotate_left
      ·intro w'
       go_simp
       with_reducible rfl
      rotate_left
      ·simp only [Act.put, List.setIfInBounds_toArray, List.set_cons_zero, List.set_cons_succ, dh, dF]
       rfl
      refine mP (i := 2) (N := some 38) (v := ?_) (a' := ?_) #[true, true, true, true, false, false, true, true, false, true, false, false, false, true, false] rfl rfl (iQ HT_.out HW_.out (by kernel_rfl)) (fun _ _ _ h => h) (Or.inl ⟨by rfl, ?_⟩) hHeld ?_ ?_
      rotate_left
      ·rintro w' ⟨s0, s1, s2, s3, s4, s5, s6, s7, s8⟩
       go_simp
       with_reducible rfl
      rotate_left
      ·simp only [Act.put, List.setIfInBounds_toArray, List.set_cons_zero, List.set_cons_succ, dh, dF]
       rfl
      refine iH (i := 4) (N := some 40) (v := ?_) (a' := ?_) #[true, true, true, true, true, false, true, true, false, true, false, false, false, true, false] rfl rfl (gu HT_.out (by kernel_rfl)) (fun _ _ _ h => h) (Or.inl ⟨by rfl, ?_⟩) ?_ ?_
      rotate_left
      ·intro w'
       go_simp
       with_reducible rfl
      rotate_left
      ·simp only [Act.put, List.setIfInBounds_toArray, List.set_cons_zero, List.set_cons_succ, dh, dF]
       rfl
      refine mP (i := 8) (N := some 44) (v := ?_) (a' := ?_) #[true, true, true, true, true, false, true, true, true, true, false, false, false, true, false] rfl rfl (iQ HT_.out HW_.out (by kernel_rfl)) (fun _ _ _ h => h) (Or.inl ⟨by rfl, ?_⟩) hHeld ?_ ?_
      rotate_left
      ·rintro w' ⟨s0, s1, s2, s3, s4, s5, s6, s7, s8⟩
       go_simp
       with_reducible rfl
      rotate_left
      ·simp only [Act.put, List.setIfInBounds_toArray, List.set_cons_zero, List.set_cons_succ, dh, dF]
       rfl
      refine iH (i := 10) (N := some 46) (v := ?_) (a' := ?_) #[true, true, true, true, true, false, true, true, true, true, true, false, false, true, false] rfl rfl (gu HT_.out (by kernel_rfl)) (fun _ _ _ h => h) (Or.inl ⟨by rfl, ?_⟩) ?_ ?_
      rotate_left
      ·intro w'
       go_simp
       with_reducible rfl
      rotate_left
      ·simp only [Act.put, List.setIfInBounds_toArray, List.set_cons_zero, List.set_cons_succ, dh, dF]
       rfl
      refine tH (i := 5) (N := some 41) #[true, true, true, true, true, true, true, true, true, true, true, false, false, true, false] rfl rfl (kZ HT_.out (by kernel_rfl)) (by decide) (fun K hK => ?_)
      refine yj Try.func100 (by kernel_rfl) rfl #[.slice ZP uS.length SX, .int .i64 (wrap64 (dD - dG))] (by rfl) rfl rfl (by (try simp only [List.map_toArray, List.map_cons, List.map_nil]); first | done | rfl | (simp only [List.length_drop, List.length_take]; rfl)) ?_
      with_reducible refine (scale_many.calls k1 _ _ uS (wrap64 (dD - dG)) t116 _ ?dw ?dA A23.out).mono ?_
      (case dw => exact Kd.jT (Kd.bD HO_6.out).2.2)
      (case dA => exact (Kd.bD HO_6.out).2.1)
      rintro e Xm ⟨rfl, hb⟩
      refine ⟨_, rfl, ?_⟩
      have gZ := ah (Kd.kE HO_6.out hb)
      have iL := ah (Kd.kE HO_8.out hb)
      have jC := ah (dX aV.out hb)
      have jZ := ah (aW (by repeat (first | (with_reducible first | exact HB.out | refine bJ ?_ | refine aA ?_ bZ.out) | exact HB.out)) hb)
      clear HO_6
      clear HO_8
      clear aV
      clear HB
      have HO_6 := gZ
      have HO_8 := iL
      have aV := jC
      have HB := jZ
      clear gZ iL jC jZ
      (try clear hb)
      (try clear hb2)
      (try clear hk)
      (try clear hi)
      obtain ⟨Wh, Q9, Rf⟩ := Kd.bY HO_8.out
      (first | subst Rf | (injection Rf with sG yM sH; have yN := sG.symm; have yO := sH.symm; clear sG yM sH; subst yN; subst yO))
      refine hK.out _ _ ⟨(ay aV.out 0).trans rfl, (ay aV.out 1).trans rfl, (ay aV.out 2).trans rfl, (ay aV.out 3).trans rfl, (ay aV.out 4).trans rfl, (ay aV.out 5).trans rfl, (ay aV.out 6).trans rfl, (ay aV.out 7).trans rfl, (ay aV.out 8).trans rfl⟩ (fun hHeld => ?_)
      clear hK K
      refine kC (a' := ?_) ?_ ?_
      rotate_left
      ·show Act.put _ (some 41) _ = _
       simp only [Act.put, List.setIfInBounds_toArray, List.set_cons_zero, List.set_cons_succ, dh, dF]
       rfl
      refine tH (i := 11) (N := some 47) #[true, true, true, true, true, true, true, true, true, true, true, true, false, true, false] rfl rfl (kZ HT_.out (by kernel_rfl)) (by decide) (fun K hK => ?_)
      refine yj Try.func100 (by kernel_rfl) rfl #[.slice Wh tZ.length Q9, .int .i64 (wrap64 (dD - dG))] (by rfl) rfl rfl (by (try simp only [List.map_toArray, List.map_cons, List.map_nil]); first | done | rfl | (simp only [List.length_drop, List.length_take]; rfl)) ?_
      with_reducible refine (scale_many.calls k1 _ _ tZ (wrap64 (dD - dG)) t117 _ ?dw ?dA Vo.out).mono ?_
      (case dw => exact Kd.jT (Kd.bD HO_8.out).2.2)
      (case dA => exact (Kd.bD HO_8.out).2.1)
      rintro e w30 ⟨rfl, hb⟩
      refine ⟨_, rfl, ?_⟩
      have gZ := ah (Kd.kE HO_6.out hb)
      have iL := ah (Kd.kE HO_8.out hb)
      have jC := ah (dX aV.out hb)
      have jZ := ah (aW (by repeat (first | (with_reducible first | exact HB.out | refine bJ ?_ | refine aA ?_ bZ.out) | exact HB.out)) hb)
      clear HO_6
      clear HO_8
      clear aV
      clear HB
      have HO_6 := gZ
      have HO_8 := iL
      have aV := jC
      have HB := jZ
      clear gZ iL jC jZ
      (try clear hb)
      (try clear hb2)
      (try clear hk)
      (try clear hi)
      refine hK.out _ _ ⟨(ay aV.out 0).trans rfl, (ay aV.out 1).trans rfl, (ay aV.out 2).trans rfl, (ay aV.out 3).trans rfl, (ay aV.out 4).trans rfl, (ay aV.out 5).trans rfl, (ay aV.out 6).trans rfl, (ay aV.out 7).trans rfl, (ay aV.out 8).trans rfl⟩ (fun hHeld => ?_)
      clear hK K
      refine kC (a' := ?_) ?_ ?_
      rotate_left
      ·show Act.put _ (some 47) _ = _
       simp only [Act.put, List.setIfInBounds_toArray, List.set_cons_zero, List.set_cons_succ, dh, dF]
       rfl
      refine iH (i := 12) (N := some 48) (v := ?_) (a' := ?_) #[true, true, true, true, true, true, true, true, true, true, true, true, true, true, false] rfl rfl (gu HT_.out (by kernel_rfl)) (fun _ _ _ h => h) (Or.inl ⟨by rfl, ?_⟩) ?_ ?_
      rotate_left
      ·intro w'
       go_simp
       with_reducible rfl
      rotate_left
      ·simp only [Act.put, List.setIfInBounds_toArray, List.set_cons_zero, List.set_cons_succ, dh, dF]
       rfl
      refine iH (i := 14) (N := some 50) (v := ?_) (a' := ?_) #[true, true, true, true, true, true, true, true, true, true, true, true, true, true, true] rfl rfl (gu HT_.out (by kernel_rfl)) (fun _ _ _ h => h) (Or.inl ⟨by rfl, ?_⟩) ?_ ?_
      rotate_left
      ·intro w'
       go_simp
       with_reducible rfl
      rotate_left
      ·simp only [Act.put, List.setIfInBounds_toArray, List.set_cons_zero, List.set_cons_succ, dh, dF]
       rfl
      refine Iu (zJ HT_.out (by kernel_rfl)) ?_
      try go_wp2
      go_ret2
      exact ⟨by first | rfl | (simp [aT, aU] <;> rfl) | (simp [*, aT, aU] <;> rfl), by repeat (first | (with_reducible first | exact HB.out | apply ak | apply au | apply aC | refine aA ?_ bZ.out) | exact HB.out)⟩
     rw [if_neg c25] at H
     have c25b0 : decide ((wrap64 (t116 + t117)) ≤ a1) = false := aiK c25
     clear c25
     have H' := ah H
     clear H
     try go_wp2
     have gZ := ah (Kd.yF HO_6.out)
     have iL := ah (Kd.yF HO_8.out)
     have jC := ah (rY aV.out)
     have jZ := ah (aC HB.out)
     clear HO_6
     clear HO_8
     clear aV
     clear HB
     have HO_6 := gZ
     have HO_8 := iL
     have aV := jC
     have HB := jZ
     clear gZ iL jC jZ
     obtain ⟨Yq, Yr, Wi⟩ := Kd.bY HO_6.out
     (first | subst Wi | (injection Wi with sG yM sH; have yN := sG.symm; have yO := sH.symm; clear sG yM sH; subst yN; subst yO))
     refine Dj (n := 15) (S := fun w' => w'.cell? ⟨cO, 0, none⟩ = some (.int .i64 dD) ∧ w'.cell? ⟨cO, 1, none⟩ = some (.int .u64 dH) ∧ w'.cell? ⟨cO, 2, none⟩ = some (.int .u64 dQ) ∧ w'.cell? ⟨cO, 3, none⟩ = some (.int .u64 dR) ∧ w'.cell? ⟨cO, 4, none⟩ = some (.int .u64 dO) ∧ w'.cell? ⟨cO, 5, none⟩ = some (.slice iV dN.length iW) ∧ w'.cell? ⟨cO, 6, none⟩ = some (.slice iR dK.length iT) ∧ w'.cell? ⟨cO, 7, none⟩ = some (.slice iC dJ.length iD) ∧ w'.cell? ⟨cO, 8, none⟩ = some (.slice iE dI.length iF)) (ds := []) #[false, false, false, false, false, false, false, false, false, false, false, false, false, false, false] (by kernel_rfl) rfl rfl ⟨(ay aV.out 0).trans rfl, (ay aV.out 1).trans rfl, (ay aV.out 2).trans rfl, (ay aV.out 3).trans rfl, (ay aV.out 4).trans rfl, (ay aV.out 5).trans rfl, (ay aV.out 6).trans rfl, (ay aV.out 7).trans rfl, (ay aV.out 8).trans rfl⟩ (fun hHeld => ?_); refine uf scale_Fit.Xl scale_Fit.Uw (fun HT_ HW_ => ?_)
     generalize wr.drew = w31 at HO_6 HO_8 aV HB hHeld ⊢
     refine iH (i := 0) (N := some 36) (v := ?_) (a' := ?_) #[true, false, false, false, false, false, false, false, false, false, false, false, false, false, false] rfl rfl (gu HT_.out (by kernel_rfl)) (fun _ _ _ h => h) (Or.inl ⟨by rfl, ?_⟩) ?_ ?_
     rotate_left
     ·intro w'
      go_simp
      with_reducible rfl
     rotate_left
     ·simp only [Act.put, List.setIfInBounds_toArray, List.set_cons_zero, List.set_cons_succ, dh, dF]
      rfl
     refine iH (i := 1) (N := some 37) (v := ?_) (a' := ?_) #[true, true, false, false, false, false, false, false, false, false, false, false, false, false, false] rfl rfl (gu HT_.out (by kernel_rfl)) (fun _ _ _ h => h) (Or.inl ⟨by rfl, ?_⟩) ?_ ?_
     rotate_left
     ·intro w'
      go_simp
      with_reducible rfl
     rotate_left
     ·simp only [Act.put, List.setIfInBounds_toArray, List.set_cons_zero, List.set_cons_succ, dh, dF]
      rfl
     refine iH (i := 3) (N := some 39) (v := ?_) (a' := ?_) #[true, true, false, true, false, false, false, false, false, false, false, false, false, false, false] rfl rfl (gu HT_.out (by kernel_rfl)) (fun _ _ _ h => h) (Or.inl ⟨by rfl, ?_⟩) ?_ ?_
     rotate_left
     ·intro w'
      go_simp
      with_reducible rfl
     rotate_left
     ·simp only [Act.put, List.setIfInBounds_toArray, List.set_cons_zero, List.set_cons_succ, dh, dF]
      rfl
     refine iH (i := 6) (N := some 42) (v := ?_) (a' := ?_) #[true, true, false, true, false, false, true, false, false, false, false, false, false, false, false] rfl rfl (gu HT_.out (by kernel_rfl)) (fun _ _ _ h => h) (Or.inl ⟨by rfl, ?_⟩) ?_ ?_
     rotate_left
     ·intro w'
      go_simp
      with_reducible rfl
     rotate_left
     ·simp only [Act.put, List.setIfInBounds_toArray, List.set_cons_zero, List.set_cons_succ, dh, dF]
      rfl
     refine iH (i := 7) (N := some 43) (v := ?_) (a' := ?_) #[true, true, false, true, false, false, true, true, false, false, false, false, false, false, false] rfl rfl (gu HT_.out (by kernel_rfl)) (fun _ _ _ h => h) (Or.inl ⟨by rfl, ?_⟩) ?_ ?_
     rotate_left
     ·intro w'
      go_simp
      with_reducible rfl
     rotate_left
     ·simp only [Act.put, List.setIfInBounds_toArray, List.set_cons_zero, List.set_cons_succ, dh, dF]
      rfl
     refine iH (i := 9) (N := some 45) (v := ?_) (a' := ?_) #[true, true, false, true, false, false, true, true, false, true, false, false, false, false, false] rfl rfl (gu HT_.out (by kernel_rfl)) (fun _ _ _ h => h) (Or.inl ⟨by rfl, ?_⟩) ?_ ?_
     rotate_left
     ·intro w'
      go_simp
      with_reducible rfl
     rotate_left
     ·simp only [Act.put, List.setIfInBounds_toArray, List.set_cons_zero, List.set_cons_succ, dh, dF]
      rfl
     refine iH (i := 13) (N := some 49) (v := ?_) (a' := ?_) #[true, true, false, true, false, false, true, true, false, true, false, false, false, true, false] rfl rfl (gu HT_.out (by kernel_rfl)) (fun _ _ _ h => h) (Or.inl ⟨by rfl, ?_⟩) ?_ ?_
     rotate_left
     ·intro w'
      go_simp
      with_reducible rfl
     rotate_left
     ·simp only [Act.put, List.setIfInBounds_toArray, List.set_cons_zero, List.set_cons_succ, dh, dF]
      rfl
     refine mP (i := 2) (N := some 38) (v := ?_) (a' := ?_) #[true, true, true, true, false, false, true, true, false, true, false, false, false, true, false] rfl rfl (iQ HT_.out HW_.out (by kernel_rfl)) (fun _ _ _ h => h) (Or.inl ⟨by rfl, ?_⟩) hHeld ?_ ?_
     rotate_left
     ·rintro w' ⟨s0, s1, s2, s3, s4, s5, s6, s7, s8⟩
      go_simp
      with_reducible rfl
     rotate_left
     ·simp only [Act.put, List.setIfInBounds_toArray, List.set_cons_zero, List.set_cons_succ, dh, dF]
      rfl
     refine iH (i := 4) (N := some 40) (v := ?_) (a' := ?_) #[true, true, true, true, true, false, true, true, false, true, false, false, false, true, false] rfl rfl (gu HT_.out (by kernel_rfl)) (fun _ _ _ h => h) (Or.inl ⟨by rfl, ?_⟩) ?_ ?_
     rotate_left
     ·intro w'
      go_simp
      with_reducible rfl
     rotate_left
     ·simp only [Act.put, List.setIfInBounds_toArray, List.set_cons_zero, List.set_cons_succ, dh, dF]
      rfl
     refine mP (i := 8) (N := some 44) (v := ?_) (a' := ?_) #[true, true, true, true, true, false, true, true, true, true, false, false, false, true, false] rfl rfl (iQ HT_.out HW_.out (by kernel_rfl)) (fun _ _ _ h => h) (Or.inl ⟨by rfl, ?_⟩) hHeld ?_ ?_
     rotate_left
     ·rintro w' ⟨s0, s1, s2, s3, s4, s5, s6, s7, s8⟩
      go_simp
      with_reducible rfl
     rotate_left
     ·simp only [Act.put, List.setIfInBounds_toArray, List.set_cons_zero, List.set_cons_succ, dh, dF]
      rfl
     refine iH (i := 10) (N := some 46) (v := ?_) (a' := ?_) #[true, true, true, true, true, false, true, true, true, true, true, false, false, true, false] rfl rfl (gu HT_.out (by kernel_rfl)) (fun _ _ _ h => h) (Or.inl ⟨by rfl, ?_⟩) ?_ ?_
     rotate_left
     ·intro w'
      go_simp
      with_reducible rfl
     rotate_left
     ·simp only [Act.put, List.setIfInBounds_toArray, List.set_cons_zero, List.set_cons_succ, dh, dF]
      rfl
     refine tH (i := 5) (N := some 41) #[true, true, true, true, true, true, true, true, true, true, true, false, false, true, false] rfl rfl (kZ HT_.out (by kernel_rfl)) (by decide) (fun K hK => ?_)
     refine yj Try.func100 (by kernel_rfl) rfl #[.slice Yq uS.length Yr, .int .i64 (wrap64 (dD - dG))] (by rfl) rfl rfl (by (try simp only [List.map_toArray, List.map_cons, List.map_nil]); first | done | rfl | (simp only [List.length_drop, List.length_take]; rfl)) ?_
     with_reducible refine (scale_many.calls k1 _ _ uS (wrap64 (dD - dG)) t116 _ ?dw ?dA A23.out).mono ?_
     (case dw => exact Kd.jT (Kd.bD HO_6.out).2.2)
     (case dA => exact (Kd.bD HO_6.out).2.1)
     rintro e w33 ⟨rfl, hb⟩
     refine ⟨_, rfl, ?_⟩
     have gZ := ah (Kd.kE HO_6.out hb)
     have iL := ah (Kd.kE HO_8.out hb)
     have jC := ah (dX aV.out hb)
     have jZ := ah (aW (by repeat (first | (with_reducible first | exact HB.out | refine bJ ?_ | refine aA ?_ bZ.out) | exact HB.out)) hb)
     clear HO_6
     clear HO_8
     clear aV
     clear HB
     have HO_6 := gZ
     have HO_8 := iL
     have aV := jC
     have HB := jZ
     clear gZ iL jC jZ
     (try clear hb)
     (try clear hb2)
     (try clear hk)
     (try clear hi)
     obtain ⟨ZY, Vu, Vw⟩ := Kd.bY HO_8.out
     (first | subst Vw | (injection Vw with sG yM sH; have yN := sG.symm; have yO := sH.symm; clear sG yM sH; subst yN; subst yO))
     refine hK.out _ _ ⟨(ay aV.out 0).trans rfl, (ay aV.out 1).trans rfl, (ay aV.out 2).trans rfl, (ay aV.out 3).trans rfl, (ay aV.out 4).trans rfl, (ay aV.out 5).trans rfl, (ay aV.out 6).trans rfl, (ay aV.out 7).trans rfl, (ay aV.out 8).trans rfl⟩ (fun hHeld => ?_)
     clear hK K
     refine kC (a' := ?_) ?_ ?_
     rotate_left
     ·show Act.put _ (some 41) _ = _
      simp only [Act.put, List.setIfInBounds_toArray, List.set_cons_zero, List.set_cons_succ, dh, dF]
      rfl
     refine tH (i := 11) (N := some 47) #[true, true, true, true, true, true, true, true, true, true, true, true, false, true, false] rfl rfl (kZ HT_.out (by kernel_rfl)) (by decide) (fun K hK => ?_)
     refine yj Try.func100 (by kernel_rfl) rfl #[.slice ZY tZ.length Vu, .int .i64 (wrap64 (dD - dG))] (by rfl) rfl rfl (by (try simp only [List.map_toArray, List.map_cons, List.map_nil]); first | done | rfl | (simp only [List.length_drop, List.length_take]; rfl)) ?_
     with_reducible refine (scale_many.calls k1 _ _ tZ (wrap64 (dD - dG)) t117 _ ?dw ?dA Vo.out).mono ?_
     (case dw => exact Kd.jT (Kd.bD HO_8.out).2.2)
     (case dA => exact (Kd.bD HO_8.out).2.1)
     rintro e w35 ⟨rfl, hb⟩
     refine ⟨_, rfl, ?_⟩
     have gZ := ah (Kd.kE HO_6.out hb)
     have iL := ah (Kd.kE HO_8.out hb)
     have jC := ah (dX aV.out hb)
     have jZ := ah (aW (by repeat (first | (with_reducible first | exact HB.out | refine bJ ?_ | refine aA ?_ bZ.out) | exact HB.out)) hb)
     clear HO_6
     clear HO_8
     clear aV
     clear HB
     have HO_6 := gZ
     have HO_8 := iL
     have aV := jC
     have HB := jZ
     clear gZ iL jC jZ
     (try clear hb)
     (try clear hb2)
     (try clear hk)
     (try clear hi)
     refine hK.out _ _ ⟨(ay aV.out 0).trans rfl, (ay aV.out 1).trans rfl, (ay aV.out 2).trans rfl, (ay aV.out 3).trans rfl, (ay aV.out 4).trans rfl, (ay aV.out 5).trans rfl, (ay aV.out 6).trans rfl, (ay aV.out 7).trans rfl, (ay aV.out 8).trans rfl⟩ (fun hHeld => ?_)
     clear hK K
     refine kC (a' := ?_) ?_ ?_
     rotate_left
     ·show Act.put _ (some 47) _ = _
      simp only [Act.put, List.setIfInBounds_toArray, List.set_cons_zero, List.set_cons_succ, dh, dF]
      rfl
     refine iH (i := 12) (N := some 48) (v := ?_) (a' := ?_) #[true, true, true, true, true, true, true, true, true, true, true, true, true, true, false] rfl rfl (gu HT_.out (by kernel_rfl)) (fun _ _ _ h => h) (Or.inl ⟨by rfl, ?_⟩) ?_ ?_
     rotate_left
     ·intro w'
      go_simp
      with_reducible rfl
     rotate_left
     ·simp only [Act.put, List.setIfInBounds_toArray, List.set_cons_zero, List.set_cons_succ, dh, dF]
      rfl
     refine iH (i := 14) (N := some 50) (v := ?_) (a' := ?_) #[true, true, true, true, true, true, true, true, true, true, true, true, true, true, true] rfl rfl (gu HT_.out (by kernel_rfl)) (fun _ _ _ h => h) (Or.inl ⟨by rfl, ?_⟩) ?_ ?_
     rotate_left
     ·intro w'
      go_simp
      with_reducible rfl
     rotate_left
     ·simp only [Act.put, List.setIfInBounds_toArray, List.set_cons_zero, List.set_cons_succ, dh, dF]
      rfl
     refine Iu (zJ HT_.out (by kernel_rfl)) ?_
     try go_wp2
     go_roundg k1
     case measure => have := jf.out; omega
     case rel => exact ⟨(wrap64 (dG - 1)), (by first | rfl | (simp; done) | (simp [*]; done)), H', ⟨by have := jf.out; omega⟩, ⟨by (repeat with_reducible refine Kd.kJ ?_); exact HO_6.out⟩, ⟨by (repeat with_reducible refine Kd.kJ ?_); exact HO_8.out⟩, ⟨by (repeat with_reducible refine bQ ?_); exact aV.out⟩, ⟨by repeat (first | (with_reducible first | exact HB.out | apply ak | apply au | apply aC | refine aA ?_ bZ.out) | exact HB.out)⟩⟩
    rw [if_neg Rw] at H
    have c22b0 : decide ((-4) ≤ dG) = false := aiK Rw
    clear Rw
    simp only [Option.some.injEq, Prod.mk.injEq] at H
    obtain ⟨rfl, rfl⟩ := H
    go_wp2
    go_ret2
    exact ⟨by first | rfl | (simp [aT, aU] <;> rfl) | (simp [*, aT, aU] <;> rfl), by repeat (first | (with_reducible first | exact HB.out | apply ak | apply au | apply aC | refine aA ?_ bZ.out) | exact HB.out)⟩
 rw [if_neg c4] at H
 have c4b0 : (t105 == 0) = false := beq_eq_false_iff_ne.mpr c4
 have c4b1 : (t105 != 0) = true := bne_iff_ne.mpr c4
 simp only [Option.some.injEq, Prod.mk.injEq] at H
 obtain ⟨rfl, rfl⟩ := H
 go_enter Try.func38, Try.ntmps38
 go_wp2_with (first | ((with_reducible refine fJ (N := 2) rfl ?_); refine eU ?hg (N := 2) ?hd (cs := #[.int .i64 dD, .int .u64 dH, .int .u64 dQ, .int .u64 dR, .int .u64 dO, .slice iV dN.length iW, .slice iR dK.length iT, .slice iC dJ.length iD, .slice iE dI.length iF]) (t := 29) ?hr ?_; (case hd => rfl); (case hg => rfl); (case hr => first | (go_simp; done) | (go_simp; rfl)); intro cO hg w36 hbox hb; have aV := ah (hbox); have vG := ah ((by rw [hg]; exact (aI (aX HB.out)) : w.heap.size ≤ cO)); have bZ := ah ((by rw [hg]; exact (aI (aX HB.out)) : w.heap.size ≤ cO)); replace HB := ah (aW (aX HB.out) hb); clear hb hbox hg; have abX := ay aV.out; have abY := aG aV.out) | ((with_reducible refine bH (f := 78) rfl ?_); refine pV (some 13) rfl rfl Try.func78 (by kernel_rfl) rfl #[.agg #[.int .i64 dD, .int .u64 dH, .int .u64 dQ, .int .u64 dR, .int .u64 dO, .slice iV dN.length iW, .slice iR dK.length iT, .slice iC dJ.length iD, .slice iE dI.length iF], .int .i64 0] rfl (by (try simp only [List.map_toArray, List.map_cons, List.map_nil]); first | done | rfl | (simp only [List.length_drop, List.length_take]; rfl)) ?_; (with_reducible refine (hist_Pairs.calls k dD dH dQ dR dO _ _ dN _ _ dK _ _ dJ _ _ dI 0 eP t105 _ ?dw ?dA ?jr ?jv ?pJ ?pK ?pO ?pR A3.out).mono ?_); (case dw => exact Kd.jT (Kd.bM nH.out HB.out)); (case dA => exact nI.out); (case jr => exact Kd.jT (Kd.bM nZ.out HB.out)); (case jv => exact oh.out); (case pJ => exact Kd.jT (Kd.bM oV.out HB.out)); (case pK => exact oW.out); (case pO => exact Kd.jT (Kd.bM pG.out HB.out)); (case pR => exact pI.out); rintro e w38 ⟨yK, rfl, ho0, hb⟩; refine ⟨_, rfl, ?_⟩; have iq := ah (Kd.bV ho0 (aI (by repeat (first | (with_reducible first | exact HB.out | refine bJ ?_ | refine aA ?_ bZ.out) | exact HB.out)))); replace aV := ah (dX aV.out hb); replace HB := ah (aW (by repeat (first | (with_reducible first | exact HB.out | refine bJ ?_ | refine aA ?_ bZ.out) | exact HB.out)) hb); (try clear hb); (try clear hb2); (try clear hk); (try clear hi); (try clear ho0); clear A3))
 go_ret2
 exact ⟨by first | rfl | (simp [aT, aU] <;> rfl) | (simp [*, aT, aU] <;> rfl), by repeat (first | (with_reducible first | exact HB.out | apply ak | apply au | apply aC | refine aA ?_ bZ.out) | exact HB.out)⟩
end Go.Proofs.Ytooiccpmngmapaa.P
namespace Go.Proofs.Ytooiccpmngmapaa.P
open Go.RowKit Go.Shelf Go.Proofs.YtooiccpmngmapaaW.PrintWords Go.Proofs.YtooiccpmngmapaaW.PrintLast Go.Proofs.YtooiccpmngmapaaW.PrintMore
attribute [local go_sem] Oper.semAt_some
def MQ (v : Int) : Int := ((FloatKind.f64.nearest v : Nat) : Int)
theorem Yt (v : Int) (w : World) : Calls Try.prog 137 #[.int .u64 v] w fun e w' => e = .returned (.int .u64 (MQ v)) ∧ Below w.heap.size w w' := (fhist_Float.calls v _ w rfl).mono fun e w1 h => ⟨h.1, h.2.below⟩
def MR (l : List Int) : List Int := ((fF 0 l).getD []).map MQ
def zq (l : List Int) : Prop := (∀ x ∈ l, i64 x) ∧ l.length ≤ 65536 ∧ ∀ x ∈ (fF 0 l).getD [], 0 ≤ x ∧ x ≤ 9223372036854775807
instance (l : List Int) : Decidable (zq l) := by unfold zq; infer_instance
def fhist_floats.f (l : List Int) : Option (List Int) := if zq l then some (MR l) else none
theorem Yu {x : Int} (h0 : 0 ≤ x) (h1 : x ≤ 9223372036854775807) : IntKind.u64.wrap x = x := by
 simp only [IntKind.wrap]
 simp [IntKind.signed, IntKind.bits]
 omega
theorem Oz {W : World} {base size n : Nat} {e : TypeId} {v : Value} {xs : List Value} (h : W.ownsRow base e size v n xs) : ∀ k, v.ownBlock = some k → base ≤ k := fun k hk => own_base h k hk
theorem Uy (l : List Int) : ∀ (a : Int) (o : List Int), fF a l = some o → o.length = l.length := by
  induction l with
  | nil => intro a o h; simp [fF] at h; subst h; rfl
  | cons x t ih =>
    intro a o h
    simp only [fF] at h
    split at h
    · cases hs : fF (a + x) t with
      | none => rw [hs] at h; simp at h
      | some o' => rw [hs] at h; simp at h; subst h; simp [ih _ _ hs]
    · cases h
theorem Wj (l : List Int) (hw : zq l) : ∃ e : Int, pairs_Absolute.f (l.length + 1) l = some ((fF 0 l).getD [], e) := by
 rw [DW l hw.1 (by have := hw.2.1; omega) _ (by omega)]
 cases fF 0 l with
 | none => exact ⟨28, rfl⟩
 | some o => exact ⟨0, rfl⟩
set_option maxRecDepth 100000 in
set_option maxHeartbeats 4000000 in
theorem fhist_floats.calls (A0 : Option Addr) (c0 : Nat) (l0 : List Int) (r : List Int) (w : World) (hr0 : Kd.C (Kd.int .i64) w A0 l0.length l0) (hc0 : l0.length ≤ c0) (h : fhist_floats.f l0 = some r) :
  Calls Try.prog 139 #[.slice A0 l0.length c0] w fun e w' => ∃ lY : Value, e = .returned lY ∧ Kd.R (Kd.int .u64) 25 w' w.heap.size (fun _ => True) lY r ∧ Below w.heap.size w w' := by
 unfold fhist_floats.f at h
 by_cases hwf : zq l0
 rotate_left
 ·rw [if_neg hwf] at h; cases h
 rw [if_pos hwf] at h
 cases h
 obtain ⟨er, habs⟩ := Wj l0 hwf
 have hlen : ((fF 0 l0).getD []).length ≤ 65536 := by
  cases hs : fF 0 l0 with
  | none => simp
  | some o => simp [Uy _ _ _ hs]; exact hwf.2.1
 have hnum := hwf.2.2
 unfold MR
 generalize (fF 0 l0).getD [] = l at *
 refine (callsIn_wide (n := 4)).1 ?_
 have hf1 : Fence.wide.fn 166 := trivial
 have hf2 : Fence.wide.fn 137 := trivial
 have HAb := ah (fun w hr0 => pairs_Absolute.calls _ A0 c0 l0 _ _ w hr0 hc0 habs)
 have HR := ah hr0
 obtain ⟨i0, hi, hz0, hz1, hz2⟩ := info_parts info25
 have hmk : ∀ W : World, (Instr.makeSlice 53 (.int .i64 0) (.int .i64 l.length)).run Try.prog W = .ok (.slice (some ⟨W.heap.size, 0, none⟩) 0 l.length) (W.alloc (.cells (madeCells #[Value.int .u64 0] (l.length * i0.size)) 25)) := fun W => by
  have := run_make (P := Try.prog) W 53 25 i0 (.int .u64 0) Try.underlying53 hi hz0 .i64 .i64 0 l.length (by omega) (by omega) (by rw [hz2]; omega) (by omega)
  simpa [Value.cells] using this
 have HM := ah hlen
 have HN := ah hnum
 clear hr0 hlen hnum habs hwf
 refine callsIn_of_wp Try.func139 rfl trivial ?_ rfl
 simp only [Try.ntmps139, List.size_toArray, List.length_cons, List.length_nil, Nat.reduceAdd, Nat.reduceSub, Array.replicate_succ, Array.replicate_zero, List.push_toArray, List.append_toArray, List.nil_append, List.cons_append]
 gi_wp2_with (gi_at_call 166; refine (callsIn_wide.2 (HAb.out _ HR.out)).mono ?_; rintro e w1 ⟨v1, rfl, hR1, hb⟩; obtain ⟨A1, c1, rfl, hc1, hC1⟩ := Kd.qo hR1; have HC := ah hC1; have HB1 := ah hb; clear hb hR1 hC1)
 clear hmk
 gi_loopw [5, 18] (fun s5 s18 wx => ∃ i : Nat, i ≤ l.length ∧ s18 = .int .i64 i ∧ aj (wx.ownsRow w1.heap.size 25 1 s5 i (((l.take i).map MQ).map (Value.int .u64))) ∧ aj (Below w1.heap.size w1 wx)) (fun _ s18 _ => l.length - (intOf s18).toNat)
 case atStart =>
  refine ⟨0, Nat.zero_le _, rfl, ⟨?_⟩, ⟨ak (Below.refl _ _) _⟩⟩
  have := World.ownsRow_made (base := w1.heap.size) (e := 25) (size := 1) w1 (madeCells #[Value.int .u64 0] (l.length * i0.size)) l.length (Nat.le_refl _) (by have := HM.out; unfold maxLen; omega) (by rw [size_madeCells, hz1])
  simpa [hz1] using this
 case round =>
  obtain ⟨i, hil, rfl, HO, HB⟩ := hrel
  by_cases hlt : i < l.length
  ·have hlti : (i : Int) < (l.length : Int) := by omega
   have hi0 : (0 : Int) ≤ (i : Int) := by omega
   obtain ⟨ad, e1, hx0⟩ := Kd.fA (Kd.bM HC.out HB.out) (i : Int) hi0 hlti
   rw [qC hlt, Int.toNat_natCast] at hx0
   subst e1
   have HS := ah (List.take_succ_eq_append_getElem hlt)
   have hx := HN.out l[i] (List.getElem_mem hlt)
   have hcv := Yu hx.1 hx.2
   have FL := ah (Yt l[i])
   have hi4 : i < 65536 := by have := HM.out; omega
   clear hx
   generalize l[i] = x at hx0 HS hcv FL
   generalize hwx : MQ x = nv at FL
   have HWX := ah hwx
   clear hwx
   gi_wp2_with (first | (gi_at_call 137; refine (callsIn_wide.2 (FL.out _)).mono ?_; rintro e w2 ⟨rfl, hb⟩; have FZ := ah (HO.out.kept (ql hb none) (Classical.em _)); have HB2 := ah (aH HB.out HB.out.size hb); clear hb) | (gi_at_builtin; refine wpListIn_append_own _ rfl _ _ 53 rfl w1.heap.size 25 i0 (.int .u64 0) 1 8 Try.underlying53 hi hz0 hz1 hz2 rfl (by decide) _ _ _ rfl (FZ.out.alloc _) ⟨w2.heap.size, 0, none⟩ 1 1 [.int .u64 nv] rfl rfl (cell_one_new _ _ _) (by simp [Value.oneCell']) (by unfold maxLen; omega) (by omega) (by have := HB2.out.size; simp; omega) ?_; intro v' w3 hown' hgrow _; have BU := ah hown'; have HB3 := ah (EP (ak HB2.out _) _ (by have := HB2.out.size; simp; omega) hgrow (Oz FZ.out)); clear hown' hgrow))
   go_roundw
   case rel =>
    refine ⟨i + 1, by omega, by go_num, ⟨?_⟩, HB3⟩
    have := BU.out
    rw [HS.out, List.map_append, List.map_append, List.map_cons, List.map_nil, HWX.out]
    exact this
   case measure => simp [intOf]; omega
  ·obtain rfl : i = l.length := by omega
   have hlti : ¬ (l.length : Int) < (l.length : Int) := by omega
   clear hlt
   gi_wp2
   refine bodyPost_ret (results_tmp rfl _ _ _) rfl ?_
   have hl : l.length = (l.map MQ).length := (List.length_map ..).symm
   have ho := HO.out
   rw [List.take_length] at ho
   exact ⟨_, rfl, Kd.bV (Kd.KR (enc := Value.int .u64) (h1 := fun _ => rfl) (hl ▸ ho) (fun _ _ => trivial)) HB1.out.size, aH HB1.out HB1.out.size HB.out⟩
end Go.Proofs.Ytooiccpmngmapaa.P
namespace Go.Proofs.Ytooiccpmngmapaa.P
open Go.RowKit Go.Proofs.YtooiccpmngmapaaW.PrintWords Go.Proofs.YtooiccpmngmapaaW.PrintLast Go.Proofs.YtooiccpmngmapaaW.PrintMore
attribute [local go_sem] jh ji jR jS iI iJ jk jl
def fhist_From.f (dD : Int) (dH : Int) (dQ : Int) (dR : Int) (dO : Int) (dN : List (dP)) (dK : List (dP)) (dJ : List Int) (dI : List Int) : Option (Int × Int × Int × Int × Int × (List (dP)) × (List (dP)) × List Int × List Int × Int) := (hist_Check.f dD dH dQ dR dO dN dK dJ dI).bind fun eG => (if eG = 0 then ((fhist_Float.f dQ).bind fun lg => ((fhist_Float.f dR).bind fun t105 => ((slices_Clone_span.f dN).bind fun fU => ((slices_Clone_span.f dK).bind fun t109 => ((fhist_floats.f dJ).bind fun jQ => ((fhist_floats.f dI).bind fun qc => (some (dD, dH, lg, t105, dO, fU, t109, jQ, qc, 0)))))))) else (some (0, 0, 0, 0, 0, ([] : List (dP)), ([] : List (dP)), ([] : List Int), ([] : List Int), eG)))
def fhist_From.T4 : Bool × List (List Nat × List Nat) := (true, [([], []), ([0], [0]), ([], []), ([2], [2]), ([], []), ([4], [4]), ([5], [5]), ([], []), ([7], [7]), ([8, 6], [8]), ([], []), ([10], [10]), ([], []), ([12], [12]), ([13, 9], [13]), ([], []), ([15], [15]), ([16, 14], [16]), ([], []), ([18], [18]), ([19, 17], [19]), ([], []), ([21], [21]), ([22, 20], [22]), ([1, 3, 6, 9, 11, 14, 17, 20, 23], [1, 3, 6, 9, 11, 14, 17, 20, 23]), ([24, 23, 0, 1, 2, 3, 4, 5, 6, 7, 8, 9, 10, 11, 12, 13, 14, 15, 16, 17, 18, 19, 20, 21, 22, 23, 24], [24]), ([25, 0, 1, 2, 3, 4, 5, 6, 7, 8, 9, 10, 11, 12, 13, 14, 15, 16, 17, 18, 19, 20, 21, 22, 23, 24, 25], [])])
def fhist_From.B4 : List Nat := [0, 1, 0, 4, 0, 16, 48, 0, 128, 496, 0, 1024, 0, 4096, 13296, 0, 32768, 127984, 0, 262144, 1045488, 0, 2097152, 8385520, 16777215, 33554431, 67108863]
theorem fhist_From.adO : rZ .any (opsOf Try.f74 4) = fhist_From.T4 := by kernel_rfl
theorem fhist_From.aaD : tJ fhist_From.T4.2 fhist_From.B4 = true := by kernel_rfl
set_option maxHeartbeats 8000000 in
set_option maxRecDepth 100000 in
theorem fhist_From.calls (dD : Int) (dH : Int) (dQ : Int) (dR : Int) (dO : Int) (iV : Option Addr) (iW : Nat) (dN : List (dP)) (iR : Option Addr) (iT : Nat) (dK : List (dP)) (iC : Option Addr) (iD : Nat) (dJ : List Int) (iE : Option Addr) (iF : Nat) (dI : List Int) (r1 : Int) (r2 : Int) (r3 : Int) (r4 : Int) (r5 : Int) (r6 : List (dP)) (r7 : List (dP)) (r8 : List Int) (r9 : List Int) (r10 : Int) (w : World) (oO : Kd.C jE w iV dN.length dN) (oP : dN.length ≤ iW) (oQ : Kd.C jE w iR dK.length dK) (oU : dK.length ≤ iT) (qI : Kd.C (Kd.int .i64) w iC dJ.length dJ) (qJ : dJ.length ≤ iD) (qK : Kd.C (Kd.int .i64) w iE dI.length dI) (qL : dI.length ≤ iF) (h : fhist_From.f dD dH dQ dR dO dN dK dJ dI = some (r1, r2, r3, r4, r5, r6, r7, r8, r9, r10)) :
  Calls Try.prog 74 #[.agg #[.int .i64 dD, .int .u64 dH, .int .u64 dQ, .int .u64 dR, .int .u64 dO, .slice iV dN.length iW, .slice iR dK.length iT, .slice iC dJ.length iD, .slice iE dI.length iF]] w fun e w' => ∃ Md Me P8 P9 : Value, e = .returned (.tuple #[.agg #[.int .i64 r1, .int .u64 r2, .int .u64 r3, .int .u64 r4, .int .u64 r5, Md, Me, P8, P9], .int .i64 r10]) ∧ Kd.R jE 113 w' w.heap.size (fun k_ => some k_ ≠ (Me : Value).ownBlock) Md r6 ∧ Kd.R jE 113 w' w.heap.size (fun k_ => some k_ ≠ (Md : Value).ownBlock) Me r7 ∧ Kd.R (Kd.int .u64) 25 w' w.heap.size (fun k_ => some k_ ≠ (P9 : Value).ownBlock) P8 r8 ∧ Kd.R (Kd.int .u64) 25 w' w.heap.size (fun k_ => some k_ ≠ (P8 : Value).ownBlock) P9 r9 ∧ Below w.heap.size w w' := by
 have Ui := Try.underlying29
 have ahk := Try.underlying55
 have nH := ah oO
 have nI := ah oP
 clear oO oP
 have nZ := ah oQ
 have oh := ah oU
 clear oQ oU
 have oV := ah qI
 have oW := ah qJ
 clear qI qJ
 have pG := ah qK
 have pI := ah qL
 clear qK qL
 have HB := ah (Below.refl w.heap.size w)
 have H : ((hist_Check.f dD dH dQ dR dO dN dK dJ dI).bind fun eG => (if eG = 0 then ((fhist_Float.f dQ).bind fun lg => ((fhist_Float.f dR).bind fun t105 => ((slices_Clone_span.f dN).bind fun fU => ((slices_Clone_span.f dK).bind fun t109 => ((fhist_floats.f dJ).bind fun jQ => ((fhist_floats.f dI).bind fun qc => (some (dD, dH, lg, t105, dO, fU, t109, jQ, qc, 0)))))))) else (some (0, 0, 0, 0, 0, ([] : List (dP)), ([] : List (dP)), ([] : List Int), ([] : List Int), eG)))) = some (r1, r2, r3, r4, r5, r6, r7, r8, r9, r10) := h
 clear h
 replace H := Option.bind_eq_some_iff.mp H
 obtain ⟨eG, sV, H⟩ := H
 replace H : (if eG = 0 then ((fhist_Float.f dQ).bind fun lg => ((fhist_Float.f dR).bind fun t105 => ((slices_Clone_span.f dN).bind fun fU => ((slices_Clone_span.f dK).bind fun t109 => ((fhist_floats.f dJ).bind fun jQ => ((fhist_floats.f dI).bind fun qc => (some (dD, dH, lg, t105, dO, fU, t109, jQ, qc, 0)))))))) else (some (0, 0, 0, 0, 0, ([] : List (dP)), ([] : List (dP)), ([] : List Int), ([] : List Int), eG))) = some (r1, r2, r3, r4, r5, r6, r7, r8, r9, r10) := H
 have A2 := ah sV
 clear sV
 by_cases c3 : eG = 0
 ·rw [if_pos c3] at H
  have c3b0 : (eG == 0) = true := beq_iff_eq.mpr c3
  have c3b1 : (eG != 0) = false := bne_eq_false_iff_eq.mpr c3
  clear c3
  replace H := Option.bind_eq_some_iff.mp H
  obtain ⟨lg, PG, H⟩ := H
  replace H : ((fhist_Float.f dR).bind fun t105 => ((slices_Clone_span.f dN).bind fun fU => ((slices_Clone_span.f dK).bind fun t109 => ((fhist_floats.f dJ).bind fun jQ => ((fhist_floats.f dI).bind fun qc => (some (dD, dH, lg, t105, dO, fU, t109, jQ, qc, 0))))))) = some (r1, r2, r3, r4, r5, r6, r7, r8, r9, r10) := H
  have A4 := ah PG
  clear PG
  replace H := Option.bind_eq_some_iff.mp H
  obtain ⟨t105, JR, H⟩ := H
  replace H : ((slices_Clone_span.f dN).bind fun fU => ((slices_Clone_span.f dK).bind fun t109 => ((fhist_floats.f dJ).bind fun jQ => ((fhist_floats.f dI).bind fun qc => (some (dD, dH, lg, t105, dO, fU, t109, jQ, qc, 0)))))) = some (r1, r2, r3, r4, r5, r6, r7, r8, r9, r10) := H
  have A5 := ah JR
  clear JR
  replace H := Option.bind_eq_some_iff.mp H
  obtain ⟨fU, Pq, H⟩ := H
  replace H : ((slices_Clone_span.f dK).bind fun t109 => ((fhist_floats.f dJ).bind fun jQ => ((fhist_floats.f dI).bind fun qc => (some (dD, dH, lg, t105, dO, fU, t109, jQ, qc, 0))))) = some (r1, r2, r3, r4, r5, r6, r7, r8, r9, r10) := H
  have A6 := ah Pq
  clear Pq
  replace H := Option.bind_eq_some_iff.mp H
  obtain ⟨t109, PO, H⟩ := H
  replace H : ((fhist_floats.f dJ).bind fun jQ => ((fhist_floats.f dI).bind fun qc => (some (dD, dH, lg, t105, dO, fU, t109, jQ, qc, 0)))) = some (r1, r2, r3, r4, r5, r6, r7, r8, r9, r10) := H
  have A7 := ah PO
  clear PO
  replace H := Option.bind_eq_some_iff.mp H
  obtain ⟨jQ, A80, H⟩ := H
  replace H : ((fhist_floats.f dI).bind fun qc => (some (dD, dH, lg, t105, dO, fU, t109, jQ, qc, 0))) = some (r1, r2, r3, r4, r5, r6, r7, r8, r9, r10) := H
  have A8 := ah A80
  clear A80
  replace H := Option.bind_eq_some_iff.mp H
  obtain ⟨qc, A90, H⟩ := H
  replace H : (some (dD, dH, lg, t105, dO, fU, t109, jQ, qc, 0)) = some (r1, r2, r3, r4, r5, r6, r7, r8, r9, r10) := H
  have A9 := ah A90
  clear A90
  simp only [Option.some.injEq, Prod.mk.injEq] at H
  obtain ⟨rfl, rfl, rfl, rfl, rfl, rfl, rfl, rfl, rfl, rfl⟩ := H
  go_enter Try.func74, Try.ntmps74
  try go_wp2_with (first | ((with_reducible refine fJ (N := 1) rfl ?_); refine eU ?hg (N := 1) ?hd (cs := #[.int .i64 dD, .int .u64 dH, .int .u64 dQ, .int .u64 dR, .int .u64 dO, .slice iV dN.length iW, .slice iR dK.length iT, .slice iC dJ.length iD, .slice iE dI.length iF]) (t := 29) ?hr ?_; (case hd => rfl); (case hg => rfl); (case hr => first | (go_simp; done) | (go_simp; rfl)); intro cO hg w10 hbox hb; have aV := ah (hbox); have vG := ah ((by rw [hg]; exact (aI (aX HB.out)) : w.heap.size ≤ cO)); have bZ := ah ((by rw [hg]; exact (aI (aX HB.out)) : w.heap.size ≤ cO)); replace HB := ah (aW (aX HB.out) hb); clear hb hbox hg) | ((with_reducible refine fJ (N := 2) rfl ?_); refine eU ?hg (N := 2) ?hd (cs := #[.int .i64 0, .int .u64 0, .int .u64 0, .int .u64 0, .int .u64 0, .slice none 0 0, .slice none 0 0, .slice none 0 0, .slice none 0 0]) (t := 55) ?hr ?_; (case hd => rfl); (case hg => rfl); (case hr => first | (go_simp; done) | (go_simp; rfl)); intro aJ hg VE hbox hb; have aN := ah (hbox); have oM := ah ((by rw [hg]; exact (aI (by repeat (first | (with_reducible first | exact HB.out | apply ak | apply au | apply aC | refine aA ?_ bZ.out) | exact HB.out))) : w.heap.size ≤ aJ)); have bT := ah ((by rw [hg]; exact (aI (by repeat (first | (with_reducible first | exact HB.out | apply ak | apply au | apply aC | refine aA ?_ bZ.out) | exact HB.out))) : w.heap.size ≤ aJ)); have aQ := ah ((by rw [hg]; exact Nat.ne_of_lt (kL (g := cO) (o := .cells #[.int .i64 dD, .int .u64 dH, .int .u64 dQ, .int .u64 dR, .int .u64 dO, .slice iV dN.length iW, .slice iR dK.length iT, .slice iC dJ.length iD, .slice iE dI.length iF] 29 (0, 0)) (jP aV.out)) : cO ≠ aJ)); have fE := ah ((by rw [hg]; exact Nat.ne_of_gt (kL (g := cO) (o := .cells #[.int .i64 dD, .int .u64 dH, .int .u64 dQ, .int .u64 dR, .int .u64 dO, .slice iV dN.length iW, .slice iR dK.length iT, .slice iC dJ.length iD, .slice iE dI.length iF] 29 (0, 0)) (jP aV.out)) : aJ ≠ cO)); replace aV := ah (dX aV.out hb); replace HB := ah (aW (by repeat (first | (with_reducible first | exact HB.out | apply ak | apply au | apply aC | refine aA ?_ bZ.out) | exact HB.out)) hb); clear hb hbox hg; have aaE := aQ.out; have aaF := fE.out; have xq := ay aV.out; have xu := aG aV.out) | ((with_reducible refine bH (f := 31) rfl ?_); refine pV (some 6) rfl rfl Try.func31 (by kernel_rfl) rfl #[.agg #[.int .i64 dD, .int .u64 dH, .int .u64 dQ, .int .u64 dR, .int .u64 dO, .slice iV dN.length iW, .slice iR dK.length iT, .slice iC dJ.length iD, .slice iE dI.length iF]] rfl (by (try simp only [List.map_toArray, List.map_cons, List.map_nil]); first | done | rfl | (simp only [List.length_drop, List.length_take]; rfl)) ?_; (with_reducible refine (hist_Check.calls dD dH dQ dR dO _ _ dN _ _ dK _ _ dJ _ _ dI eG _ ?dw ?dA ?jr ?jv ?pJ ?pK ?pO ?pR A2.out).mono ?_); (case dw => exact Kd.jT (Kd.bM nH.out HB.out)); (case dA => exact nI.out); (case jr => exact Kd.jT (Kd.bM nZ.out HB.out)); (case jv => exact oh.out); (case pJ => exact Kd.jT (Kd.bM oV.out HB.out)); (case pK => exact oW.out); (case pO => exact Kd.jT (Kd.bM pG.out HB.out)); (case pR => exact pI.out); rintro e w14 ⟨rfl, hb⟩; refine ⟨_, rfl, ?_⟩; replace aV := ah (dX aV.out hb); replace aN := ah (dX aN.out hb); replace HB := ah (aW (by repeat (first | (with_reducible first | exact HB.out | apply ak | apply au | apply aC | refine aA ?_ bZ.out | refine aA ?_ bT.out) | exact HB.out)) hb); (try clear hb); (try clear hb2); (try clear hk); (try clear hi); clear A2))
  have gZ := ah (rY aV.out)
  have iL := ah (rY aN.out)
  have jC := ah (aC HB.out)
  clear aV
  clear aN
  clear HB
  have aV := gZ
  have aN := iL
  have HB := jC
  clear gZ iL jC
  refine Dj (n := 27) (S := fun w' => w'.cell? ⟨cO, 0, none⟩ = some (.int .i64 dD) ∧ w'.cell? ⟨cO, 1, none⟩ = some (.int .u64 dH) ∧ w'.cell? ⟨cO, 2, none⟩ = some (.int .u64 dQ) ∧ w'.cell? ⟨cO, 3, none⟩ = some (.int .u64 dR) ∧ w'.cell? ⟨cO, 4, none⟩ = some (.int .u64 dO) ∧ w'.cell? ⟨cO, 5, none⟩ = some (.slice iV dN.length iW) ∧ w'.cell? ⟨cO, 6, none⟩ = some (.slice iR dK.length iT) ∧ w'.cell? ⟨cO, 7, none⟩ = some (.slice iC dJ.length iD) ∧ w'.cell? ⟨cO, 8, none⟩ = some (.slice iE dI.length iF)) (ds := []) #[false, false, false, false, false, false, false, false, false, false, false, false, false, false, false, false, false, false, false, false, false, false, false, false, false, false, false] (by kernel_rfl) rfl rfl ⟨(ay aV.out 0).trans rfl, (ay aV.out 1).trans rfl, (ay aV.out 2).trans rfl, (ay aV.out 3).trans rfl, (ay aV.out 4).trans rfl, (ay aV.out 5).trans rfl, (ay aV.out 6).trans rfl, (ay aV.out 7).trans rfl, (ay aV.out 8).trans rfl⟩ (fun hHeld => ?_); refine uf fhist_From.adO fhist_From.aaD (fun HT_ HW_ => ?_)
  generalize w14.drew = X6 at aV aN HB hHeld ⊢
  refine iH (i := 0) (N := some 11) (v := ?_) (a' := ?_) #[true, false, false, false, false, false, false, false, false, false, false, false, false, false, false, false, false, false, false, false, false, false, false, false, false, false, false] rfl rfl (gu HT_.out (by kernel_rfl)) (fun _ _ _ h => h) (Or.inl ⟨by rfl, ?_⟩) ?_ ?_
  rotate_left
  ·intro w'
   go_simp
   with_reducible rfl
  rotate_left
  ·simp only [Act.put, List.setIfInBounds_toArray, List.set_cons_zero, List.set_cons_succ, dh, dF]
   rfl
  refine iH (i := 2) (N := some 13) (v := ?_) (a' := ?_) #[true, false, true, false, false, false, false, false, false, false, false, false, false, false, false, false, false, false, false, false, false, false, false, false, false, false, false] rfl rfl (gu HT_.out (by kernel_rfl)) (fun _ _ _ h => h) (Or.inl ⟨by rfl, ?_⟩) ?_ ?_
  rotate_left
  ·intro w'
   go_simp
   with_reducible rfl
  rotate_left
  ·simp only [Act.put, List.setIfInBounds_toArray, List.set_cons_zero, List.set_cons_succ, dh, dF]
   rfl
  refine iH (i := 4) (N := some 15) (v := ?_) (a' := ?_) #[true, false, true, false, true, false, false, false, false, false, false, false, false, false, false, false, false, false, false, false, false, false, false, false, false, false, false] rfl rfl (gu HT_.out (by kernel_rfl)) (fun _ _ _ h => h) (Or.inl ⟨by rfl, ?_⟩) ?_ ?_
  rotate_left
  ·intro w'
   go_simp
   with_reducible rfl
  rotate_left
  ·simp only [Act.put, List.setIfInBounds_toArray, List.set_cons_zero, List.set_cons_succ, dh, dF]
   rfl
  refine iH (i := 7) (N := some 18) (v := ?_) (a' := ?_) #[true, false, true, false, true, false, false, true, false, false, false, false, false, false, false, false, false, false, false, false, false, false, false, false, false, false, false] rfl rfl (gu HT_.out (by kernel_rfl)) (fun _ _ _ h => h) (Or.inl ⟨by rfl, ?_⟩) ?_ ?_
  rotate_left
  ·intro w'
   go_simp
   with_reducible rfl
  rotate_left
  ·simp only [Act.put, List.setIfInBounds_toArray, List.set_cons_zero, List.set_cons_succ, dh, dF]
   rfl
  refine iH (i := 10) (N := some 21) (v := ?_) (a' := ?_) #[true, false, true, false, true, false, false, true, false, false, true, false, false, false, false, false, false, false, false, false, false, false, false, false, false, false, false] rfl rfl (gu HT_.out (by kernel_rfl)) (fun _ _ _ h => h) (Or.inl ⟨by rfl, ?_⟩) ?_ ?_
  rotate_left
  ·intro w'
   go_simp
   with_reducible rfl
  rotate_left
  ·simp only [Act.put, List.setIfInBounds_toArray, List.set_cons_zero, List.set_cons_succ, dh, dF]
   rfl
  refine iH (i := 12) (N := some 23) (v := ?_) (a' := ?_) #[true, false, true, false, true, false, false, true, false, false, true, false, true, false, false, false, false, false, false, false, false, false, false, false, false, false, false] rfl rfl (gu HT_.out (by kernel_rfl)) (fun _ _ _ h => h) (Or.inl ⟨by rfl, ?_⟩) ?_ ?_
  rotate_left
  ·intro w'
   go_simp
   with_reducible rfl
  rotate_left
  ·simp only [Act.put, List.setIfInBounds_toArray, List.set_cons_zero, List.set_cons_succ, dh, dF]
   rfl
  refine iH (i := 15) (N := some 26) (v := ?_) (a' := ?_) #[true, false, true, false, true, false, false, true, false, false, true, false, true, false, false, true, false, false, false, false, false, false, false, false, false, false, false] rfl rfl (gu HT_.out (by kernel_rfl)) (fun _ _ _ h => h) (Or.inl ⟨by rfl, ?_⟩) ?_ ?_
  rotate_left
  ·intro w'
   go_simp
   with_reducible rfl
  rotate_left
  ·simp only [Act.put, List.setIfInBounds_toArray, List.set_cons_zero, List.set_cons_succ, dh, dF]
   rfl
  refine iH (i := 18) (N := some 29) (v := ?_) (a' := ?_) #[true, false, true, false, true, false, false, true, false, false, true, false, true, false, false, true, false, false, true, false, false, false, false, false, false, false, false] rfl rfl (gu HT_.out (by kernel_rfl)) (fun _ _ _ h => h) (Or.inl ⟨by rfl, ?_⟩) ?_ ?_
  rotate_left
  ·intro w'
   go_simp
   with_reducible rfl
  rotate_left
  ·simp only [Act.put, List.setIfInBounds_toArray, List.set_cons_zero, List.set_cons_succ, dh, dF]
   rfl
  refine iH (i := 21) (N := some 32) (v := ?_) (a' := ?_) #[true, false, true, false, true, false, false, true, false, false, true, false, true, false, false, true, false, false, true, false, false, true, false, false, false, false, false] rfl rfl (gu HT_.out (by kernel_rfl)) (fun _ _ _ h => h) (Or.inl ⟨by rfl, ?_⟩) ?_ ?_
  rotate_left
  ·intro w'
   go_simp
   with_reducible rfl
  rotate_left
  ·simp only [Act.put, List.setIfInBounds_toArray, List.set_cons_zero, List.set_cons_succ, dh, dF]
   rfl
  refine mP (i := 1) (N := some 12) (v := ?_) (a' := ?_) #[true, true, true, false, true, false, false, true, false, false, true, false, true, false, false, true, false, false, true, false, false, true, false, false, false, false, false] rfl rfl (iQ HT_.out HW_.out (by kernel_rfl)) (fun _ _ _ h => h) (Or.inl ⟨by rfl, ?_⟩) hHeld ?_ ?_
  rotate_left
  ·rintro w' ⟨s0, s1, s2, s3, s4, s5, s6, s7, s8⟩
   go_simp
   with_reducible rfl
  rotate_left
  ·simp only [Act.put, List.setIfInBounds_toArray, List.set_cons_zero, List.set_cons_succ, dh, dF]
   rfl
  refine mP (i := 3) (N := some 14) (v := ?_) (a' := ?_) #[true, true, true, true, true, false, false, true, false, false, true, false, true, false, false, true, false, false, true, false, false, true, false, false, false, false, false] rfl rfl (iQ HT_.out HW_.out (by kernel_rfl)) (fun _ _ _ h => h) (Or.inl ⟨by rfl, ?_⟩) hHeld ?_ ?_
  rotate_left
  ·rintro w' ⟨s0, s1, s2, s3, s4, s5, s6, s7, s8⟩
   go_simp
   with_reducible rfl
  rotate_left
  ·simp only [Act.put, List.setIfInBounds_toArray, List.set_cons_zero, List.set_cons_succ, dh, dF]
   rfl
  refine mP (i := 5) (N := some 16) (v := ?_) (a' := ?_) #[true, true, true, true, true, true, false, true, false, false, true, false, true, false, false, true, false, false, true, false, false, true, false, false, false, false, false] rfl rfl (iQ HT_.out HW_.out (by kernel_rfl)) (fun _ _ _ h => h) (Or.inl ⟨by rfl, ?_⟩) hHeld ?_ ?_
  rotate_left
  ·rintro w' ⟨s0, s1, s2, s3, s4, s5, s6, s7, s8⟩
   go_simp
   with_reducible rfl
  rotate_left
  ·simp only [Act.put, List.setIfInBounds_toArray, List.set_cons_zero, List.set_cons_succ, dh, dF]
   rfl
  refine mP (i := 8) (N := some 19) (v := ?_) (a' := ?_) #[true, true, true, true, true, true, false, true, true, false, true, false, true, false, false, true, false, false, true, false, false, true, false, false, false, false, false] rfl rfl (iQ HT_.out HW_.out (by kernel_rfl)) (fun _ _ _ h => h) (Or.inl ⟨by rfl, ?_⟩) hHeld ?_ ?_
  rotate_left
  ·rintro w' ⟨s0, s1, s2, s3, s4, s5, s6, s7, s8⟩
   go_simp
   with_reducible rfl
  rotate_left
  ·simp only [Act.put, List.setIfInBounds_toArray, List.set_cons_zero, List.set_cons_succ, dh, dF]
   rfl
  refine mP (i := 11) (N := some 22) (v := ?_) (a' := ?_) #[true, true, true, true, true, true, false, true, true, false, true, true, true, false, false, true, false, false, true, false, false, true, false, false, false, false, false] rfl rfl (iQ HT_.out HW_.out (by kernel_rfl)) (fun _ _ _ h => h) (Or.inl ⟨by rfl, ?_⟩) hHeld ?_ ?_
  rotate_left
  ·rintro w' ⟨s0, s1, s2, s3, s4, s5, s6, s7, s8⟩
   go_simp
   with_reducible rfl
  rotate_left
  ·simp only [Act.put, List.setIfInBounds_toArray, List.set_cons_zero, List.set_cons_succ, dh, dF]
   rfl
  refine mP (i := 13) (N := some 24) (v := ?_) (a' := ?_) #[true, true, true, true, true, true, false, true, true, false, true, true, true, true, false, true, false, false, true, false, false, true, false, false, false, false, false] rfl rfl (iQ HT_.out HW_.out (by kernel_rfl)) (fun _ _ _ h => h) (Or.inl ⟨by rfl, ?_⟩) hHeld ?_ ?_
  rotate_left
  ·rintro w' ⟨s0, s1, s2, s3, s4, s5, s6, s7, s8⟩
   go_simp
   with_reducible rfl
  rotate_left
  ·simp only [Act.put, List.setIfInBounds_toArray, List.set_cons_zero, List.set_cons_succ, dh, dF]
   rfl
  refine mP (i := 16) (N := some 27) (v := ?_) (a' := ?_) #[true, true, true, true, true, true, false, true, true, false, true, true, true, true, false, true, true, false, true, false, false, true, false, false, false, false, false] rfl rfl (iQ HT_.out HW_.out (by kernel_rfl)) (fun _ _ _ h => h) (Or.inl ⟨by rfl, ?_⟩) hHeld ?_ ?_
  rotate_left
  ·rintro w' ⟨s0, s1, s2, s3, s4, s5, s6, s7, s8⟩
   go_simp
   with_reducible rfl
  rotate_left
  ·simp only [Act.put, List.setIfInBounds_toArray, List.set_cons_zero, List.set_cons_succ, dh, dF]
   rfl
  refine mP (i := 19) (N := some 30) (v := ?_) (a' := ?_) #[true, true, true, true, true, true, false, true, true, false, true, true, true, true, false, true, true, false, true, true, false, true, false, false, false, false, false] rfl rfl (iQ HT_.out HW_.out (by kernel_rfl)) (fun _ _ _ h => h) (Or.inl ⟨by rfl, ?_⟩) hHeld ?_ ?_
  rotate_left
  ·rintro w' ⟨s0, s1, s2, s3, s4, s5, s6, s7, s8⟩
   go_simp
   with_reducible rfl
  rotate_left
  ·simp only [Act.put, List.setIfInBounds_toArray, List.set_cons_zero, List.set_cons_succ, dh, dF]
   rfl
  refine mP (i := 22) (N := some 33) (v := ?_) (a' := ?_) #[true, true, true, true, true, true, false, true, true, false, true, true, true, true, false, true, true, false, true, true, false, true, true, false, false, false, false] rfl rfl (iQ HT_.out HW_.out (by kernel_rfl)) (fun _ _ _ h => h) (Or.inl ⟨by rfl, ?_⟩) hHeld ?_ ?_
  rotate_left
  ·rintro w' ⟨s0, s1, s2, s3, s4, s5, s6, s7, s8⟩
   go_simp
   with_reducible rfl
  rotate_left
  ·simp only [Act.put, List.setIfInBounds_toArray, List.set_cons_zero, List.set_cons_succ, dh, dF]
   rfl
  refine tH (i := 6) (N := some 17) #[true, true, true, true, true, true, true, true, true, false, true, true, true, true, false, true, true, false, true, true, false, true, true, false, false, false, false] rfl rfl (kZ HT_.out (by kernel_rfl)) (by decide) (fun K hK => ?_)
  refine yj Try.func137 (by kernel_rfl) rfl #[.int .u64 dQ] (by rfl) rfl rfl (by (try simp only [List.map_toArray, List.map_cons, List.map_nil]); first | done | rfl | (simp only [List.length_drop, List.length_take]; rfl)) ?_
  with_reducible refine (fhist_Float.calls dQ lg _ A4.out).mono ?_
  rintro e w' ⟨rfl, ⟨nd, rfl⟩⟩
  refine ⟨_, rfl, ?_⟩
  refine hK.out _ _ ⟨(ay aV.out 0).trans rfl, (ay aV.out 1).trans rfl, (ay aV.out 2).trans rfl, (ay aV.out 3).trans rfl, (ay aV.out 4).trans rfl, (ay aV.out 5).trans rfl, (ay aV.out 6).trans rfl, (ay aV.out 7).trans rfl, (ay aV.out 8).trans rfl⟩ (fun hHeld => ?_)
  clear hK K
  refine kC (a' := ?_) ?_ ?_
  rotate_left
  ·show Act.put _ (some 17) _ = _
   simp only [Act.put, List.setIfInBounds_toArray, List.set_cons_zero, List.set_cons_succ, dh, dF]
   rfl
  refine tH (i := 9) (N := some 20) #[true, true, true, true, true, true, true, true, true, true, true, true, true, true, false, true, true, false, true, true, false, true, true, false, false, false, false] rfl rfl (kZ HT_.out (by kernel_rfl)) (by decide) (fun K hK => ?_)
  refine yj Try.func137 (by kernel_rfl) rfl #[.int .u64 dR] (by rfl) rfl rfl (by (try simp only [List.map_toArray, List.map_cons, List.map_nil]); first | done | rfl | (simp only [List.length_drop, List.length_take]; rfl)) ?_
  with_reducible refine (fhist_Float.calls dR t105 _ A5.out).mono ?_
  rintro e w' ⟨rfl, ⟨nd, rfl⟩⟩
  refine ⟨_, rfl, ?_⟩
  refine hK.out _ _ ⟨(ay aV.out 0).trans rfl, (ay aV.out 1).trans rfl, (ay aV.out 2).trans rfl, (ay aV.out 3).trans rfl, (ay aV.out 4).trans rfl, (ay aV.out 5).trans rfl, (ay aV.out 6).trans rfl, (ay aV.out 7).trans rfl, (ay aV.out 8).trans rfl⟩ (fun hHeld => ?_)
  clear hK K
  refine kC (a' := ?_) ?_ ?_
  rotate_left
  ·show Act.put _ (some 20) _ = _
   simp only [Act.put, List.setIfInBounds_toArray, List.set_cons_zero, List.set_cons_succ, dh, dF]
   rfl
  refine tH (i := 14) (N := some 25) #[true, true, true, true, true, true, true, true, true, true, true, true, true, true, true, true, true, false, true, true, false, true, true, false, false, false, false] rfl rfl (kZ HT_.out (by kernel_rfl)) (by decide) (fun K hK => ?_)
  refine yj Try.func138 (by kernel_rfl) rfl #[.slice iV dN.length iW] (by rfl) rfl rfl (by (try simp only [List.map_toArray, List.map_cons, List.map_nil]); first | done | rfl | (simp only [List.length_drop, List.length_take]; rfl)) ?_
  with_reducible refine (slices_Clone_span.calls _ _ dN fU _ ?dw ?dA A6.out).mono ?_
  (case dw => repeat (first | exact (Kd.bM nH.out (by repeat (first | (with_reducible first | exact HB.out | apply ak | apply au | apply aC | refine aA ?_ bZ.out | refine aA ?_ bT.out) | exact HB.out))) | (with_reducible refine Kd.wW ?_ _) | (with_reducible refine Kd.wX ?_ _) | (with_reducible refine Kd.Aj ?_)))
  (case dA => exact nI.out)
  rintro e w16 ⟨v107, rfl, ho0, hb⟩
  refine ⟨_, rfl, ?_⟩
  have gZ := ah (Kd.bV ho0 (aI (by repeat (first | (with_reducible first | exact HB.out | apply ak | apply au | apply aC | refine aA ?_ bZ.out | refine aA ?_ bT.out) | exact HB.out))))
  have iL := ah (dX aV.out hb)
  have jC := ah (dX aN.out hb)
  have jZ := ah (aW (by repeat (first | (with_reducible first | exact HB.out | apply ak | apply au | apply aC | refine aA ?_ bZ.out | refine aA ?_ bT.out) | exact HB.out)) hb)
  clear aV
  clear aN
  clear HB
  have fK := gZ
  have aV := iL
  have aN := jC
  have HB := jZ
  clear gZ iL jC jZ
  (try clear hb)
  (try clear hb2)
  (try clear hk)
  (try clear hi)
  (try clear ho0)
  refine hK.out _ _ ⟨(ay aV.out 0).trans rfl, (ay aV.out 1).trans rfl, (ay aV.out 2).trans rfl, (ay aV.out 3).trans rfl, (ay aV.out 4).trans rfl, (ay aV.out 5).trans rfl, (ay aV.out 6).trans rfl, (ay aV.out 7).trans rfl, (ay aV.out 8).trans rfl⟩ (fun hHeld => ?_)
  clear hK K
  refine kC (a' := ?_) ?_ ?_
  rotate_left
  ·show Act.put _ (some 25) _ = _
   simp only [Act.put, List.setIfInBounds_toArray, List.set_cons_zero, List.set_cons_succ, dh, dF]
   rfl
  refine tH (i := 17) (N := some 28) #[true, true, true, true, true, true, true, true, true, true, true, true, true, true, true, true, true, true, true, true, false, true, true, false, false, false, false] rfl rfl (kZ HT_.out (by kernel_rfl)) (by decide) (fun K hK => ?_)
  refine yj Try.func138 (by kernel_rfl) rfl #[.slice iR dK.length iT] (by rfl) rfl rfl (by (try simp only [List.map_toArray, List.map_cons, List.map_nil]); first | done | rfl | (simp only [List.length_drop, List.length_take]; rfl)) ?_
  with_reducible refine (slices_Clone_span.calls _ _ dK t109 _ ?dw ?dA A7.out).mono ?_
  (case dw => exact Kd.jT (Kd.bM nZ.out HB.out))
  (case dA => exact oh.out)
  rintro e Xf ⟨sJ, rfl, ho0, hb⟩
  refine ⟨_, rfl, ?_⟩
  have gZ := ah (Kd.dW (Kd.fB fK.out) (Kd.fP ho0) hb)
  have iL := ah (Kd.bV (Kd.gq ho0 (Kd.jH (Kd.fB fK.out))) (aI (by repeat (first | (with_reducible first | exact HB.out | apply ak | apply au | apply aC | refine aA ?_ bZ.out | refine aA ?_ bT.out) | exact HB.out))))
  have jC := ah (dX aV.out hb)
  have jZ := ah (dX aN.out hb)
  have mQ := ah (aW (by repeat (first | (with_reducible first | exact HB.out | apply ak | apply au | apply aC | refine aA ?_ bZ.out | refine aA ?_ bT.out) | exact HB.out)) hb)
  clear fK
  clear aV
  clear aN
  clear HB
  have fK := gZ
  have gX := iL
  have aV := jC
  have aN := jZ
  have HB := mQ
  clear gZ iL jC jZ mQ
  (try clear hb)
  (try clear hb2)
  (try clear hk)
  (try clear hi)
  (try clear ho0)
  refine hK.out _ _ ⟨(ay aV.out 0).trans rfl, (ay aV.out 1).trans rfl, (ay aV.out 2).trans rfl, (ay aV.out 3).trans rfl, (ay aV.out 4).trans rfl, (ay aV.out 5).trans rfl, (ay aV.out 6).trans rfl, (ay aV.out 7).trans rfl, (ay aV.out 8).trans rfl⟩ (fun hHeld => ?_)
  clear hK K
  refine kC (a' := ?_) ?_ ?_
  rotate_left
  ·show Act.put _ (some 28) _ = _
   simp only [Act.put, List.setIfInBounds_toArray, List.set_cons_zero, List.set_cons_succ, dh, dF]
   rfl
  refine tH (i := 20) (N := some 31) #[true, true, true, true, true, true, true, true, true, true, true, true, true, true, true, true, true, true, true, true, true, true, true, false, false, false, false] rfl rfl (kZ HT_.out (by kernel_rfl)) (by decide) (fun K hK => ?_)
  refine yj Try.func139 (by kernel_rfl) rfl #[.slice iC dJ.length iD] (by rfl) rfl rfl (by (try simp only [List.map_toArray, List.map_cons, List.map_nil]); first | done | rfl | (simp only [List.length_drop, List.length_take]; rfl)) ?_
  with_reducible refine (fhist_floats.calls _ _ dJ jQ _ ?dw ?dA A8.out).mono ?_
  (case dw => exact Kd.jT (Kd.bM oV.out HB.out))
  (case dA => exact oW.out)
  rintro e w18 ⟨VF, rfl, ho0, hb⟩
  refine ⟨_, rfl, ?_⟩
  have gZ := ah (Kd.kE fK.out hb)
  have iL := ah (Kd.kE gX.out hb)
  have jC := ah (Kd.bV ho0 (aI (by repeat (first | (with_reducible first | exact HB.out | apply ak | apply au | apply aC | refine aA ?_ bZ.out | refine aA ?_ bT.out) | exact HB.out))))
  have jZ := ah (dX aV.out hb)
  have mQ := ah (dX aN.out hb)
  have qY := ah (aW (by repeat (first | (with_reducible first | exact HB.out | apply ak | apply au | apply aC | refine aA ?_ bZ.out | refine aA ?_ bT.out) | exact HB.out)) hb)
  clear fK
  clear gX
  clear aV
  clear aN
  clear HB
  have fK := gZ
  have gX := iL
  have tu := jC
  have aV := jZ
  have aN := mQ
  have HB := qY
  clear gZ iL jC jZ mQ qY
  (try clear hb)
  (try clear hb2)
  (try clear hk)
  (try clear hi)
  (try clear ho0)
  refine hK.out _ _ ⟨(ay aV.out 0).trans rfl, (ay aV.out 1).trans rfl, (ay aV.out 2).trans rfl, (ay aV.out 3).trans rfl, (ay aV.out 4).trans rfl, (ay aV.out 5).trans rfl, (ay aV.out 6).trans rfl, (ay aV.out 7).trans rfl, (ay aV.out 8).trans rfl⟩ (fun hHeld => ?_)
  clear hK K
  refine kC (a' := ?_) ?_ ?_
  rotate_left
  ·show Act.put _ (some 31) _ = _
   simp only [Act.put, List.setIfInBounds_toArray, List.set_cons_zero, List.set_cons_succ, dh, dF]
   rfl
  refine tH (i := 23) (N := some 34) #[true, true, true, true, true, true, true, true, true, true, true, true, true, true, true, true, true, true, true, true, true, true, true, true, false, false, false] rfl rfl (kZ HT_.out (by kernel_rfl)) (by decide) (fun K hK => ?_)
  refine yj Try.func139 (by kernel_rfl) rfl #[.slice iE dI.length iF] (by rfl) rfl rfl (by (try simp only [List.map_toArray, List.map_cons, List.map_nil]); first | done | rfl | (simp only [List.length_drop, List.length_take]; rfl)) ?_
  with_reducible refine (fhist_floats.calls _ _ dI qc _ ?dw ?dA A9.out).mono ?_
  (case dw => exact Kd.jT (Kd.bM pG.out HB.out))
  (case dA => exact pI.out)
  rintro e Ak ⟨aaG, rfl, ho0, hb⟩
  refine ⟨_, rfl, ?_⟩
  have gZ := ah (Kd.kE fK.out hb)
  have iL := ah (Kd.kE gX.out hb)
  have jC := ah (Kd.dW (Kd.fB tu.out) (Kd.fP ho0) hb)
  have jZ := ah (Kd.bV (Kd.gq ho0 (Kd.jH (Kd.fB tu.out))) (aI (by repeat (first | (with_reducible first | exact HB.out | apply ak | apply au | apply aC | refine aA ?_ bZ.out | refine aA ?_ bT.out) | exact HB.out))))
  have mQ := ah (dX aV.out hb)
  have qY := ah (dX aN.out hb)
  have n6_ := ah (aW (by repeat (first | (with_reducible first | exact HB.out | apply ak | apply au | apply aC | refine aA ?_ bZ.out | refine aA ?_ bT.out) | exact HB.out)) hb)
  clear fK
  clear gX
  clear tu
  clear aV
  clear aN
  clear HB
  have fK := gZ
  have gX := iL
  have tu := jC
  have oZ := jZ
  have aV := mQ
  have aN := qY
  have HB := n6_
  clear gZ iL jC jZ mQ qY n6_
  (try clear hb)
  (try clear hb2)
  (try clear hk)
  (try clear hi)
  (try clear ho0)
  obtain ⟨Oh, JX, QJ⟩ := Kd.bY oZ.out
  (first | subst QJ | (injection QJ with sG yM sH; have yN := sG.symm; have yO := sH.symm; clear sG yM sH; subst yN; subst yO))
  obtain ⟨FH, FM, Hy⟩ := Kd.bY tu.out
  (first | subst Hy | (injection Hy with sG yM sH; have yN := sG.symm; have yO := sH.symm; clear sG yM sH; subst yN; subst yO))
  obtain ⟨LY, BZ, uQ⟩ := Kd.bY gX.out
  (first | subst uQ | (injection uQ with sG yM sH; have yN := sG.symm; have yO := sH.symm; clear sG yM sH; subst yN; subst yO))
  obtain ⟨J4, J5, VR⟩ := Kd.bY fK.out
  (first | subst VR | (injection VR with sG yM sH; have yN := sG.symm; have yO := sH.symm; clear sG yM sH; subst yN; subst yO))
  refine hK.out _ _ ⟨(ay aV.out 0).trans rfl, (ay aV.out 1).trans rfl, (ay aV.out 2).trans rfl, (ay aV.out 3).trans rfl, (ay aV.out 4).trans rfl, (ay aV.out 5).trans rfl, (ay aV.out 6).trans rfl, (ay aV.out 7).trans rfl, (ay aV.out 8).trans rfl⟩ (fun hHeld => ?_)
  clear hK K
  refine kC (a' := ?_) ?_ ?_
  rotate_left
  ·show Act.put _ (some 34) _ = _
   simp only [Act.put, List.setIfInBounds_toArray, List.set_cons_zero, List.set_cons_succ, dh, dF]
   rfl
  refine iH (i := 24) (N := some 35) (v := ?_) (a' := ?_) #[true, true, true, true, true, true, true, true, true, true, true, true, true, true, true, true, true, true, true, true, true, true, true, true, true, false, false] rfl rfl (gu HT_.out (by kernel_rfl)) (fun _ _ _ h => h) (Or.inl ⟨by rfl, ?_⟩) ?_ ?_
  rotate_left
  ·intro w'
   go_simp
   with_reducible rfl
  rotate_left
  ·simp only [Act.put, List.setIfInBounds_toArray, List.set_cons_zero, List.set_cons_succ, dh, dF]
   rfl
  refine tH (i := 25) (N := none) #[true, true, true, true, true, true, true, true, true, true, true, true, true, true, true, true, true, true, true, true, true, true, true, true, true, true, false] rfl rfl (kZ HT_.out (by kernel_rfl)) (by decide) (fun K hK => ?_)
  have ahl : Ak.cell? ⟨aJ, 0, none⟩ = some (.int .i64 0) := (ay aN.out 0).trans rfl
  have afC := aG aN.out 0
  have abZ := aQ.out
  have ab1 := fE.out
  have ahm : Ak.cell? ⟨aJ, 1, none⟩ = some (.int .u64 0) := (ay aN.out 1).trans rfl
  have afD := aG aN.out 1
  have ab2 := aQ.out
  have ab3 := fE.out
  have ahn : Ak.cell? ⟨aJ, 2, none⟩ = some (.int .u64 0) := (ay aN.out 2).trans rfl
  have afE := aG aN.out 2
  have ab4 := aQ.out
  have ab5 := fE.out
  have aho : Ak.cell? ⟨aJ, 3, none⟩ = some (.int .u64 0) := (ay aN.out 3).trans rfl
  have afF := aG aN.out 3
  have ab6 := aQ.out
  have ab7 := fE.out
  have ahp : Ak.cell? ⟨aJ, 4, none⟩ = some (.int .u64 0) := (ay aN.out 4).trans rfl
  have afG := aG aN.out 4
  have ab8 := aQ.out
  have ab9 := fE.out
  have ahq : Ak.cell? ⟨aJ, 5, none⟩ = some (.slice none 0 0) := (ay aN.out 5).trans rfl
  have afH := aG aN.out 5
  have acd := aQ.out
  have ace := fE.out
  have ahr : Ak.cell? ⟨aJ, 6, none⟩ = some (.slice none 0 0) := (ay aN.out 6).trans rfl
  have afI := aG aN.out 6
  have acf := aQ.out
  have acg := fE.out
  have ahs : Ak.cell? ⟨aJ, 7, none⟩ = some (.slice none 0 0) := (ay aN.out 7).trans rfl
  have afJ := aG aN.out 7
  have ach := aQ.out
  have aci := fE.out
  have aht : Ak.cell? ⟨aJ, 8, none⟩ = some (.slice none 0 0) := (ay aN.out 8).trans rfl
  have afK := aG aN.out 8
  have acj := aQ.out
  have acn := fE.out
  refine WQ (w1 := ?_) (by rfl) rfl ?_ ?_
  rotate_left
  ·go_simp
   rfl
  refine hK.out _ _ ⟨((cell_far (p := ⟨aJ, _, none⟩) aQ.out _).trans (((cell_far (p := ⟨aJ, _, none⟩) aQ.out _).trans (((cell_far (p := ⟨aJ, _, none⟩) aQ.out _).trans (((cell_far (p := ⟨aJ, _, none⟩) aQ.out _).trans (((cell_far (p := ⟨aJ, _, none⟩) aQ.out _).trans (((cell_far (p := ⟨aJ, _, none⟩) aQ.out _).trans (((cell_far (p := ⟨aJ, _, none⟩) aQ.out _).trans (((cell_far (p := ⟨aJ, _, none⟩) aQ.out _).trans (((cell_far (p := ⟨aJ, _, none⟩) aQ.out _).trans (hHeld.1)))))))))))))))))), ((cell_far (p := ⟨aJ, _, none⟩) aQ.out _).trans (((cell_far (p := ⟨aJ, _, none⟩) aQ.out _).trans (((cell_far (p := ⟨aJ, _, none⟩) aQ.out _).trans (((cell_far (p := ⟨aJ, _, none⟩) aQ.out _).trans (((cell_far (p := ⟨aJ, _, none⟩) aQ.out _).trans (((cell_far (p := ⟨aJ, _, none⟩) aQ.out _).trans (((cell_far (p := ⟨aJ, _, none⟩) aQ.out _).trans (((cell_far (p := ⟨aJ, _, none⟩) aQ.out _).trans (((cell_far (p := ⟨aJ, _, none⟩) aQ.out _).trans (hHeld.2.1)))))))))))))))))), ((cell_far (p := ⟨aJ, _, none⟩) aQ.out _).trans (((cell_far (p := ⟨aJ, _, none⟩) aQ.out _).trans (((cell_far (p := ⟨aJ, _, none⟩) aQ.out _).trans (((cell_far (p := ⟨aJ, _, none⟩) aQ.out _).trans (((cell_far (p := ⟨aJ, _, none⟩) aQ.out _).trans (((cell_far (p := ⟨aJ, _, none⟩) aQ.out _).trans (((cell_far (p := ⟨aJ, _, none⟩) aQ.out _).trans (((cell_far (p := ⟨aJ, _, none⟩) aQ.out _).trans (((cell_far (p := ⟨aJ, _, none⟩) aQ.out _).trans (hHeld.2.2.1)))))))))))))))))), ((cell_far (p := ⟨aJ, _, none⟩) aQ.out _).trans (((cell_far (p := ⟨aJ, _, none⟩) aQ.out _).trans (((cell_far (p := ⟨aJ, _, none⟩) aQ.out _).trans (((cell_far (p := ⟨aJ, _, none⟩) aQ.out _).trans (((cell_far (p := ⟨aJ, _, none⟩) aQ.out _).trans (((cell_far (p := ⟨aJ, _, none⟩) aQ.out _).trans (((cell_far (p := ⟨aJ, _, none⟩) aQ.out _).trans (((cell_far (p := ⟨aJ, _, none⟩) aQ.out _).trans (((cell_far (p := ⟨aJ, _, none⟩) aQ.out _).trans (hHeld.2.2.2.1)))))))))))))))))), ((cell_far (p := ⟨aJ, _, none⟩) aQ.out _).trans (((cell_far (p := ⟨aJ, _, none⟩) aQ.out _).trans (((cell_far (p := ⟨aJ, _, none⟩) aQ.out _).trans (((cell_far (p := ⟨aJ, _, none⟩) aQ.out _).trans (((cell_far (p := ⟨aJ, _, none⟩) aQ.out _).trans (((cell_far (p := ⟨aJ, _, none⟩) aQ.out _).trans (((cell_far (p := ⟨aJ, _, none⟩) aQ.out _).trans (((cell_far (p := ⟨aJ, _, none⟩) aQ.out _).trans (((cell_far (p := ⟨aJ, _, none⟩) aQ.out _).trans (hHeld.2.2.2.2.1)))))))))))))))))), ((cell_far (p := ⟨aJ, _, none⟩) aQ.out _).trans (((cell_far (p := ⟨aJ, _, none⟩) aQ.out _).trans (((cell_far (p := ⟨aJ, _, none⟩) aQ.out _).trans (((cell_far (p := ⟨aJ, _, none⟩) aQ.out _).trans (((cell_far (p := ⟨aJ, _, none⟩) aQ.out _).trans (((cell_far (p := ⟨aJ, _, none⟩) aQ.out _).trans (((cell_far (p := ⟨aJ, _, none⟩) aQ.out _).trans (((cell_far (p := ⟨aJ, _, none⟩) aQ.out _).trans (((cell_far (p := ⟨aJ, _, none⟩) aQ.out _).trans (hHeld.2.2.2.2.2.1)))))))))))))))))), ((cell_far (p := ⟨aJ, _, none⟩) aQ.out _).trans (((cell_far (p := ⟨aJ, _, none⟩) aQ.out _).trans (((cell_far (p := ⟨aJ, _, none⟩) aQ.out _).trans (((cell_far (p := ⟨aJ, _, none⟩) aQ.out _).trans (((cell_far (p := ⟨aJ, _, none⟩) aQ.out _).trans (((cell_far (p := ⟨aJ, _, none⟩) aQ.out _).trans (((cell_far (p := ⟨aJ, _, none⟩) aQ.out _).trans (((cell_far (p := ⟨aJ, _, none⟩) aQ.out _).trans (((cell_far (p := ⟨aJ, _, none⟩) aQ.out _).trans (hHeld.2.2.2.2.2.2.1)))))))))))))))))), ((cell_far (p := ⟨aJ, _, none⟩) aQ.out _).trans (((cell_far (p := ⟨aJ, _, none⟩) aQ.out _).trans (((cell_far (p := ⟨aJ, _, none⟩) aQ.out _).trans (((cell_far (p := ⟨aJ, _, none⟩) aQ.out _).trans (((cell_far (p := ⟨aJ, _, none⟩) aQ.out _).trans (((cell_far (p := ⟨aJ, _, none⟩) aQ.out _).trans (((cell_far (p := ⟨aJ, _, none⟩) aQ.out _).trans (((cell_far (p := ⟨aJ, _, none⟩) aQ.out _).trans (((cell_far (p := ⟨aJ, _, none⟩) aQ.out _).trans (hHeld.2.2.2.2.2.2.2.1)))))))))))))))))), ((cell_far (p := ⟨aJ, _, none⟩) aQ.out _).trans (((cell_far (p := ⟨aJ, _, none⟩) aQ.out _).trans (((cell_far (p := ⟨aJ, _, none⟩) aQ.out _).trans (((cell_far (p := ⟨aJ, _, none⟩) aQ.out _).trans (((cell_far (p := ⟨aJ, _, none⟩) aQ.out _).trans (((cell_far (p := ⟨aJ, _, none⟩) aQ.out _).trans (((cell_far (p := ⟨aJ, _, none⟩) aQ.out _).trans (((cell_far (p := ⟨aJ, _, none⟩) aQ.out _).trans (((cell_far (p := ⟨aJ, _, none⟩) aQ.out _).trans (hHeld.2.2.2.2.2.2.2.2))))))))))))))))))⟩ (fun hHeld => ?_)
  clear hK K
  refine iH (i := 26) (N := some 3) (v := ?_) (a' := ?_) #[true, true, true, true, true, true, true, true, true, true, true, true, true, true, true, true, true, true, true, true, true, true, true, true, true, true, true] rfl rfl (gu HT_.out (by kernel_rfl)) (fun _ _ _ h => h) (Or.inl ⟨by rfl, ?_⟩) ?_ ?_
  rotate_left
  ·intro w'
   go_simp
   with_reducible rfl
  rotate_left
  ·simp only [Act.put, List.setIfInBounds_toArray, List.set_cons_zero, List.set_cons_succ, dh, dF]
   rfl
  refine Iu (zJ HT_.out (by kernel_rfl)) ?_
  try go_wp2
  refine bodyPost_ret (gQ rfl _ _ aJ 55 #[.int .i64 dD, .int .u64 dH, .int .u64 lg, .int .u64 t105, .int .u64 dO, .slice J4 fU.length J5, .slice LY t109.length BZ, .slice FH jQ.length FM, .slice Oh qc.length JX] (0, 0) _ rfl (by (repeat with_reducible refine bQ ?_); refine bC (cs := #[.int .i64 dD, .int .u64 dH, .int .u64 lg, .int .u64 t105, .int .u64 dO, .slice J4 fU.length J5, .slice LY t109.length BZ, .slice FH jQ.length FM, .slice none 0 0]) ?_ 8 _ rfl; (repeat with_reducible refine bQ ?_); refine bC (cs := #[.int .i64 dD, .int .u64 dH, .int .u64 lg, .int .u64 t105, .int .u64 dO, .slice J4 fU.length J5, .slice LY t109.length BZ, .slice none 0 0, .slice none 0 0]) ?_ 7 _ rfl; (repeat with_reducible refine bQ ?_); refine bC (cs := #[.int .i64 dD, .int .u64 dH, .int .u64 lg, .int .u64 t105, .int .u64 dO, .slice J4 fU.length J5, .slice none 0 0, .slice none 0 0, .slice none 0 0]) ?_ 6 _ rfl; (repeat with_reducible refine bQ ?_); refine bC (cs := #[.int .i64 dD, .int .u64 dH, .int .u64 lg, .int .u64 t105, .int .u64 dO, .slice none 0 0, .slice none 0 0, .slice none 0 0, .slice none 0 0]) ?_ 5 _ rfl; (repeat with_reducible refine bQ ?_); refine bC (cs := #[.int .i64 dD, .int .u64 dH, .int .u64 lg, .int .u64 t105, .int .u64 0, .slice none 0 0, .slice none 0 0, .slice none 0 0, .slice none 0 0]) ?_ 4 _ rfl; (repeat with_reducible refine bQ ?_); refine bC (cs := #[.int .i64 dD, .int .u64 dH, .int .u64 lg, .int .u64 0, .int .u64 0, .slice none 0 0, .slice none 0 0, .slice none 0 0, .slice none 0 0]) ?_ 3 _ rfl; (repeat with_reducible refine bQ ?_); refine bC (cs := #[.int .i64 dD, .int .u64 dH, .int .u64 0, .int .u64 0, .int .u64 0, .slice none 0 0, .slice none 0 0, .slice none 0 0, .slice none 0 0]) ?_ 2 _ rfl; (repeat with_reducible refine bQ ?_); refine bC (cs := #[.int .i64 dD, .int .u64 0, .int .u64 0, .int .u64 0, .int .u64 0, .slice none 0 0, .slice none 0 0, .slice none 0 0, .slice none 0 0]) ?_ 1 _ rfl; (repeat with_reducible refine bQ ?_); refine bC (cs := #[.int .i64 0, .int .u64 0, .int .u64 0, .int .u64 0, .int .u64 0, .slice none 0 0, .slice none 0 0, .slice none 0 0, .slice none 0 0]) ?_ 0 _ rfl; (repeat with_reducible refine bQ ?_); exact aN.out) Try.underlying55 rfl (by kernel_rfl)) rfl ?_
  exact ⟨_, _, _, _, by first | rfl | (simp [aT, aU] <;> rfl) | (simp [*, aT, aU] <;> rfl), by (repeat with_reducible refine Kd.kJ ?_); exact Kd.cu (Kd.cZ (p := ⟨aJ, 8, none⟩) (Kd.cZ (p := ⟨aJ, 7, none⟩) (Kd.cZ (p := ⟨aJ, 6, none⟩) (Kd.cZ (p := ⟨aJ, 5, none⟩) (Kd.cZ (p := ⟨aJ, 4, none⟩) (Kd.cZ (p := ⟨aJ, 3, none⟩) (Kd.cZ (p := ⟨aJ, 2, none⟩) (Kd.cZ (p := ⟨aJ, 1, none⟩) (Kd.cZ (p := ⟨aJ, 0, none⟩) (Kd.gY fK.out aN.out (by decide)) (fun _ hk => hk.2) (.int .i64 dD)) (fun _ hk => hk.2) (.int .u64 dH)) (fun _ hk => hk.2) (.int .u64 lg)) (fun _ hk => hk.2) (.int .u64 t105)) (fun _ hk => hk.2) (.int .u64 dO)) (fun _ hk => hk.2) (.slice J4 fU.length J5)) (fun _ hk => hk.2) (.slice LY t109.length BZ)) (fun _ hk => hk.2) (.slice FH jQ.length FM)) (fun _ hk => hk.2) (.slice Oh qc.length JX)) (fun _ hk => hk.1.2), by (repeat with_reducible refine Kd.kJ ?_); exact Kd.cu (Kd.cZ (p := ⟨aJ, 8, none⟩) (Kd.cZ (p := ⟨aJ, 7, none⟩) (Kd.cZ (p := ⟨aJ, 6, none⟩) (Kd.cZ (p := ⟨aJ, 5, none⟩) (Kd.cZ (p := ⟨aJ, 4, none⟩) (Kd.cZ (p := ⟨aJ, 3, none⟩) (Kd.cZ (p := ⟨aJ, 2, none⟩) (Kd.cZ (p := ⟨aJ, 1, none⟩) (Kd.cZ (p := ⟨aJ, 0, none⟩) (Kd.gY gX.out aN.out (by decide)) (fun _ hk => hk.2) (.int .i64 dD)) (fun _ hk => hk.2) (.int .u64 dH)) (fun _ hk => hk.2) (.int .u64 lg)) (fun _ hk => hk.2) (.int .u64 t105)) (fun _ hk => hk.2) (.int .u64 dO)) (fun _ hk => hk.2) (.slice J4 fU.length J5)) (fun _ hk => hk.2) (.slice LY t109.length BZ)) (fun _ hk => hk.2) (.slice FH jQ.length FM)) (fun _ hk => hk.2) (.slice Oh qc.length JX)) (fun _ hk => hk.1.2), by (repeat with_reducible refine Kd.kJ ?_); exact Kd.cu (Kd.cZ (p := ⟨aJ, 8, none⟩) (Kd.cZ (p := ⟨aJ, 7, none⟩) (Kd.cZ (p := ⟨aJ, 6, none⟩) (Kd.cZ (p := ⟨aJ, 5, none⟩) (Kd.cZ (p := ⟨aJ, 4, none⟩) (Kd.cZ (p := ⟨aJ, 3, none⟩) (Kd.cZ (p := ⟨aJ, 2, none⟩) (Kd.cZ (p := ⟨aJ, 1, none⟩) (Kd.cZ (p := ⟨aJ, 0, none⟩) (Kd.gY tu.out aN.out (by decide)) (fun _ hk => hk.2) (.int .i64 dD)) (fun _ hk => hk.2) (.int .u64 dH)) (fun _ hk => hk.2) (.int .u64 lg)) (fun _ hk => hk.2) (.int .u64 t105)) (fun _ hk => hk.2) (.int .u64 dO)) (fun _ hk => hk.2) (.slice J4 fU.length J5)) (fun _ hk => hk.2) (.slice LY t109.length BZ)) (fun _ hk => hk.2) (.slice FH jQ.length FM)) (fun _ hk => hk.2) (.slice Oh qc.length JX)) (fun _ hk => hk.1.2), by (repeat with_reducible refine Kd.kJ ?_); exact Kd.cu (Kd.cZ (p := ⟨aJ, 8, none⟩) (Kd.cZ (p := ⟨aJ, 7, none⟩) (Kd.cZ (p := ⟨aJ, 6, none⟩) (Kd.cZ (p := ⟨aJ, 5, none⟩) (Kd.cZ (p := ⟨aJ, 4, none⟩) (Kd.cZ (p := ⟨aJ, 3, none⟩) (Kd.cZ (p := ⟨aJ, 2, none⟩) (Kd.cZ (p := ⟨aJ, 1, none⟩) (Kd.cZ (p := ⟨aJ, 0, none⟩) (Kd.gY oZ.out aN.out (by decide)) (fun _ hk => hk.2) (.int .i64 dD)) (fun _ hk => hk.2) (.int .u64 dH)) (fun _ hk => hk.2) (.int .u64 lg)) (fun _ hk => hk.2) (.int .u64 t105)) (fun _ hk => hk.2) (.int .u64 dO)) (fun _ hk => hk.2) (.slice J4 fU.length J5)) (fun _ hk => hk.2) (.slice LY t109.length BZ)) (fun _ hk => hk.2) (.slice FH jQ.length FM)) (fun _ hk => hk.2) (.slice Oh qc.length JX)) (fun _ hk => hk.1.2), by repeat (first | (with_reducible first | exact HB.out | apply ak | apply au | apply aC | refine aA ?_ bZ.out | refine aA ?_ bT.out) | exact HB.out)⟩
 rw [if_neg c3] at H
 have c3b0 : (eG == 0) = false := beq_eq_false_iff_ne.mpr c3
 have c3b1 : (eG != 0) = true := bne_iff_ne.mpr c3
 simp only [Option.some.injEq, Prod.mk.injEq] at H
 obtain ⟨rfl, rfl, rfl, rfl, rfl, rfl, rfl, rfl, rfl, rfl⟩ := H
 go_enter Try.func74, Try.ntmps74
 go_wp2_with (first | ((with_reducible refine fJ (N := 1) rfl ?_); refine eU ?hg (N := 1) ?hd (cs := #[.int .i64 dD, .int .u64 dH, .int .u64 dQ, .int .u64 dR, .int .u64 dO, .slice iV dN.length iW, .slice iR dK.length iT, .slice iC dJ.length iD, .slice iE dI.length iF]) (t := 29) ?hr ?_; (case hd => rfl); (case hg => rfl); (case hr => first | (go_simp; done) | (go_simp; rfl)); intro cO hg w33 hbox hb; have aV := ah (hbox); have vG := ah ((by rw [hg]; exact (aI (aX HB.out)) : w.heap.size ≤ cO)); have bZ := ah ((by rw [hg]; exact (aI (aX HB.out)) : w.heap.size ≤ cO)); replace HB := ah (aW (aX HB.out) hb); clear hb hbox hg) | ((with_reducible refine fJ (N := 2) rfl ?_); refine eU ?hg (N := 2) ?hd (cs := #[.int .i64 0, .int .u64 0, .int .u64 0, .int .u64 0, .int .u64 0, .slice none 0 0, .slice none 0 0, .slice none 0 0, .slice none 0 0]) (t := 55) ?hr ?_; (case hd => rfl); (case hg => rfl); (case hr => first | (go_simp; done) | (go_simp; rfl)); intro aJ hg w34 hbox hb; have aN := ah (hbox); have oM := ah ((by rw [hg]; exact (aI (by repeat (first | (with_reducible first | exact HB.out | apply ak | apply au | apply aC | refine aA ?_ bZ.out) | exact HB.out))) : w.heap.size ≤ aJ)); have bT := ah ((by rw [hg]; exact (aI (by repeat (first | (with_reducible first | exact HB.out | apply ak | apply au | apply aC | refine aA ?_ bZ.out) | exact HB.out))) : w.heap.size ≤ aJ)); have aQ := ah ((by rw [hg]; exact Nat.ne_of_lt (kL (g := cO) (o := .cells #[.int .i64 dD, .int .u64 dH, .int .u64 dQ, .int .u64 dR, .int .u64 dO, .slice iV dN.length iW, .slice iR dK.length iT, .slice iC dJ.length iD, .slice iE dI.length iF] 29 (0, 0)) (jP aV.out)) : cO ≠ aJ)); have fE := ah ((by rw [hg]; exact Nat.ne_of_gt (kL (g := cO) (o := .cells #[.int .i64 dD, .int .u64 dH, .int .u64 dQ, .int .u64 dR, .int .u64 dO, .slice iV dN.length iW, .slice iR dK.length iT, .slice iC dJ.length iD, .slice iE dI.length iF] 29 (0, 0)) (jP aV.out)) : aJ ≠ cO)); replace aV := ah (dX aV.out hb); replace HB := ah (aW (by repeat (first | (with_reducible first | exact HB.out | apply ak | apply au | apply aC | refine aA ?_ bZ.out) | exact HB.out)) hb); clear hb hbox hg; have afL := aQ.out; have afM := fE.out; have aco := ay aV.out; have acp := aG aV.out) | ((with_reducible refine bH (f := 31) rfl ?_); refine pV (some 6) rfl rfl Try.func31 (by kernel_rfl) rfl #[.agg #[.int .i64 dD, .int .u64 dH, .int .u64 dQ, .int .u64 dR, .int .u64 dO, .slice iV dN.length iW, .slice iR dK.length iT, .slice iC dJ.length iD, .slice iE dI.length iF]] rfl (by (try simp only [List.map_toArray, List.map_cons, List.map_nil]); first | done | rfl | (simp only [List.length_drop, List.length_take]; rfl)) ?_; (with_reducible refine (hist_Check.calls dD dH dQ dR dO _ _ dN _ _ dK _ _ dJ _ _ dI eG _ ?dw ?dA ?jr ?jv ?pJ ?pK ?pO ?pR A2.out).mono ?_); (case dw => exact Kd.jT (Kd.bM nH.out HB.out)); (case dA => exact nI.out); (case jr => exact Kd.jT (Kd.bM nZ.out HB.out)); (case jv => exact oh.out); (case pJ => exact Kd.jT (Kd.bM oV.out HB.out)); (case pK => exact oW.out); (case pO => exact Kd.jT (Kd.bM pG.out HB.out)); (case pR => exact pI.out); rintro e w37 ⟨rfl, hb⟩; refine ⟨_, rfl, ?_⟩; replace aV := ah (dX aV.out hb); replace aN := ah (dX aN.out hb); replace HB := ah (aW (by repeat (first | (with_reducible first | exact HB.out | apply ak | apply au | apply aC | refine aA ?_ bZ.out | refine aA ?_ bT.out) | exact HB.out)) hb); (try clear hb); (try clear hb2); (try clear hk); (try clear hi); clear A2; have Qd := ay aN.out; have Qe := aG aN.out))
 refine bodyPost_ret (gQ rfl _ _ aJ 55 #[.int .i64 0, .int .u64 0, .int .u64 0, .int .u64 0, .int .u64 0, .slice none 0 0, .slice none 0 0, .slice none 0 0, .slice none 0 0] (0, 0) _ rfl (by (repeat with_reducible refine bQ ?_); refine bC (cs := #[.int .i64 0, .int .u64 0, .int .u64 0, .int .u64 0, .int .u64 0, .slice none 0 0, .slice none 0 0, .slice none 0 0, .slice none 0 0]) ?_ 8 _ rfl; (repeat with_reducible refine bQ ?_); refine bC (cs := #[.int .i64 0, .int .u64 0, .int .u64 0, .int .u64 0, .int .u64 0, .slice none 0 0, .slice none 0 0, .slice none 0 0, .slice none 0 0]) ?_ 7 _ rfl; (repeat with_reducible refine bQ ?_); refine bC (cs := #[.int .i64 0, .int .u64 0, .int .u64 0, .int .u64 0, .int .u64 0, .slice none 0 0, .slice none 0 0, .slice none 0 0, .slice none 0 0]) ?_ 6 _ rfl; (repeat with_reducible refine bQ ?_); refine bC (cs := #[.int .i64 0, .int .u64 0, .int .u64 0, .int .u64 0, .int .u64 0, .slice none 0 0, .slice none 0 0, .slice none 0 0, .slice none 0 0]) ?_ 5 _ rfl; (repeat with_reducible refine bQ ?_); refine bC (cs := #[.int .i64 0, .int .u64 0, .int .u64 0, .int .u64 0, .int .u64 0, .slice none 0 0, .slice none 0 0, .slice none 0 0, .slice none 0 0]) ?_ 4 _ rfl; (repeat with_reducible refine bQ ?_); refine bC (cs := #[.int .i64 0, .int .u64 0, .int .u64 0, .int .u64 0, .int .u64 0, .slice none 0 0, .slice none 0 0, .slice none 0 0, .slice none 0 0]) ?_ 3 _ rfl; (repeat with_reducible refine bQ ?_); refine bC (cs := #[.int .i64 0, .int .u64 0, .int .u64 0, .int .u64 0, .int .u64 0, .slice none 0 0, .slice none 0 0, .slice none 0 0, .slice none 0 0]) ?_ 2 _ rfl; (repeat with_reducible refine bQ ?_); refine bC (cs := #[.int .i64 0, .int .u64 0, .int .u64 0, .int .u64 0, .int .u64 0, .slice none 0 0, .slice none 0 0, .slice none 0 0, .slice none 0 0]) ?_ 1 _ rfl; (repeat with_reducible refine bQ ?_); refine bC (cs := #[.int .i64 0, .int .u64 0, .int .u64 0, .int .u64 0, .int .u64 0, .slice none 0 0, .slice none 0 0, .slice none 0 0, .slice none 0 0]) ?_ 0 _ rfl; (repeat with_reducible refine bQ ?_); exact aN.out) Try.underlying55 rfl (by kernel_rfl)) rfl ?_
 exact ⟨_, _, _, _, by first | rfl | (simp [aT, aU] <;> rfl) | (simp [*, aT, aU] <;> rfl), by first | exact Kd.dY _ _ _ _ _ | exact Kd.gI _ _ _ _ _ | exact Kd.gJ _ _ _ _ _ | exact Kd.gB _ _ _ _ _ | exact Kd.gG _ _ _ _ _, by first | exact Kd.dY _ _ _ _ _ | exact Kd.gI _ _ _ _ _ | exact Kd.gJ _ _ _ _ _ | exact Kd.gB _ _ _ _ _ | exact Kd.gG _ _ _ _ _, by first | exact Kd.dY _ _ _ _ _ | exact Kd.gI _ _ _ _ _ | exact Kd.gJ _ _ _ _ _ | exact Kd.gB _ _ _ _ _ | exact Kd.gG _ _ _ _ _, by first | exact Kd.dY _ _ _ _ _ | exact Kd.gI _ _ _ _ _ | exact Kd.gJ _ _ _ _ _ | exact Kd.gB _ _ _ _ _ | exact Kd.gG _ _ _ _ _, by repeat (first | (with_reducible first | exact HB.out | apply ak | apply au | apply aC | refine aA ?_ bZ.out | refine aA ?_ bT.out) | exact HB.out)⟩
end Go.Proofs.Ytooiccpmngmapaa.P
namespace Go.Proofs.Ytooiccpmngmapaa.P
open Go.RowKit Go.Shelf Go.Proofs.YtooiccpmngmapaaW.PrintWords Go.Proofs.YtooiccpmngmapaaW.PrintLast Go.Proofs.YtooiccpmngmapaaW.PrintMore
theorem HI.aaH {w : World} {h : Hi} {x0 x1 x2 x3 x4 v5 v6 v7 v8 : Value} (hv : HI w (.agg #[x0, x1, x2, x3, x4, v5, v6, v7, v8]) h) : SI kSp w v5 h.f5 ∧ SI (Kd.int .i64) w v7 h.f7 := by
 obtain ⟨u5, u6, u7, u8, e, h5, h6, h7, h8⟩ := hv
 injection e with e
 have e5 := congrArg (fun a : Array Value => a.getD 5 undef) e
 have e7 := congrArg (fun a : Array Value => a.getD 7 undef) e
 simp at e5 e7
 rw [e5, e7]
 exact ⟨h5, h7⟩
def tC : Hi := ⟨1, 0, 0, 5, 0, [⟨3, 3⟩], [], [1, -1, 4], []⟩
def Xn : Hi := ⟨0, 0, 0, 5, 0, [⟨2, 2⟩], [], [1, 3], []⟩
theorem Yv : lM tC 0 = (Xn, 0) := by kernel_rfl
def Yw : Hi := ⟨0, 0, 0, 0, 0, [], [], [], []⟩
theorem Yx : lM tC 2 = (Yw, 21) := by kernel_rfl
theorem Yy : jD tC = 0 := by kernel_rfl
theorem CQ : yQ tC := by unfold yQ; decide
theorem CU (w : World) : Calls Try.prog 73 #[] w fun e w' => ∃ I7 I8 I9 Ja Jb Jc Jd Je, e = .returned (.agg #[.int .i64 1, .int .u64 0, .int .u64 0, .int .u64 5, .int .u64 0, .slice I7 1 I8, .slice I9 0 Ja, .slice Jb 3 Jc, .slice Jd 0 Je]) ∧ HI w' (.agg #[.int .i64 1, .int .u64 0, .int .u64 0, .int .u64 5, .int .u64 0, .slice I7 1 I8, .slice I9 0 Ja, .slice Jb 3 Jc, .slice Jd 0 Je]) tC ∧ Below w.heap.size w w' := by
 refine (tidepolelaw25_one.calls 1 0 0 5 0 [⟨3, 3⟩] [] [1, -1, 4] [] w (by kernel_rfl)).mono ?_
 rintro e w1 ⟨v5, v6, v7, v8, rfl, h5, h6, h7, h8, hb⟩
 have hi : HI w1 (.agg #[.int .i64 1, .int .u64 0, .int .u64 0, .int .u64 5, .int .u64 0, v5, v6, v7, v8]) tC := ⟨v5, v6, v7, v8, rfl, .qR h5, .qR h6, .qR h7, .qR h8⟩
 obtain ⟨a5, c5, a6, c6, a7, c7, a8, c8, e, -⟩ := hi.open_
 rw [e] at hi ⊢
 exact ⟨a5, c5, a6, c6, a7, c7, a8, c8, rfl, hi, hb⟩
theorem Uz (w : World) (v : Value) (hv : HI w v tC) : Calls Try.prog 27 #[v, .int .i64 0] w fun e w' => ∃ Yz hc5 YA hc6 YB UY YC hc8, e = .returned (.tuple #[.agg #[.int .i64 0, .int .u64 0, .int .u64 0, .int .u64 5, .int .u64 0, .slice Yz 1 hc5, .slice YA 0 hc6, .slice YB 2 UY, .slice YC 0 hc8], .int .i64 0]) ∧ HI w' (.agg #[.int .i64 0, .int .u64 0, .int .u64 0, .int .u64 5, .int .u64 0, .slice Yz 1 hc5, .slice YA 0 hc6, .slice YB 2 UY, .slice YC 0 hc8]) Xn ∧ Below w.heap.size w w' := by
 have hc := CG tC CQ 0 (by decide) w v hv
 rw [Yv] at hc
 refine hc.mono ?_
 rintro e w1 ⟨v', rfl, hh, hb⟩
 have hi := hh.now
 obtain ⟨a5, c5, a6, c6, a7, c7, a8, c8, e, -⟩ := hi.open_
 subst e
 exact ⟨a5, c5, a6, c6, a7, c7, a8, c8, rfl, hi, hb⟩
theorem UA (w : World) (v : Value) (hv : HI w v tC) : Calls Try.prog 27 #[v, .int .i64 2] w fun e w' => ∃ yA5 yc5 yA6 yc6 yA7 yc7 yA8 yc8, e = .returned (.tuple #[.agg #[.int .i64 0, .int .u64 0, .int .u64 0, .int .u64 0, .int .u64 0, .slice yA5 0 yc5, .slice yA6 0 yc6, .slice yA7 0 yc7, .slice yA8 0 yc8], .int .i64 21]) ∧ Below w.heap.size w w' := by
 have hc := CG tC CQ 2 (by decide) w v hv
 rw [Yx] at hc
 refine hc.mono ?_
 rintro e w1 ⟨v', rfl, hh, hb⟩
 have hi := hh.now
 obtain ⟨a5, c5, a6, c6, a7, c7, a8, c8, e, -⟩ := hi.open_
 subst e
 exact ⟨a5, c5, a6, c6, a7, c7, a8, c8, rfl, hb⟩
theorem OA (w : World) (I7 I9 Jb Jd : Option Addr) (I8 Ja Jc Je : Nat) : Calls Try.prog 76 #[.int .i64 7, .agg #[.int .i64 1, .int .u64 0, .int .u64 0, .int .u64 5, .int .u64 0, .slice I7 1 I8, .slice I9 0 Ja, .slice Jb 3 Jc, .slice Jd 0 Je]] w fun e w' => e = .returned (.agg #[.int .i64 7, .int .i64 0, .int .i64 1, .int .u64 0, .int .u64 0, .int .u64 5, .int .u64 0, .slice I7 1 I8, .slice I9 0 Ja, .slice Jb 3 Jc, .slice Jd 0 Je, .int .i64 0, .int .u64 0, .int .u64 0, .int .u64 0, .int .u64 0, .slice none 0 0, .slice none 0 0, .slice none 0 0, .slice none 0 0]) ∧ Below w.heap.size w w' :=
 CJ w 7 #[.int .i64 1, .int .u64 0, .int .u64 0, .int .u64 5, .int .u64 0, .slice I7 1 I8, .slice I9 0 Ja, .slice Jb 3 Jc, .slice Jd 0 Je] #[.int .i64 7, .int .i64 0, .int .i64 1, .int .u64 0, .int .u64 0, .int .u64 5, .int .u64 0, .slice I7 1 I8, .slice I9 0 Ja, .slice Jb 3 Jc, .slice Jd 0 Je, .int .i64 0, .int .u64 0, .int .u64 0, .int .u64 0, .int .u64 0, .slice none 0 0, .slice none 0 0, .slice none 0 0, .slice none 0 0] (by kernel_rfl) rfl (by kernel_rfl) rfl
theorem Xo (I7 I9 Jb Jd : Option Addr) (I8 Ja Jc Je : Nat) : ∀ j v, (#[.int .i64 1, .int .u64 0, .int .u64 0, .int .u64 5, .int .u64 0, .slice I7 1 I8, .slice I9 0 Ja, .slice Jb 3 Jc, .slice Jd 0 Je] : Array Value)[j]? = some v → (#[.int .i64 7, .int .i64 0, .int .i64 1, .int .u64 0, .int .u64 0, .int .u64 5, .int .u64 0, .slice I7 1 I8, .slice I9 0 Ja, .slice Jb 3 Jc, .slice Jd 0 Je, .int .i64 0, .int .u64 0, .int .u64 0, .int .u64 0, .int .u64 0, .slice none 0 0, .slice none 0 0, .slice none 0 0, .slice none 0 0] : Array Value)[2 + j]? = some v := by
 intro j v h
 match j, h with
 | 0, h => exact h
 | 1, h => exact h
 | 2, h => exact h
 | 3, h => exact h
 | 4, h => exact h
 | 5, h => exact h
 | 6, h => exact h
 | 7, h => exact h
 | 8, h => exact h
 | n + 9, h => simp at h
def aaI : Hi := ⟨-4, 0, 0, 5, 0, [⟨1, 1⟩], [], [5], []⟩
theorem YD : lM tC (-4) = (aaI, 0) := by kernel_rfl
theorem OB (w : World) (I7 I9 Jb Jd : Option Addr) (I8 Ja Jc Je : Nat) (hv : HI w (.agg #[.int .i64 1, .int .u64 0, .int .u64 0, .int .u64 5, .int .u64 0, .slice I7 1 I8, .slice I9 0 Ja, .slice Jb 3 Jc, .slice Jd 0 Je]) tC) : Calls Try.prog 75 #[.agg #[.int .i64 7, .int .i64 0, .int .i64 1, .int .u64 0, .int .u64 0, .int .u64 5, .int .u64 0, .slice I7 1 I8, .slice I9 0 Ja, .slice Jb 3 Jc, .slice Jd 0 Je, .int .i64 0, .int .u64 0, .int .u64 0, .int .u64 0, .int .u64 0, .slice none 0 0, .slice none 0 0, .slice none 0 0, .slice none 0 0], .int .i64 (-4)] w fun e w' => ∃ (S2 : Array Value) (Zu : Option Addr) (Zv : Nat), e = .returned (.tuple #[.agg S2, .int .i64 0]) ∧ S2.size = 20 ∧ S2.all (·.oneCell') = true ∧ S2[0]? = some (.int .i64 7) ∧ S2[9]? = some (.slice Zu 1 Zv) ∧ Below w.heap.size w w' := by
 refine (Ic w #[.int .i64 7, .int .i64 0, .int .i64 1, .int .u64 0, .int .u64 0, .int .u64 5, .int .u64 0, .slice I7 1 I8, .slice I9 0 Ja, .slice Jb 3 Jc, .slice Jd 0 Je, .int .i64 0, .int .u64 0, .int .u64 0, .int .u64 0, .int .u64 0, .slice none 0 0, .slice none 0 0, .slice none 0 0, .slice none 0 0] #[.int .i64 1, .int .u64 0, .int .u64 0, .int .u64 5, .int .u64 0, .slice I7 1 I8, .slice I9 0 Ja, .slice Jb 3 Jc, .slice Jd 0 Je] 7 (-4) (fun S2 _ => ∃ (Zu : Option Addr) (Zv : Nat), S2.size = 20 ∧ S2.all (·.oneCell') = true ∧ S2[0]? = some (.int .i64 7) ∧ S2[9]? = some (.slice Zu 1 Zv)) (fun _ _ _ h _ _ => h) rfl rfl (Xo I7 I9 Jb Jd I8 Ja Jc Je) rfl rfl ?_ ?_).mono ?_
 ·intro W hb
  refine Ib W #[.int .i64 7, .int .i64 0, .int .i64 1, .int .u64 0, .int .u64 0, .int .u64 5, .int .u64 0, .slice I7 1 I8, .slice I9 0 Ja, .slice Jb 3 Jc, .slice Jd 0 Je, .int .i64 0, .int .u64 0, .int .u64 0, .int .u64 0, .int .u64 0, .slice none 0 0, .slice none 0 0, .slice none 0 0, .slice none 0 0] #[.int .i64 1, .int .u64 0, .int .u64 0, .int .u64 5, .int .u64 0, .slice I7 1 I8, .slice I9 0 Ja, .slice Jb 3 Jc, .slice Jd 0 Je] 0 rfl (Xo I7 I9 Jb Jd I8 Ja Jc Je) rfl ?_
  intro W' hb'
  have HC := JW tC CQ _ _ ((hv.below hb).below hb')
  rw [Yy] at HC
  exact HC
 ·intro W hb
  have hv1 := hv.below hb
  have hc := CG tC CQ (-4) (by decide) W _ hv1
  rw [YD] at hc
  refine hc.mono ?_
  rintro e w1 ⟨v', rfl, hh, hb⟩
  obtain ⟨a5, d5, a6, d6, a7, d7, a8, d8, e, -⟩ := hh.now.open_
  subst e
  exact ⟨_, #[.int .i64 7, .int .i64 0, .int .i64 (-4), .int .u64 0, .int .u64 0, .int .u64 5, .int .u64 0, .slice a5 1 d5, .slice a6 0 d6, .slice a7 1 d7, .slice a8 0 d8, .int .i64 0, .int .u64 0, .int .u64 0, .int .u64 0, .int .u64 0, .slice none 0 0, .slice none 0 0, .slice none 0 0, .slice none 0 0], rfl, rfl, by kernel_rfl, by kernel_rfl, rfl, by kernel_rfl, ⟨_, _, rfl, by kernel_rfl, rfl, rfl⟩, hb⟩
 ·rintro e w1 ⟨S2, rfl, ⟨Zu, Zv, q1, q2, q3, q4⟩, hb⟩
  exact ⟨S2, Zu, Zv, rfl, q1, q2, q3, q4, hb⟩
theorem Rh (w : World) : Calls Try.prog 77 #[.int .i64 3, .int .i64 1] w fun e w' => e = .returned (.int .i64 2) ∧ Below w.heap.size w w' :=
 (scale_Place.calls 2 3 1 2 w (by kernel_rfl)).mono fun e w1 h => ⟨h.1, h.2.below⟩
theorem Ri (w : World) : Calls Try.prog 77 #[.int .i64 (-3), .int .i64 1] w fun e w' => e = .returned (.int .i64 (-1)) ∧ Below w.heap.size w w' :=
 (scale_Place.calls 2 (-3) 1 (-1) w (by kernel_rfl)).mono fun e w1 h => ⟨h.1, h.2.below⟩
def Dy : Fh := ⟨1, 0, 0, 4617315517961601024, 0, [⟨3, 3⟩], [], [4607182418800017408, 0, 4616189618054758400], []⟩
def UC : Fh := ⟨0, 0, 0, 4617315517961601024, 0, [⟨2, 2⟩], [], [4607182418800017408, 4616189618054758400], []⟩
theorem YE : fhist_From.f 1 0 0 5 0 [⟨3, 3⟩] [] [1, -1, 4] [] = some (1, 0, 0, 4617315517961601024, 0, [⟨3, 3⟩], [], [4607182418800017408, 0, 4616189618054758400], [], 0) := by kernel_rfl
theorem YF : EO Dy 0 = (UC, 0) := by kernel_rfl
theorem Rj : Q7 Dy := by unfold Q7; decide
theorem YG : scale_Fit.f 40 1 0 0 5 0 [⟨3, 3⟩] [] [1, -1, 4] [] 1 = some (-2, 0) := by kernel_rfl
theorem UD (w : World) (v : Value) (hv : HI w v tC) : Calls Try.prog 74 #[v] w fun e w' => ∃ YH YI YJ YK YL YM YN YO, e = .returned (.tuple #[.agg #[.int .i64 1, .int .u64 0, .int .u64 0, .int .u64 4617315517961601024, .int .u64 0, .slice YH 1 YI, .slice YJ 0 YK, .slice YL 3 YM, .slice YN 0 YO], .int .i64 0]) ∧ GI w' (.agg #[.int .i64 1, .int .u64 0, .int .u64 0, .int .u64 4617315517961601024, .int .u64 0, .slice YH 1 YI, .slice YJ 0 YK, .slice YL 3 YM, .slice YN 0 YO]) Dy ∧ Below w.heap.size w w' := by
 obtain ⟨A5, c5, A6, c6, A7, c7, A8, c8, rfl, ⟨_, _, e5, NY, NZ⟩, ⟨_, _, e6, N7, N8⟩, ⟨_, _, e7, N9, h72⟩, ⟨_, _, e8, Oa, Ob⟩⟩ := hv.open_
 cases e5; cases e6; cases e7; cases e8
 refine (fhist_From.calls 1 0 0 5 0 A5 c5 _ A6 c6 _ A7 c7 _ A8 c8 _ _ _ _ _ _ _ _ _ _ _ w NZ NY N8 N7 h72 N9 Ob Oa YE).mono ?_
 rintro e w1 ⟨v5, v6, v7, v8, rfl, h5, h6, h7, h8, hb⟩
 have hi : GI w1 (.agg #[.int .i64 1, .int .u64 0, .int .u64 0, .int .u64 4617315517961601024, .int .u64 0, v5, v6, v7, v8]) Dy := ⟨v5, v6, v7, v8, rfl, .qR h5, .qR h6, .qR h7, .qR h8⟩
 obtain ⟨a5, c5, a6, c6, a7, c7, a8, c8, e, -⟩ := hi.open_
 rw [e] at hi ⊢
 exact ⟨a5, c5, a6, c6, a7, c7, a8, c8, rfl, hi, hb⟩
theorem OC (w : World) (v : Value) (hv : GI w v Dy) : Calls Try.prog 33 #[v, .int .i64 0] w fun e w' => ∃ YP YQ YR YS YT YU xA8 YV, e = .returned (.tuple #[.agg #[.int .i64 0, .int .u64 0, .int .u64 0, .int .u64 4617315517961601024, .int .u64 0, .slice YP 1 YQ, .slice YR 0 YS, .slice YT 2 YU, .slice xA8 0 YV], .int .i64 0]) ∧ GI w' (.agg #[.int .i64 0, .int .u64 0, .int .u64 0, .int .u64 4617315517961601024, .int .u64 0, .slice YP 1 YQ, .slice YR 0 YS, .slice YT 2 YU, .slice xA8 0 YV]) UC ∧ Below w.heap.size w w' := by
 have hc := Uu Dy Rj 0 (by decide) w v hv
 rw [YF] at hc
 refine hc.mono ?_
 rintro e w1 ⟨v', rfl, hh, hb⟩
 have hi := hh.now
 obtain ⟨a5, c5, a6, c6, a7, c7, a8, c8, e, -⟩ := hi.open_
 subst e
 exact ⟨a5, c5, a6, c6, a7, c7, a8, c8, rfl, hi, hb⟩
theorem Wn (w : World) (v : Value) (hv : HI w v tC) : Calls Try.prog 38 #[v, .int .i64 1] w fun e w' => e = .returned (.tuple #[.int .i64 (-2), .int .i64 0]) ∧ Below w.heap.size w w' := by
 obtain ⟨A5, c5, A6, c6, A7, c7, A8, c8, rfl, ⟨_, _, e5, NY, NZ⟩, ⟨_, _, e6, N7, N8⟩, ⟨_, _, e7, N9, h72⟩, ⟨_, _, e8, Oa, Ob⟩⟩ := hv.open_
 cases e5; cases e6; cases e7; cases e8
 exact scale_Fit.calls 40 1 0 0 5 0 A5 c5 _ A6 c6 _ A7 c7 _ A8 c8 _ 1 _ _ w NZ NY N8 N7 h72 N9 Ob Oa YG
set_option maxHeartbeats 16000000 in
set_option maxRecDepth 100000 in
theorem Dz (w : World) : Calls Try.prog 26 #[] w fun e w' => e = .returned (.bool true) ∧ Below w.heap.size w w' := by
 have hu := Try.underlying29
 have hus := Try.underlying108
 have huf := Try.underlying55
 have hup := Try.underlying113
 go_enter Try.func26, Try.ntmps26
 go_wp2_with fail
 refine (CU w).mono ?_
 rintro e w1 ⟨I7, I8, I9, Ja, Jb, Jc, Jd, Je, rfl, hh, hb⟩
 have B := ah hb
 have O := ah hh
 clear hb hh
 go_wp2_with fail
 refine (Uz _ _ O.out).mono ?_
 rintro e w2 ⟨Yz, hc5, YA, hc6, YB, UY, YC, hc8, rfl, hh, hb⟩
 replace B := ah (aH B.out B.out.size hb)
 replace O := ah (O.out.below hb)
 have Hh := ah hh
 clear hb hh
 go_wp2_with fail
 refine (CU _).mono ?_
 rintro e w3 ⟨pA5, pc5, pA6, pc6, pA7, pc7, pA8, pc8, rfl, hh, hb⟩
 have hb0 := hb
 have hb := aH (ak (Below.refl w2.heap.size w2) (.cells #[.int .i64 0, .int .u64 0, .int .u64 0, .int .u64 5, .int .u64 0, .slice Yz 1 hc5, .slice YA 0 hc6, .slice YB 2 UY, .slice YC 0 hc8] 29)) ((ak (Below.refl w2.heap.size w2) (.cells #[.int .i64 0, .int .u64 0, .int .u64 0, .int .u64 5, .int .u64 0, .slice Yz 1 hc5, .slice YA 0 hc6, .slice YB 2 UY, .slice YC 0 hc8] 29))).size hb
 replace B := ah (aH B.out B.out.size hb)
 replace O := ah (O.out.below hb)
 replace Hh := ah (Hh.out.below hb)
 have T1 := ah (show qU w3 w2.heap.size #[.int .i64 0, .int .u64 0, .int .u64 0, .int .u64 5, .int .u64 0, .slice Yz 1 hc5, .slice YA 0 hc6, .slice YB 2 UY, .slice YC 0 hc8] 29 from (qU.new w2 #[.int .i64 0, .int .u64 0, .int .u64 0, .int .u64 5, .int .u64 0, .slice Yz 1 hc5, .slice YA 0 hc6, .slice YB 2 UY, .slice YC 0 hc8] 29).below hb0)
 have ht1 := fun i => T1.out.cell i
 have P := ah hh
 clear hb hb0 hh
 go_wp2_with fail
 refine (UD _ _ P.out).mono ?_
 rintro e w4 ⟨YH, YI, YJ, YK, YL, YM, YN, YO, rfl, hh, hb⟩
 replace B := ah (aH B.out B.out.size hb)
 replace O := ah (O.out.below hb)
 replace Hh := ah (Hh.out.below hb)
 replace P := ah (P.out.below hb)
 replace T1 := ah (T1.out.below hb)
 replace ht1 := fun i => T1.out.cell i
 have Ff := ah hh
 clear hb hh
 have ht3 := fun i => (qU.new w4 #[.int .i64 1, .int .u64 0, .int .u64 0, .int .u64 4617315517961601024, .int .u64 0, .slice YH 1 YI, .slice YJ 0 YK, .slice YL 3 YM, .slice YN 0 YO] 55).cell i
 go_wp2_with fail
 refine (OC _ _ (Ff.out.below (ak (Below.refl w4.heap.size w4) (.cells #[.int .i64 1, .int .u64 0, .int .u64 0, .int .u64 4617315517961601024, .int .u64 0, .slice YH 1 YI, .slice YJ 0 YK, .slice YL 3 YM, .slice YN 0 YO] 55)))).mono ?_
 rintro e w5 ⟨YP, YQ, YR, YS, YT, YU, xA8, YV, rfl, hh, hb⟩
 have hb0 := hb
 have hb := aH (ak (Below.refl w4.heap.size w4) (.cells #[.int .i64 1, .int .u64 0, .int .u64 0, .int .u64 4617315517961601024, .int .u64 0, .slice YH 1 YI, .slice YJ 0 YK, .slice YL 3 YM, .slice YN 0 YO] 55)) ((ak (Below.refl w4.heap.size w4) (.cells #[.int .i64 1, .int .u64 0, .int .u64 0, .int .u64 4617315517961601024, .int .u64 0, .slice YH 1 YI, .slice YJ 0 YK, .slice YL 3 YM, .slice YN 0 YO] 55))).size hb
 replace B := ah (aH B.out B.out.size hb)
 replace O := ah (O.out.below hb)
 replace Hh := ah (Hh.out.below hb)
 replace P := ah (P.out.below hb)
 replace Ff := ah (Ff.out.below hb)
 replace T1 := ah (T1.out.below hb)
 replace ht1 := fun i => T1.out.cell i
 clear hb hb0
 clear hh ht3
 go_wp2_with fail
 refine (CU _).mono ?_
 rintro e w6 ⟨qA5, qc5, qA6, qc6, qA7, qc7, qA8, qc8, rfl, hh, hb⟩
 have hb0 := hb
 have hb := aH (ak (Below.refl w5.heap.size w5) (.cells #[.int .i64 0, .int .u64 0, .int .u64 0, .int .u64 4617315517961601024, .int .u64 0, .slice YP 1 YQ, .slice YR 0 YS, .slice YT 2 YU, .slice xA8 0 YV] 55)) ((ak (Below.refl w5.heap.size w5) (.cells #[.int .i64 0, .int .u64 0, .int .u64 0, .int .u64 4617315517961601024, .int .u64 0, .slice YP 1 YQ, .slice YR 0 YS, .slice YT 2 YU, .slice xA8 0 YV] 55))).size hb
 replace B := ah (aH B.out B.out.size hb)
 replace O := ah (O.out.below hb)
 replace Hh := ah (Hh.out.below hb)
 replace P := ah (P.out.below hb)
 replace Ff := ah (Ff.out.below hb)
 replace T1 := ah (T1.out.below hb)
 replace ht1 := fun i => T1.out.cell i
 have T5 := ah (show qU w6 w5.heap.size #[.int .i64 0, .int .u64 0, .int .u64 0, .int .u64 4617315517961601024, .int .u64 0, .slice YP 1 YQ, .slice YR 0 YS, .slice YT 2 YU, .slice xA8 0 YV] 55 from (qU.new w5 #[.int .i64 0, .int .u64 0, .int .u64 0, .int .u64 4617315517961601024, .int .u64 0, .slice YP 1 YQ, .slice YR 0 YS, .slice YT 2 YU, .slice xA8 0 YV] 55).below hb0)
 have Zw := fun i => T5.out.cell i
 have Q := ah hh
 clear hb hb0 hh
 go_wp2_with fail
 refine (UA _ _ Q.out).mono ?_
 rintro e w7 ⟨yA5, yc5, yA6, yc6, yA7, yc7, yA8, yc8, rfl, hb⟩
 replace B := ah (aH B.out B.out.size hb)
 replace O := ah (O.out.below hb)
 replace Hh := ah (Hh.out.below hb)
 replace P := ah (P.out.below hb)
 replace Ff := ah (Ff.out.below hb)
 replace Q := ah (Q.out.below hb)
 replace T1 := ah (T1.out.below hb)
 replace ht1 := fun i => T1.out.cell i
 replace T5 := ah (T5.out.below hb)
 replace Zw := fun i => T5.out.cell i
 clear hb
 go_wp2_with fail
 refine (CU _).mono ?_
 rintro e w8 ⟨rA5, rc5, rA6, rc6, rA7, rc7, rA8, rc8, rfl, hh, hb⟩
 have hb0 := hb
 have hb := aH (ak (Below.refl w7.heap.size w7) (.cells #[.int .i64 0, .int .u64 0, .int .u64 0, .int .u64 0, .int .u64 0, .slice yA5 0 yc5, .slice yA6 0 yc6, .slice yA7 0 yc7, .slice yA8 0 yc8] 29)) ((ak (Below.refl w7.heap.size w7) (.cells #[.int .i64 0, .int .u64 0, .int .u64 0, .int .u64 0, .int .u64 0, .slice yA5 0 yc5, .slice yA6 0 yc6, .slice yA7 0 yc7, .slice yA8 0 yc8] 29))).size hb
 replace B := ah (aH B.out B.out.size hb)
 replace O := ah (O.out.below hb)
 replace Hh := ah (Hh.out.below hb)
 replace P := ah (P.out.below hb)
 replace Ff := ah (Ff.out.below hb)
 replace Q := ah (Q.out.below hb)
 replace T1 := ah (T1.out.below hb)
 replace ht1 := fun i => T1.out.cell i
 replace T5 := ah (T5.out.below hb)
 replace Zw := fun i => T5.out.cell i
 have R := ah hh
 clear hb hb0 hh
 go_wp2_with fail
 refine (OA _ rA5 rA6 rA7 rA8 rc5 rc6 rc7 rc8).mono ?_
 rintro e w9 ⟨rfl, hb⟩
 replace B := ah (aH B.out B.out.size hb)
 replace O := ah (O.out.below hb)
 replace Hh := ah (Hh.out.below hb)
 replace P := ah (P.out.below hb)
 replace Ff := ah (Ff.out.below hb)
 replace Q := ah (Q.out.below hb)
 replace R := ah (R.out.below hb)
 replace T1 := ah (T1.out.below hb)
 replace ht1 := fun i => T1.out.cell i
 replace T5 := ah (T5.out.below hb)
 replace Zw := fun i => T5.out.cell i
 clear hb
 go_wp2_with fail
 refine (OB _ rA5 rA6 rA7 rA8 rc5 rc6 rc7 rc8 R.out).mono ?_
 rintro e w10 ⟨S2, Zu, Zv, rfl, q1, q2, q3, q4, hb⟩
 replace B := ah (aH B.out B.out.size hb)
 replace O := ah (O.out.below hb)
 replace Hh := ah (Hh.out.below hb)
 replace P := ah (P.out.below hb)
 replace Ff := ah (Ff.out.below hb)
 replace Q := ah (Q.out.below hb)
 replace R := ah (R.out.below hb)
 replace T1 := ah (T1.out.below hb)
 replace ht1 := fun i => T1.out.cell i
 replace T5 := ah (T5.out.below hb)
 replace Zw := fun i => T5.out.cell i
 clear hb
 have Q1 := ah q1
 have Q2 := ah q2
 clear q1 q2
 have N1 := ah (heap_alloc_new w10 (.cells #[.int .i64 0, .int .i64 0, .int .i64 0, .int .u64 0, .int .u64 0, .int .u64 0, .int .u64 0, .slice none 0 0, .slice none 0 0, .slice none 0 0, .slice none 0 0, .int .i64 0, .int .u64 0, .int .u64 0, .int .u64 0, .int .u64 0, .slice none 0 0, .slice none 0 0, .slice none 0 0, .slice none 0 0] 108))
 go_wp2_with (refine wpList_store_row rfl 108 (.tmp 9) (.tmp 37) rfl w10.heap.size S2 rfl rfl 108 _ N1.out (by rw [Q1.out]; kernel_rfl) (by rw [Q1.out]; rfl) Q2.out ?_; rw [World.setRow_alloc_new])
 refine (CU _).mono ?_
 rintro e VE ⟨uA5, uc5, uA6, uc6, uA7, uc7, uA8, uc8, rfl, hh, hb⟩
 have hb0 := hb
 have hb := aH (ak (Below.refl w10.heap.size w10) (.cells S2 108)) ((ak (Below.refl w10.heap.size w10) (.cells S2 108))).size hb
 replace B := ah (aH B.out B.out.size hb)
 replace O := ah (O.out.below hb)
 replace Hh := ah (Hh.out.below hb)
 replace P := ah (P.out.below hb)
 replace Ff := ah (Ff.out.below hb)
 replace Q := ah (Q.out.below hb)
 replace R := ah (R.out.below hb)
 replace T1 := ah (T1.out.below hb)
 replace ht1 := fun i => T1.out.cell i
 replace T5 := ah (T5.out.below hb)
 replace Zw := fun i => T5.out.cell i
 have T9 := ah (show qU VE w10.heap.size S2 108 from (qU.new w10 S2 108).below hb0)
 have ht9 := fun i => T9.out.cell i
 have U := ah hh
 clear hb hb0 hh
 go_wp2_with fail
 refine (Wn _ _ U.out).mono ?_
 rintro e w12 ⟨rfl, hb⟩
 replace B := ah (aH B.out B.out.size hb)
 replace O := ah (O.out.below hb)
 replace Hh := ah (Hh.out.below hb)
 replace P := ah (P.out.below hb)
 replace Ff := ah (Ff.out.below hb)
 replace Q := ah (Q.out.below hb)
 replace R := ah (R.out.below hb)
 replace U := ah (U.out.below hb)
 replace T1 := ah (T1.out.below hb)
 replace ht1 := fun i => T1.out.cell i
 replace T5 := ah (T5.out.below hb)
 replace Zw := fun i => T5.out.cell i
 replace T9 := ah (T9.out.below hb)
 replace ht9 := fun i => T9.out.cell i
 clear hb
 obtain ⟨_, _, e5, _, hC5⟩ := (HI.aaH Hh.out).1
 cases e5
 obtain ⟨ad5, e1, hx0, hx1⟩ := pU hC5 0 (by decide) (by decide)
 subst e1
 obtain ⟨_, _, e7, _, hC7⟩ := (HI.aaH Hh.out).2
 cases e7
 obtain ⟨ad7, e2, hx7⟩ := Kd.fA hC7 1 (by decide) (by decide)
 subst e2
 have hx0' : w12.cell? ad5 = some (.int .i64 2) := hx0
 have hx7' : w12.cell? ⟨ad7.block, ad7.off + 1, none⟩ = some (.int .i64 3) := hx7
 have PA := ah Rh
 have PB := ah Ri
 go_wp2_with (first | (go_at_call 77; (with_reducible first | refine (PA.out _).mono ?_ | refine (PB.out _).mono ?_); rintro e w20 ⟨rfl, hb⟩; replace B := ah (aH B.out B.out.size hb); clear hb))
 go_ret
 exact ⟨rfl, B.out⟩
theorem OD {g : Hi} (hw : yQ g) (c1 : uH g = 0) {p n : List Pr} (rp : RowOK p) (rn : RowOK n) (bp : ∀ q ∈ p, -1048576 ≤ q.f0 ∧ q.f0 ≤ 1048576) (bn : ∀ q ∈ n, -1048576 ≤ q.f0 ∧ q.f0 ≤ 1048576) (lp : p.length ≤ 1024) (ln : n.length ≤ 1024) (hf : fits g.f2 g.f3 g.f4 p n = true) :
  ∃ c : Hi, vC g p n = (c, 0) ∧ jD c = 0 ∧ iy c = (p, n, 0) ∧ Cb c g ∧ yQ c ∧ c.f7.length = p.length ∧ c.f8.length = n.length ∧ uq true c.f5 = true ∧ uq true c.f6 = true ∧ c = wM g p n := by
 obtain ⟨dp, e1, e2, e3, e4, e5, e6⟩ := Ul rp bp lp
 obtain ⟨dn, g1, g2, g3, g4, g5, g6⟩ := Ul rn bn ln
 have hmade : wM g p n = ⟨g.f0, g.f1, g.f2, g.f3, g.f4, spansOf (p.map (·.f0)), spansOf (n.map (·.f0)), dp, dn⟩ := by unfold wM; rw [e1, g1]
 have hmw := F5 hw rp.wf rn.wf
 have hm' := hmade
 rw [hmade] at hmw
 generalize hC : (⟨g.f0, g.f1, g.f2, g.f3, g.f4, spansOf (p.map (·.f0)), spansOf (n.map (·.f0)), dp, dn⟩ : Hi) = c at *
 have hck : jD c = 0 := by
  subst hC
  refine Cm c1 (by simp only [e2]) (by simp only [g2]) ?_
  simp only [e2, g2]
  exact hf
 have hoc : iy c = (p, n, 0) := by
  rw [yY hck]
  subst hC
  simp only [e2, g2]
 refine ⟨c, ?_, hck, hoc, by subst hC; exact ⟨rfl, rfl, rfl, rfl, rfl⟩, hmw, by subst hC; exact e5, by subst hC; exact g5, by subst hC; exact e3, by subst hC; exact g3, hm'.symm⟩
 unfold vC
 rw [e1, g1, hmade]
 simp [hck]
theorem zu {h : Hi} (hw : yQ h) (hc : jD h = 0) : RowOK (iy h).1 ∧ RowOK (iy h).2.1 ∧ (∀ q ∈ (iy h).1, -1048576 ≤ q.f0 ∧ q.f0 ≤ 1048576) ∧ (∀ q ∈ (iy h).2.1, -1048576 ≤ q.f0 ∧ q.f0 ≤ 1048576) ∧ (iy h).1.length = h.f7.length ∧ (iy h).2.1.length = h.f8.length ∧ fits h.f2 h.f3 h.f4 (iy h).1 (iy h).2.1 = true ∧ uH h = 0 := by
 obtain ⟨z1, z2, z3, z4⟩ := zl hc
 obtain ⟨a, b⟩ := zY hw
 have ho := yY hc
 have b5 := vV z2
 have b6 := vV z3
 refine ⟨a, b, ?_, ?_, ?_, ?_, ?_, z1⟩
 ·rw [ho]; exact b5.1
 ·rw [ho]; exact b6.1
 ·rw [ho]; exact b5.2.1
 ·rw [ho]; exact b6.2.1
 ·rw [ho]; exact z4
theorem qj {s : Int} {l r : List Pr} (h : RowOK l) (hr : kG s l = some r) (hb : ∀ q ∈ l, -1048576 ≤ q.f0 ∧ q.f0 ≤ 1048576) : ∀ q ∈ r, -1048576 ≤ q.f0 ∧ q.f0 ≤ 1048576 := by
 intro q hq
 obtain ⟨q', hq', e⟩ := (lq h hr).2.2.2 q hq
 rw [e]
 exact J6 (by omega) (hb q' hq').1 (hb q' hq').2
theorem Rk {h : Hi} (hw : yQ h) (hc : jD h = 0) (h7 : h.f7.length ≤ 1024) (h8 : h.f8.length ≤ 1024) {tt : Int} (ht0 : -4 ≤ tt) (ht1 : tt ≤ h.f0) {p n : List Pr} (hp : kG (h.f0 - tt) (iy h).1 = some p) (hn : kG (h.f0 - tt) (iy h).2.1 = some n) :
  ∃ c : Hi, lM h tt = (c, 0) ∧ jD c = 0 ∧ iy c = (jq p, jq n, 0) ∧ Cb c (wP h tt) ∧ yQ c ∧ c.f7.length = (jq p).length ∧ c.f8.length = (jq n).length ∧ uq true c.f5 = true ∧ uq true c.f6 = true ∧ c = wM (wP h tt) (jq p) (jq n) := by
 obtain ⟨r1, r2, b1, b2, l1, l2, hf, hd⟩ := zu hw hc
 have hs := rX hc
 obtain ⟨w1, w2, w3, w4⟩ := lq r1 hp
 obtain ⟨v1, v2, v3, v4⟩ := lq r2 hn
 have lp : (jq p).length ≤ p.length := List.length_filter_le _ _
 have ln : (jq n).length ≤ n.length := List.length_filter_le _ _
 have hwl : yQ (wP h tt) := by
  obtain ⟨_, w⟩ := hw
  exact ⟨by show i64 tt; unfold i64; omega, w⟩
 have hdl : uH (wP h tt) = 0 := by
  unfold uH at hd ⊢
  rw [if_neg (by show ¬ (tt < -4 ∨ tt > 8); omega)]
  rw [if_neg (by omega)] at hd
  exact hd
 have hfl : fits (wP h tt).f2 (wP h tt).f3 (wP h tt).f4 (jq p) (jq n) = true := by
  rw [GH _ _ _ ((uK p).trans w3) ((uK n).trans v3)]; exact hf
 obtain ⟨c, m, rest⟩ := OD hwl hdl (sO w1) (sO v1) (fun q hq => qj r1 hp b1 q (List.mem_filter.1 hq).1) (fun q hq => qj r2 hn b2 q (List.mem_filter.1 hq).1) (by omega) (by omega) hfl
 refine ⟨c, ?_, rest⟩
 unfold lM
 rw [if_neg (by simp [hc]), if_neg (by omega), hp, hn]
 exact m
theorem Wp {h : Hi} {tt : Int} (he : (lM h tt).2 = 0) : jD h = 0 ∧ -4 ≤ tt ∧ tt ≤ h.f0 ∧ ∃ p n, kG (h.f0 - tt) (iy h).1 = some p ∧ kG (h.f0 - tt) (iy h).2.1 = some n := by
  unfold lM at he
  by_cases hc : jD h = 0
  rotate_left
  · rw [if_pos hc] at he; exact absurd he hc
  rw [if_neg (by simp [hc])] at he
  by_cases ht : tt < -4 ∨ tt > h.f0
  · rw [if_pos ht] at he; cases he
  rw [if_neg ht] at he
  refine ⟨hc, by omega, by omega, ?_⟩
  cases hp : kG (h.f0 - tt) (iy h).1 with
  | none => rw [hp] at he; cases he
  | some p =>
    cases hn : kG (h.f0 - tt) (iy h).2.1 with
    | none => rw [hp, hn] at he; cases he
    | some n => exact ⟨p, n, rfl, rfl⟩
def vX (P : Int → Bool) : List Pr → Int
 | [] => 0
 | p :: t => (if P p.f0 = true then p.f1 else 0) + vX P t
def mV (s q : Int) (l : List Pr) : Int := vX (fun i => decide (fQ i s = q)) l
theorem xX (P : Int → Bool) : ∀ (l : List Pr), (∀ p ∈ l, 0 ≤ p.f1) → 0 ≤ vX P l
  | [], _ => Int.le_refl 0
  | p :: t, h => by
    have h1 := h p (by simp)
    have h2 := xX P t (fun q hq => h q (List.mem_cons_of_mem _ hq))
    rw [vX]
    split <;> omega
theorem AV (P : Int → Bool) : ∀ (l : List Pr), (∀ p ∈ l, P p.f0 = false) → vX P l = 0
  | [], _ => rfl
  | p :: t, h => by
    rw [vX, AV P t (fun q hq => h q (List.mem_cons_of_mem _ hq)), h p (by simp)]
    rfl
theorem OE (p : Int) : lookPr [] p = 0 := rfl
theorem Ko (s q : Int) : ∀ (l : List Pr) (cur : Pr) (r : List Pr), kK s cur l = some r → Dc (fun p : Pr => p.f0) l → (∀ x ∈ l, cur.f0 ≤ fQ x.f0 s) → lookPr r q = (if cur.f0 = q then cur.f1 else 0) + mV s q l := by
  intro l
  induction l with
  | nil =>
    intro cur r h _ _
    cases h
    rw [DZ, OE]
    simp [mV, vX]
  | cons p t ih =>
    intro cur r h hu hle
    have hm : ∀ x ∈ t, fQ p.f0 s ≤ fQ x.f0 s := fun x hx => xQ (Int.le_of_lt (hu.head x hx))
    have hp := hle p (by simp)
    simp only [kK] at h
    unfold mV at *
    rw [vX]
    split at h
    · rename_i he
      split at h
      · have := ih _ _ h hu.tail (fun x hx => hle x (List.mem_cons_of_mem _ hx))
        rw [this, he]
        simp only [decide_eq_true_eq]
        split <;> omega
      · cases h
    · rename_i he
      cases hr : kK s ⟨fQ p.f0 s, p.f1⟩ t with
      | none => rw [hr] at h; cases h
      | some r' =>
        rw [hr] at h
        cases h
        have := ih _ _ hr hu.tail hm
        rw [DZ, this]
        simp only [decide_eq_true_eq]
        by_cases hq : cur.f0 = q
        · rw [if_pos hq, if_pos hq, if_neg (by omega), AV _ t (fun x hx => by have := hm x hx; simp; omega)]
          omega
        · rw [if_neg hq, if_neg hq]
          omega
theorem Eb {s : Int} {l r : List Pr} (h : kG s l = some r) (hu : Dc (fun p : Pr => p.f0) l) (q : Int) : lookPr r q = mV s q l := by
  cases l with
  | nil => cases h; rfl
  | cons p t =>
    have := Ko s q t ⟨fQ p.f0 s, p.f1⟩ r h hu.tail (fun x hx => xQ (Int.le_of_lt (hu.head x hx)))
    rw [this]
    unfold mV
    rw [vX]
    simp only [decide_eq_true_eq]
theorem Kq (s : Int) : ∀ (l : List Pr) (cur : Pr), kK s cur l = none → (∀ p ∈ l, 0 ≤ p.f1) → 0 ≤ cur.f1 → ∃ q, 9223372036854775807 < (if cur.f0 = q then cur.f1 else 0) + mV s q l := by
  intro l
  induction l with
  | nil => intro cur h; cases h
  | cons p t ih =>
    intro cur h hn h0
    have hp := hn p (by simp)
    have hn' : ∀ q ∈ t, 0 ≤ q.f1 := fun q hq => hn q (List.mem_cons_of_mem _ hq)
    simp only [kK] at h
    unfold mV at *
    split at h
    · rename_i he
      split at h
      · obtain ⟨q, hq⟩ := ih _ h hn' (by show 0 ≤ cur.f1 + p.f1; omega)
        refine ⟨q, ?_⟩
        rw [vX.eq_2, he]
        simp only [decide_eq_true_eq] at hq ⊢
        split <;> split at hq <;> omega
      · rename_i ho
        refine ⟨cur.f0, ?_⟩
        have := xX (fun i => decide (fQ i s = cur.f0)) t hn'
        rw [vX.eq_2, he, if_pos rfl]
        simp only [decide_true, if_true]
        omega
    · rename_i he
      cases hr : kK s ⟨fQ p.f0 s, p.f1⟩ t with
      | some r' => rw [hr] at h; cases h
      | none =>
        obtain ⟨q, hq⟩ := ih _ hr hn' hp
        refine ⟨q, ?_⟩
        rw [vX.eq_2]
        simp only [decide_eq_true_eq] at hq ⊢
        split <;> omega
theorem MS {s : Int} {l : List Pr} (hr : RowOK l) : kG s l = none ↔ ∃ q, 9223372036854775807 < mV s q l := by
  constructor
  · intro h
    cases l with
    | nil => cases h
    | cons p t =>
      obtain ⟨q, hq⟩ := Kq s t _ h (fun x hx => (hr.cnt x (List.mem_cons_of_mem _ hx)).2.1) (hr.cnt p (by simp)).2.1
      refine ⟨q, ?_⟩
      unfold mV at hq ⊢
      rw [vX.eq_2]
      simp only [decide_eq_true_eq] at hq ⊢
      exact hq
  · rintro ⟨q, hq⟩
    cases h : kG s l with
    | none => rfl
    | some r =>
      obtain ⟨rr, _⟩ := lq hr h
      rw [← Eb h hr.ups] at hq
      rcases VL (key := fun q : Pr => q.f0) (val := fun q : Pr => q.f1) r q with ⟨x, hx, -, e⟩ | ⟨-, e⟩
      · have := (rr.cnt x hx).2.2
        unfold lookPr at hq
        omega
      · unfold lookPr at hq
        omega
theorem xY {h : Hi} (hc : jD h = 0) (tt : Int) : lM h tt = if tt < -4 ∨ tt > h.f0 then (qH, 21)
 else match kG (h.f0 - tt) (iy h).1, kG (h.f0 - tt) (iy h).2.1 with
  | some p, some n => vC (wP h tt) (jq p) (jq n)
  | _, _ => (qH, 28) := by
 unfold lM
 rw [if_neg (by simp [hc])]
 rfl
structure Lens (x : Hi) : Prop where
 wf : yQ x
 l5 : x.f5.length ≤ 1024
 l6 : x.f6.length ≤ 1024
 l7 : x.f7.length ≤ 4096
 l8 : x.f8.length ≤ 4096
theorem OG {x : Hi} (hw : yQ x) (hc : jD x = 0) : Lens x := by
 obtain ⟨-, z2, z3, -⟩ := zl hc
 obtain ⟨-, a1, a2, a3⟩ := vV z2
 obtain ⟨-, b1, b2, b3⟩ := vV z3
 have a4 := pW a3
 have b4 := pW b3
 rw [← a2, List.length_map] at a4
 rw [← b2, List.length_map] at b4
 exact ⟨hw, (jW a3).1, (jW b3).1, by omega, by omega⟩
theorem rM : Lens qH := ⟨by unfold yQ; decide, by decide, by decide, by decide, by decide⟩
theorem OH {g : Hi} {p n : List Pr} (hw : yQ g) (hp : uF p) (hn : uF n) : Lens (vC g p n).1 := by
 unfold vC
 split
 ·exact rM
 split
 ·exact rM
 split
 ·exact rM
 ·rename_i h
  exact OG (F5 hw hp hn) (by simpa using h)
theorem YW {h : Hi} {tt : Int} (hw : yQ h) (ht : i64 tt) : yQ (wP h tt) := by
 obtain ⟨_, w⟩ := hw
 exact ⟨ht, w⟩
theorem MV {h : Hi} {tt : Int} (hw : yQ h) (ht : i64 tt) : Lens (lM h tt).1 := by
 have ra := zY hw
 unfold lM
 split
 ·exact rM
 split
 ·exact rM
 split
 ·rename_i p n hp hn
  exact OH (YW hw ht) (sO (lq ra.1 hp).1).wf (sO (lq ra.2 hn).1).wf
 ·exact rM
theorem OI (l : List fD) (hl : l.length < 4398046511104) : tidepoleref06_Span.f (l.length + 1) l l = some true := by
  have hgo : ∀ (d i : Nat), l.length - i = d → i ≤ l.length → tidepoleref06_Span.l0 (d + 1) l l (l.length : Int) (i : Int) = some true := by
    intro d
    induction d with
    | zero => intro i hd hi; rw [tidepoleref06_Span.l0, if_neg (by omega)]
    | succ d ih =>
      intro i hd hi
      rw [tidepoleref06_Span.l0, if_pos (by omega), if_pos (by omega), if_pos (by omega), if_pos (by omega), if_neg (by simp), wrap_succ (by omega)]
      exact ih (i + 1) (by omega) (by omega)
  unfold tidepoleref06_Span.f
  rw [if_pos rfl]
  exact hgo l.length 0 (by omega) (by omega)
theorem OJ (l : List Int) (hl : l.length < 4398046511104) : tidepolelaw25_same_int64.f (l.length + 1) l l = some true := by
  have hgo : ∀ (d i : Nat), l.length - i = d → i ≤ l.length → tidepolelaw25_same_int64.l0 (d + 1) l l (l.length : Int) (i : Int) = some true := by
    intro d
    induction d with
    | zero => intro i hd hi; rw [tidepolelaw25_same_int64.l0, if_neg (by omega)]
    | succ d ih =>
      intro i hd hi
      rw [tidepolelaw25_same_int64.l0, if_pos (by omega), if_pos (by omega), if_pos (by omega), if_pos (by omega), if_pos rfl, wrap_succ (by omega)]
      exact ih (i + 1) (by omega) (by omega)
  unfold tidepolelaw25_same_int64.f
  rw [if_pos rfl]
  exact hgo l.length 0 (by omega) (by omega)
theorem Jf (l : List fD) (hl : l.length < 4398046511104) (w : World) (u v : Value) (hu : SI kRsp w u l) (hv : SI kRsp w v l) : Calls Try.prog 88 #[u, v] w fun e w' => e = .returned (.bool true) ∧ Below w.heap.size w w' := by
 obtain ⟨A, c, rfl, hc, hr⟩ := hu
 obtain ⟨B, d, rfl, hd, hs⟩ := hv
 exact (tidepoleref06_Span.calls _ A c l B d l true w hr hc hs hd (OI l hl)).mono fun e w1 h => ⟨h.1, h.2.below⟩
theorem Jg (l : List Int) (hl : l.length < 4398046511104) (w : World) (u v : Value) (hu : SI (Kd.int .i64) w u l) (hv : SI (Kd.int .i64) w v l) : Calls Try.prog 89 #[u, v] w fun e w' => e = .returned (.bool true) ∧ Below w.heap.size w w' := by
 obtain ⟨A, c, rfl, hc, hr⟩ := hu
 obtain ⟨B, d, rfl, hd, hs⟩ := hv
 exact (tidepolelaw25_same_int64.calls _ A c l B d l true w hr hc hs hd (OJ l hl)).mono fun e w1 h => ⟨h.1, h.2.below⟩
set_option maxHeartbeats 32000000 in
set_option maxRecDepth 100000 in
theorem OL (h : Hi) (l5 : h.f5.length < 4398046511104) (l6 : h.f6.length < 4398046511104) (l7 : h.f7.length < 4398046511104) (l8 : h.f8.length < 4398046511104) (w : World) (u v : Value) (hu : HI w u h) (hv : HR w v h) :
  Calls Try.prog 30 #[u, v] w fun e w' => e = .returned (.bool true) ∧ Below w.heap.size w w' := by
 have hud := Try.underlying29
 have hur := Try.underlying41
 obtain ⟨A5a, c5a, A6a, c6a, A7a, c7a, A8a, c8a, e, s5, s6, s7, s8⟩ := hu.open_
 subst e
 obtain ⟨A5b, c5b, A6b, c6b, A7b, c7b, A8b, c8b, e, t5, t6, t7, t8⟩ := hv.open_
 subst e
 have P5 := ah (IV h.f5 (by omega))
 have P6 := ah (IV h.f6 (by omega))
 have E5 := ah (Jf (h.f5.map toR) (by rw [List.length_map]; exact l5))
 have E6 := ah (Jf (h.f6.map toR) (by rw [List.length_map]; exact l6))
 have E7 := ah (Jg h.f7 l7)
 have E8 := ah (Jg h.f8 l8)
 have hb := ak (ak (Below.refl w.heap.size w) (.cells #[.int .i64 h.f0, .int .u64 h.f1, .int .u64 h.f2, .int .u64 h.f3, .int .u64 h.f4, .slice A5a h.f5.length c5a, .slice A6a h.f6.length c6a, .slice A7a h.f7.length c7a, .slice A8a h.f8.length c8a] 29)) (.cells #[.int .i64 h.f0, .int .u64 h.f1, .int .u64 h.f2, .int .u64 h.f3, .int .u64 h.f4, .slice A5b h.f5.length c5b, .slice A6b h.f6.length c6b, .slice A7b h.f7.length c7b, .slice A8b h.f8.length c8b] 41)
 have S5 := ah (s5.below hb)
 have S6 := ah (s6.below hb)
 have S7 := ah (s7.below hb)
 have S8 := ah (s8.below hb)
 have T5 := ah (t5.below hb)
 have T6 := ah (t6.below hb)
 have T7 := ah (t7.below hb)
 have T8 := ah (t8.below hb)
 have B := ah hb
 have X := ah ((qU.new w #[.int .i64 h.f0, .int .u64 h.f1, .int .u64 h.f2, .int .u64 h.f3, .int .u64 h.f4, .slice A5a h.f5.length c5a, .slice A6a h.f6.length c6a, .slice A7a h.f7.length c7a, .slice A8a h.f8.length c8a] 29).alloc (.cells #[.int .i64 h.f0, .int .u64 h.f1, .int .u64 h.f2, .int .u64 h.f3, .int .u64 h.f4, .slice A5b h.f5.length c5b, .slice A6b h.f6.length c6b, .slice A7b h.f7.length c7b, .slice A8b h.f8.length c8b] 41))
 have Y := ah (qU.Ua (w := w) (.cells #[.int .i64 h.f0, .int .u64 h.f1, .int .u64 h.f2, .int .u64 h.f3, .int .u64 h.f4, .slice A5a h.f5.length c5a, .slice A6a h.f6.length c6a, .slice A7a h.f7.length c7a, .slice A8a h.f8.length c8a] 29) #[.int .i64 h.f0, .int .u64 h.f1, .int .u64 h.f2, .int .u64 h.f3, .int .u64 h.f4, .slice A5b h.f5.length c5b, .slice A6b h.f6.length c6b, .slice A7b h.f7.length c7b, .slice A8b h.f8.length c8b] 41)
 have e0 : (h.f0 == h.f0) = true := beq_self_eq_true _
 have e1 : (h.f1 == h.f1) = true := beq_self_eq_true _
 have e2 : (h.f2 == h.f2) = true := beq_self_eq_true _
 have e3 : (h.f3 == h.f3) = true := beq_self_eq_true _
 have e4 : (h.f4 == h.f4) = true := beq_self_eq_true _
 clear s5 s6 s7 s8 t5 t6 t7 t8 l5 l6 l7 l8 hu hv hb
 generalize h.f5.map toR = m5 at *
 generalize h.f6.map toR = m6 at *
 have hx := fun i => X.out.cell i
 have hy := fun i => Y.out.cell i
 go_enter Try.func30, Try.ntmps30
 go_wp2_with fail
 replace S5 := ah (S5.out.below (ig (Below.refl _ _)))
 replace S6 := ah (S6.out.below (ig (Below.refl _ _)))
 replace S7 := ah (S7.out.below (ig (Below.refl _ _)))
 replace S8 := ah (S8.out.below (ig (Below.refl _ _)))
 replace T5 := ah (T5.out.below (ig (Below.refl _ _)))
 replace T6 := ah (T6.out.below (ig (Below.refl _ _)))
 replace T7 := ah (T7.out.below (ig (Below.refl _ _)))
 replace T8 := ah (T8.out.below (ig (Below.refl _ _)))
 replace X := ah (X.out.below (ig (Below.refl _ _)))
 replace Y := ah (Y.out.below (ig (Below.refl _ _)))
 replace B := ah (ig B.out)
 go_region_held3 (fun W => (∀ i, W.cell? ⟨w.heap.size, i, none⟩ = (#[.int .i64 h.f0, .int .u64 h.f1, .int .u64 h.f2, .int .u64 h.f3, .int .u64 h.f4, .slice A5a h.f5.length c5a, .slice A6a h.f6.length c6a, .slice A7a h.f7.length c7a, .slice A8a h.f8.length c8a] : Array Value)[i]?) ∧ (∀ i, W.cell? ⟨w.heap.size + 1, i, none⟩ = (#[.int .i64 h.f0, .int .u64 h.f1, .int .u64 h.f2, .int .u64 h.f3, .int .u64 h.f4, .slice A5b h.f5.length c5b, .slice A6b h.f6.length c6b, .slice A7b h.f7.length c7b, .slice A8b h.f8.length c8b] : Array Value)[i]?)) (exact ⟨fun i => X.out.cell i, fun i => Y.out.cell i⟩) (first | (go_at_call 87; (with_reducible refine (P5.out _ _ S5.out).mono ?_); rintro e W1 ⟨q5, rfl, hs, hb⟩; replace B := ah (aH B.out B.out.size hb); replace S5 := ah (S5.out.below hb); replace S6 := ah (S6.out.below hb); replace S7 := ah (S7.out.below hb); replace S8 := ah (S8.out.below hb); replace T5 := ah (T5.out.below hb); replace T6 := ah (T6.out.below hb); replace T7 := ah (T7.out.below hb); replace T8 := ah (T8.out.below hb); replace X := ah (X.out.below hb); replace hx := fun i => X.out.cell i; replace Y := ah (Y.out.below hb); replace hy := fun i => Y.out.cell i; have Q5 := ah hs; clear P5 hs hb) | (go_at_call 88; (with_reducible refine (E5.out _ _ _ Q5.out T5.out).mono ?_); rintro e W2 ⟨rfl, hb⟩; replace B := ah (aH B.out B.out.size hb); replace S5 := ah (S5.out.below hb); replace S6 := ah (S6.out.below hb); replace S7 := ah (S7.out.below hb); replace S8 := ah (S8.out.below hb); replace T5 := ah (T5.out.below hb); replace T6 := ah (T6.out.below hb); replace T7 := ah (T7.out.below hb); replace T8 := ah (T8.out.below hb); replace Q5 := ah (Q5.out.below hb); replace X := ah (X.out.below hb); replace hx := fun i => X.out.cell i; replace Y := ah (Y.out.below hb); replace hy := fun i => Y.out.cell i; clear E5  hb) | (go_at_call 87; (with_reducible refine (P6.out _ _ S6.out).mono ?_); rintro e W3 ⟨q6, rfl, hs, hb⟩; replace B := ah (aH B.out B.out.size hb); replace S5 := ah (S5.out.below hb); replace S6 := ah (S6.out.below hb); replace S7 := ah (S7.out.below hb); replace S8 := ah (S8.out.below hb); replace T5 := ah (T5.out.below hb); replace T6 := ah (T6.out.below hb); replace T7 := ah (T7.out.below hb); replace T8 := ah (T8.out.below hb); replace Q5 := ah (Q5.out.below hb); replace X := ah (X.out.below hb); replace hx := fun i => X.out.cell i; replace Y := ah (Y.out.below hb); replace hy := fun i => Y.out.cell i; have Q6 := ah hs; clear P6 hs hb) | (go_at_call 88; (with_reducible refine (E6.out _ _ _ Q6.out T6.out).mono ?_); rintro e W4 ⟨rfl, hb⟩; replace B := ah (aH B.out B.out.size hb); replace S5 := ah (S5.out.below hb); replace S6 := ah (S6.out.below hb); replace S7 := ah (S7.out.below hb); replace S8 := ah (S8.out.below hb); replace T5 := ah (T5.out.below hb); replace T6 := ah (T6.out.below hb); replace T7 := ah (T7.out.below hb); replace T8 := ah (T8.out.below hb); replace Q5 := ah (Q5.out.below hb); replace Q6 := ah (Q6.out.below hb); replace X := ah (X.out.below hb); replace hx := fun i => X.out.cell i; replace Y := ah (Y.out.below hb); replace hy := fun i => Y.out.cell i; clear E6  hb) | (go_at_call 89; (with_reducible refine (E7.out _ _ _ S7.out T7.out).mono ?_); rintro e W5 ⟨rfl, hb⟩; replace B := ah (aH B.out B.out.size hb); replace S5 := ah (S5.out.below hb); replace S6 := ah (S6.out.below hb); replace S7 := ah (S7.out.below hb); replace S8 := ah (S8.out.below hb); replace T5 := ah (T5.out.below hb); replace T6 := ah (T6.out.below hb); replace T7 := ah (T7.out.below hb); replace T8 := ah (T8.out.below hb); replace Q5 := ah (Q5.out.below hb); replace Q6 := ah (Q6.out.below hb); replace X := ah (X.out.below hb); replace hx := fun i => X.out.cell i; replace Y := ah (Y.out.below hb); replace hy := fun i => Y.out.cell i; clear E7  hb) | (go_at_call 89; (with_reducible refine (E8.out _ _ _ S8.out T8.out).mono ?_); rintro e W6 ⟨rfl, hb⟩; replace B := ah (aH B.out B.out.size hb); replace S5 := ah (S5.out.below hb); replace S6 := ah (S6.out.below hb); replace S7 := ah (S7.out.below hb); replace S8 := ah (S8.out.below hb); replace T5 := ah (T5.out.below hb); replace T6 := ah (T6.out.below hb); replace T7 := ah (T7.out.below hb); replace T8 := ah (T8.out.below hb); replace Q5 := ah (Q5.out.below hb); replace Q6 := ah (Q6.out.below hb); replace X := ah (X.out.below hb); replace hx := fun i => X.out.cell i; replace Y := ah (Y.out.below hb); replace hy := fun i => Y.out.cell i; clear E8  hb))
 all_goals go_wp2_with fail
 all_goals go_ret
 all_goals exact ⟨rfl, B.out⟩
def oG : Int → List Int → List Int
 | _, [] => []
 | a, n :: ns => (n - a) :: oG n ns
theorem Ec : ∀ (ns : List Int) (a : Int), (∀ x ∈ ns, i64 x) → fF a (oG a ns) = some ns
  | [], _, _ => rfl
  | n :: ns, a, h => by
    have e : a + (n - a) = n := by omega
    simp only [oG, fF]
    rw [e, if_pos (h n (List.mem_cons_self ..)), Ec ns n (fun x hx => h x (List.mem_cons_of_mem _ hx))]; rfl
def rO (s : Int) : Int → List Int → List Int
 | cur, [] => [cur]
 | cur, p :: t => if fQ p s = cur then rO s cur t else cur :: rO s (fQ p s) t
def wS (s : Int) : List Int → List Int
 | [] => []
 | p :: t => rO s (fQ p s) t
theorem GV (s : Int) : ∀ (l : List Pr) (cur : Pr) (r : List Pr), kK s cur l = some r → r.map (·.f0) = rO s cur.f0 (l.map (·.f0)) := by
  intro l
  induction l with
  | nil => intro cur r h; cases h; rfl
  | cons p t ih =>
    intro cur r h
    simp only [kK] at h
    simp only [List.map_cons, rO]
    split at h
    · rename_i he
      rw [if_pos he]
      split at h
      · exact ih ⟨cur.f0, cur.f1 + p.f1⟩ r h
      · cases h
    · rename_i he
      rw [if_neg he]
      cases hr : kK s ⟨fQ p.f0 s, p.f1⟩ t with
      | none => rw [hr] at h; cases h
      | some r' =>
        rw [hr] at h
        cases h
        have := ih _ _ hr
        simp only [List.map_cons, this]
theorem Ij {s : Int} {l r : List Pr} (h : kG s l = some r) : r.map (·.f0) = wS s (l.map (·.f0)) := by
 cases l with
 | nil => cases h; rfl
 | cons p t => exact GV s t _ r h
theorem OM (s q : Int) : ∀ (l : List Int) (cur : Int), q ∈ rO s cur l ↔ q = cur ∨ ∃ p ∈ l, fQ p s = q := by
  intro l
  induction l with
  | nil => intro cur; simp [rO]
  | cons p t ih =>
    intro cur
    simp only [rO, List.mem_cons]
    by_cases h : fQ p s = cur
    · rw [if_pos h, ih]
      constructor
      · rintro (h1 | ⟨x, hx, h1⟩)
        · exact .inl h1
        · exact .inr ⟨x, .inr hx, h1⟩
      · rintro (h1 | ⟨x, hx | hx, h1⟩)
        · exact .inl h1
        · subst hx; exact .inl (by omega)
        · exact .inr ⟨x, hx, h1⟩
    · rw [if_neg h, List.mem_cons, ih]
      constructor
      · rintro (h1 | h1 | ⟨x, hx, h1⟩)
        · exact .inl h1
        · exact .inr ⟨p, .inl rfl, h1.symm⟩
        · exact .inr ⟨x, .inr hx, h1⟩
      · rintro (h1 | ⟨x, hx | hx, h1⟩)
        · exact .inl h1
        · subst hx; exact .inr (.inl h1.symm)
        · exact .inr (.inr ⟨x, hx, h1⟩)
theorem Rl (s q : Int) (l : List Int) : q ∈ wS s l ↔ ∃ p ∈ l, fQ p s = q := by
  cases l with
  | nil => simp [wS]
  | cons p t =>
    unfold wS
    rw [OM]
    constructor
    · rintro (h1 | ⟨x, hx, h1⟩)
      · exact ⟨p, by simp, h1.symm⟩
      · exact ⟨x, by simp [hx], h1⟩
    · rintro ⟨x, hx, h1⟩
      rcases List.mem_cons.1 hx with rfl | hx
      · exact .inl h1.symm
      · exact .inr ⟨x, hx, h1⟩
theorem Rn {s q : Int} {l : List Pr} (h : mV s q l ≠ 0) : q ∈ wS s (l.map (·.f0)) := by
 rw [Rl]
 refine Classical.byContradiction fun hn => h ?_
 unfold mV
 refine AV _ l (fun p hp => ?_)
 have : ¬ fQ p.f0 s = q := fun e => hn ⟨p.f0, List.mem_map_of_mem hp, e⟩
 simpa using this
def GX (s : Int) (l : List Pr) : List Pr := (wS s (l.map (·.f0))).map (fun q => (⟨q, mV s q l⟩ : Pr))
def tooBig (l : List Pr) : Bool := l.any (fun p => decide (9223372036854775807 < p.f1))
theorem Ro {s : Int} {l : List Pr} (hr : RowOK l) : kG s l = if tooBig (GX s l) = true then none else some (GX s l) := by
  cases h : kG s l with
  | none =>
    obtain ⟨q, hq⟩ := (MS hr).1 h
    rw [if_pos]
    refine List.any_eq_true.2 ⟨⟨q, mV s q l⟩, List.mem_map_of_mem (f := fun q => (⟨q, mV s q l⟩ : Pr)) (Rn (by omega)), ?_⟩
    exact aiJ hq
  | some r =>
    obtain ⟨rr, _⟩ := lq hr h
    have e : GX s l = r := by
      unfold GX
      rw [← Ij h, List.map_map]
      refine (List.map_congr_left (g := id) fun p hp => ?_).trans (List.map_id r)
      have := TS (key := fun q : Pr => q.f0) (val := fun q : Pr => q.f1) rr.ups hp
      have e2 := Eb h hr.ups p.f0
      unfold lookPr at e2
      simp only [Function.comp, id]
      rw [← e2, this]
    rw [e, if_neg]
    rw [Bool.not_eq_true]
    unfold tooBig
    rw [List.any_eq_false]
    intro p hp
    have := (rr.cnt p hp).2.2
    simp; omega
theorem Rq {l : List Pr} (hr : rises (-1048576) (l.map (·.f0)) = true) (hl : l.length ≤ 4096) : kH l = if 1024 < (spansOf (l.map (·.f0))).length then ([], [], 12) else (spansOf (l.map (·.f0)), l.map (·.f1), 0) := by
 have hf : jO (l.map (·.f0)) = if 1024 < (spansOf (l.map (·.f0))).length then ([], 12) else (spansOf (l.map (·.f0)), 0) := by
  unfold jO
  rw [if_pos hr, if_neg (by rw [List.length_map]; omega)]
  by_cases c : 1024 < (spansOf (l.map (·.f0))).length
  ·rw [if_pos c, if_pos (by omega)]
  ·rw [if_neg c, if_neg (by omega)]
 by_cases c : 1024 < (spansOf (l.map (·.f0))).length
 ·rw [if_pos c] at hf ⊢
  unfold kH
  rw [hf]
  exact if_neg (by decide)
 ·rw [if_neg c] at hf ⊢
  unfold kH
  rw [hf]
  exact if_pos rfl
theorem Qg : ∀ (o : List Int) (a : Int), 0 ≤ a ∧ a ≤ 9223372036854775807 → (∀ x ∈ o, 0 ≤ x ∧ x ≤ 9223372036854775807) → jc a o = some (oG a o)
  | [], _, _, _ => rfl
  | x :: o, a, ha, h => by
    have hx := h x (by simp)
    simp only [jc, oG]
    rw [if_pos (show i64 (x - a) from ⟨by omega, by omega⟩), Qg o x hx (fun y hy => h y (List.mem_cons_of_mem _ hy))]
    rfl
theorem Qh {l : List Pr} (h : RowOK l) (hb : ∀ p ∈ l, -1048576 ≤ p.f0 ∧ p.f0 ≤ 1048576) :
  sN l = if 1024 < (spansOf (l.map (·.f0))).length then ([], [], 12) else (spansOf (l.map (·.f0)), oG 0 (l.map (·.f1)), 0) := by
 have hr := wO l _ h.ups hb
 have hd := Qg (l.map (·.f1)) 0 (by omega) (by intro x hx; obtain ⟨p, hp, rfl⟩ := List.mem_map.1 hx; exact (h.cnt p hp).2)
 unfold sN
 rw [Rq hr h.len, hd]
 by_cases c : 1024 < (spansOf (l.map (·.f0))).length
 ·rw [if_pos c, if_pos c]; simp
 ·rw [if_neg c, if_neg c]; simp
theorem MW {l : List Pr} (h : RowOK l) (hb : ∀ p ∈ l, -1048576 ≤ p.f0 ∧ p.f0 ≤ 1048576) (hc1 : (spansOf (l.map (·.f0))).length ≤ 1024) :
  dU (spansOf (l.map (·.f0))) (oG 0 (l.map (·.f1))) = (l, 0) := by
 have hr := wO l _ h.ups hb
 have hs := nV _ hr
 have hl := h.len
 have hc := wu hr (by rw [List.length_map]; omega) hc1
 have hsum := Ec (l.map (·.f1)) 0 (by intro x hx; obtain ⟨p, hp, rfl⟩ := List.mem_map.1 hx; exact (h.wf.1 p hp).2)
 have hdl := kW _ 0 _ hsum
 have hcn := hs.cnt
 rw [List.length_map] at hdl hcn
 unfold dU
 rw [if_pos hc, if_pos (by omega), hsum]
 simp only
 rw [PZ h.cnt]
 rw [hs.pl, Gz]
 simp
theorem UE {g : Hi} (hw : yQ g) (c1 : uH g = 0) {p n : List Pr} (rp : RowOK p) (rn : RowOK n) (bp : ∀ q ∈ p, -1048576 ≤ q.f0 ∧ q.f0 ≤ 1048576) (bn : ∀ q ∈ n, -1048576 ≤ q.f0 ∧ q.f0 ≤ 1048576) (hf : fits g.f2 g.f3 g.f4 p n = true) :
  vC g p n = if 1024 < (spansOf (p.map (·.f0))).length ∨ 1024 < (spansOf (n.map (·.f0))).length then (qH, 12) else (⟨g.f0, g.f1, g.f2, g.f3, g.f4, spansOf (p.map (·.f0)), spansOf (n.map (·.f0)), oG 0 (p.map (·.f1)), oG 0 (n.map (·.f1))⟩, 0) := by
 have e1 := Qh rp bp
 have e2 := Qh rn bn
 unfold vC
 by_cases k1 : 1024 < (spansOf (p.map (·.f0))).length
 ·rw [if_pos k1] at e1
  rw [e1, if_pos (by decide), if_pos (.inl k1)]
 rw [if_neg k1] at e1
 by_cases k2 : 1024 < (spansOf (n.map (·.f0))).length
 ·rw [if_pos k2] at e2
  rw [e1, e2, if_neg (by simp), if_pos (by decide), if_pos (.inr k2)]
 rw [if_neg k2] at e2
 have hm : wM g p n = ⟨g.f0, g.f1, g.f2, g.f3, g.f4, spansOf (p.map (·.f0)), spansOf (n.map (·.f0)), oG 0 (p.map (·.f1)), oG 0 (n.map (·.f1))⟩ := by unfold wM; rw [e1, e2]
 have s1 := MW rp bp (by omega)
 have s2 := MW rn bn (by omega)
 have hck : jD (wM g p n) = 0 := by
  rw [hm]
  refine Cm c1 (by simp only [s1]) (by simp only [s2]) ?_
  simp only [s1, s2]
  exact hf
 rw [if_neg (by rw [e1]; simp), if_neg (by rw [e2]; simp), if_neg (by simp [hck]), if_neg (by omega), hm]
theorem OO {h : Hi} (hw : yQ h) (hc : jD h = 0) {tt : Int} (ht0 : -4 ≤ tt) (ht1 : tt ≤ h.f0) {p n : List Pr} (hp : kG (h.f0 - tt) (iy h).1 = some p) (hn : kG (h.f0 - tt) (iy h).2.1 = some n) :
  lM h tt = if 1024 < (spansOf ((jq p).map (·.f0))).length ∨ 1024 < (spansOf ((jq n).map (·.f0))).length then (qH, 12) else (⟨tt, h.f1, h.f2, h.f3, h.f4, spansOf ((jq p).map (·.f0)), spansOf ((jq n).map (·.f0)), oG 0 ((jq p).map (·.f1)), oG 0 ((jq n).map (·.f1))⟩, 0) := by
 obtain ⟨r1, r2, b1, b2, l1, l2, hf, hd⟩ := zu hw hc
 obtain ⟨w1, w2, w3, w4⟩ := lq r1 hp
 obtain ⟨v1, v2, v3, v4⟩ := lq r2 hn
 have hs := rX hc
 have hwl : yQ (wP h tt) := by
  obtain ⟨_, w⟩ := hw
  exact ⟨by show i64 tt; unfold i64; omega, w⟩
 have hdl : uH (wP h tt) = 0 := by
  unfold uH at hd ⊢
  rw [if_neg (by show ¬ (tt < -4 ∨ tt > 8); omega)]
  rw [if_neg (by omega)] at hd
  exact hd
 have hfl : fits (wP h tt).f2 (wP h tt).f3 (wP h tt).f4 (jq p) (jq n) = true := by
  rw [GH _ _ _ ((uK p).trans w3) ((uK n).trans v3)]; exact hf
 have := UE hwl hdl (sO w1) (sO v1) (fun q hq => qj r1 hp b1 q (List.mem_filter.1 hq).1) (fun q hq => qj r2 hn b2 q (List.mem_filter.1 hq).1) hfl
 unfold lM
 rw [if_neg (by simp [hc]), if_neg (by omega), hp, hn]
 exact this
theorem Wq (done : List Int) (cur : Int) (h : done.length < 4611686018427387904) : wrap64 (((done ++ [cur]).length : Int) - 1) = (done.length : Int) ∧ rd (done ++ [cur]) (done.length : Int) = cur := by
 refine ⟨by rw [eu (by simp <;> omega) (by simp <;> omega)]; simp, ?_⟩
 rw [qC (by simp)]; simp
theorem Kr (pl : List Int) (s : Int) (hp : ∀ x ∈ pl, i64 x) (hm : pl.length ≤ 4096) : ∀ (d k i : Nat) (done : List Int) (cur : Int), pl.length - i = d → d + 67 ≤ k → i ≤ pl.length → done.length < i →
    tidepoleref25_wide.l0 k pl s (done ++ [cur]) (i : Int) = some (done ++ rO s cur (pl.drop i)) := by
  intro d
  induction d with
  | zero =>
    intro k i done cur hd hk hi hdl
    obtain ⟨k, rfl⟩ : ∃ m, k = m + 1 := ⟨k - 1, by omega⟩
    rw [tidepoleref25_wide.l0, if_neg (by omega), List.drop_eq_nil_of_le (by omega)]
    rfl
  | succ d ih =>
    intro k i done cur hd hk hi hdl
    obtain ⟨k, rfl⟩ : ∃ m, k = m + 1 := ⟨k - 1, by omega⟩
    have hlt : i < pl.length := by omega
    obtain ⟨w1, w2⟩ := Wq done cur (by omega)
    have hlen : ((done ++ [cur]).length : Int) = (done.length : Int) + 1 := by simp
    rw [tidepoleref25_wide.l0, if_pos (by omega), if_pos (by omega), qC hlt, AL _ (by omega) _ _ (hp _ (List.getElem_mem hlt)), Option.bind_some, if_neg (by omega), w1, w2, if_pos (by omega), if_pos (by omega)]
    rw [List.drop_eq_getElem_cons hlt, rO, wrap_succ (by omega)]
    by_cases c : fQ pl[i] s = cur
    · rw [if_pos c.symm, if_pos c]
      exact ih k (i + 1) done cur (by omega) (by omega) (by omega) (by omega)
    · rw [if_neg (fun h => c h.symm), if_neg c, if_pos (by simp <;> omega)]
      rw [ih k (i + 1) (done ++ [cur]) (fQ pl[i] s) (by omega) (by omega) (by omega) (by simp <;> omega)]
      simp
theorem OQ (pl : List Int) (s : Int) (hp : ∀ x ∈ pl, i64 x) (hm : pl.length ≤ 4096) (k : Nat) (hk : pl.length + 68 ≤ k) : tidepoleref25_wide.f k pl s = some (wS s pl) := by
  unfold tidepoleref25_wide.f
  obtain ⟨k, rfl⟩ : ∃ m, k = m + 1 := ⟨k - 1, by omega⟩
  cases pl with
  | nil => rw [tidepoleref25_wide.l0, if_neg (by simp)]; rfl
  | cons p t =>
    have h0 : rd (p :: t) 0 = p := rfl
    rw [tidepoleref25_wide.l0, if_pos (by simp <;> omega), if_pos (by omega), h0, AL _ (by omega) _ _ (hp _ (by simp)), Option.bind_some, if_pos (show (([] : List Int).length : Int) = 0 from rfl), if_pos (by simp)]
    rw [show wrap64 (0 + 1) = ((1 : Nat) : Int) from by unfold wrap64; omega]
    have := Kr (p :: t) s hp hm t.length k 1 [] (fQ p s) (by simp) (by simp at hk; omega) (by simp) (by simp)
    exact this
theorem AX (s : Int) : ∀ (l : List Int) (cur : Int), (rO s cur l).length ≤ l.length + 1
  | [], _ => by simp [rO]
  | p :: t, cur => by
    simp only [rO]
    split
    · have := AX s t cur; simp; omega
    · have := AX s t (fQ p s); simp; omega
theorem Rt (s : Int) (l : List Int) : (wS s l).length ≤ l.length := by
 cases l with
 | nil => simp [wS]
 | cons p t => have := AX s t (fQ p s); simp [wS]; omega
attribute [local go_sem] jh ji jR jS iI iJ jk jl
def tidepoleref17_Runs.l0 : Nat → List Int → List (fD) → Int → Int → Option ((List (fD)))
 | 0, _, _, _, _ => none
 | k + 1, x0, x3, x4, x5 => if x5 < (x0.length : Int) then (if x5 = 0 then (if 0 ≤ x5 then (if x3.length < 8796093022208 then ((some (x3 ++ [(⟨wrap64 ((rd x0 x5) - x4), 0⟩ : fD)] : List (fD))).bind fun y102 => (if 0 ≤ (wrap64 ((y102.length : Int) - 1)) then (if (wrap64 ((y102.length : Int) - 1)) < (y102.length : Int) then (tidepoleref17_Runs.l0 k x0 (y102.set ((wrap64 ((y102.length : Int) - 1)) : Int).toNat (⟨(aY y102 (wrap64 ((y102.length : Int) - 1))).f0, wrap64 (((aY y102 (wrap64 ((y102.length : Int) - 1))).f1) + 1)⟩ : fD)) (wrap64 ((rd x0 x5) + 1)) (wrap64 (x5 + 1))) else (none)) else (none))) else (none)) else (none)) else (if 0 ≤ x5 then (if (rd x0 x5) = x4 then (if 0 ≤ (wrap64 ((x3.length : Int) - 1)) then (if (wrap64 ((x3.length : Int) - 1)) < (x3.length : Int) then (tidepoleref17_Runs.l0 k x0 (x3.set ((wrap64 ((x3.length : Int) - 1)) : Int).toNat (⟨(aY x3 (wrap64 ((x3.length : Int) - 1))).f0, wrap64 (((aY x3 (wrap64 ((x3.length : Int) - 1))).f1) + 1)⟩ : fD)) (wrap64 ((rd x0 x5) + 1)) (wrap64 (x5 + 1))) else (none)) else (none)) else (if x3.length < 8796093022208 then ((some (x3 ++ [(⟨wrap64 ((rd x0 x5) - x4), 0⟩ : fD)] : List (fD))).bind fun y113 => (if 0 ≤ (wrap64 ((y113.length : Int) - 1)) then (if (wrap64 ((y113.length : Int) - 1)) < (y113.length : Int) then (tidepoleref17_Runs.l0 k x0 (y113.set ((wrap64 ((y113.length : Int) - 1)) : Int).toNat (⟨(aY y113 (wrap64 ((y113.length : Int) - 1))).f0, wrap64 (((aY y113 (wrap64 ((y113.length : Int) - 1))).f1) + 1)⟩ : fD)) (wrap64 ((rd x0 x5) + 1)) (wrap64 (x5 + 1))) else (none)) else (none))) else (none))) else (none))) else (some x3)
def tidepoleref17_Runs.f (k : Nat) (l0 : List Int) : Option ((List (fD))) := tidepoleref17_Runs.l0 k l0 ([] : List (fD)) 0 0
set_option maxHeartbeats 8000000 in
set_option maxRecDepth 100000 in
theorem tidepoleref17_Runs.calls (k : Nat) (A0 : Option Addr) (c0 : Nat) (l0 : List Int) (r : List (fD)) (w : World) (hr0 : Kd.C (Kd.int .i64) w A0 l0.length l0) (hc0 : l0.length ≤ c0) (h : tidepoleref17_Runs.f k l0 = some r) :
  Calls Try.prog 85 #[.slice A0 l0.length c0] w fun e w' => ∃ lY : Value, e = .returned (lY) ∧ Kd.R nD 127 w' w.heap.size (fun _ => True) lY r ∧ Below w.heap.size w w' := by
 have Tq := Try.underlying127
 have HR0 := ah hr0
 have tK := ah hc0
 clear hr0 hc0
 have HB := ah (Below.refl w.heap.size w)
 have H : (tidepoleref17_Runs.l0 k l0 ([] : List (fD)) 0 0) = some r := h
 clear h
 have H' := ah H
 clear H
 go_enter Try.func85, Try.ntmps85
 go_wp2
 go_loopg [3, 4, 5] k (fun kq v3 v4 v5 w' => ∃ (fG : List (fD)) (dM : Int) (bF : Int), v4 = .int .i64 dM ∧ v5 = .int .i64 bF ∧ aj (tidepoleref17_Runs.l0 kq l0 fG dM bF = some r) ∧ aj (kq ≤ k) ∧ aj (Kd.R nD 127 w' w.heap.size (fun _ => True) v3 fG) ∧ aj (Below w.heap.size w w'))
 case atStart => exact ⟨(([] : List (fD))), (0), (0), (by first | rfl | (simp; done) | (simp [*]; done)), (by first | rfl | (simp; done) | (simp [*]; done)), H', ⟨Nat.le_refl _⟩, ⟨by first | exact Kd.dY _ _ _ _ _ | exact Kd.gI _ _ _ _ _ | exact Kd.gJ _ _ _ _ _ | exact Kd.gB _ _ _ _ _ | exact Kd.gG _ _ _ _ _⟩, ⟨by repeat (first | (with_reducible first | exact HB.out | apply ak | apply au | apply aC) | exact HB.out)⟩⟩
 case round =>
  clear H'
  obtain ⟨fG, dM, bF, rfl, rfl, HA, jf, HO_3, HB⟩ := hrel
  cases gk with
  | zero => exact absurd HA.out (by simp [tidepoleref17_Runs.l0])
  | succ k1 =>
   have H := HA.out
   clear HA
   simp only [tidepoleref17_Runs.l0] at H
   by_cases c2 : bF < (l0.length : Int)
   ·rw [if_pos c2] at H
    have c2b0 : decide (bF < (l0.length : Int)) = true := aiJ c2
    clear c2
    by_cases c3 : bF = 0
    ·rw [if_pos c3] at H
     have c3b0 : (bF == 0) = true := beq_iff_eq.mpr c3
     have c3b1 : (bF != 0) = false := bne_eq_false_iff_eq.mpr c3
     clear c3
     by_cases c4 : 0 ≤ bF
     ·rw [if_pos c4] at H
      have c4b0 : decide (0 ≤ bF) = true := aiJ c4
      clear c4
      by_cases c5 : fG.length < 8796093022208
      ·rw [if_pos c5] at H
       have Fq := ah c5
       clear c5
       obtain ⟨y102, hy102⟩ : ∃ y_ : List (fD), y_ = (fG ++ [(⟨wrap64 ((rd l0 bF) - dM), 0⟩ : fD)]) := ⟨_, rfl⟩
       replace H : (if 0 ≤ (wrap64 ((y102.length : Int) - 1)) then (if (wrap64 ((y102.length : Int) - 1)) < (y102.length : Int) then (tidepoleref17_Runs.l0 k1 l0 (y102.set ((wrap64 ((y102.length : Int) - 1)) : Int).toNat (⟨(aY y102 (wrap64 ((y102.length : Int) - 1))).f0, wrap64 (((aY y102 (wrap64 ((y102.length : Int) - 1))).f1) + 1)⟩ : fD)) (wrap64 ((rd l0 bF) + 1)) (wrap64 (bF + 1))) else (none)) else (none)) = some r := by first | (rw [hy102]; with_reducible exact H) | (have jm := (Option.bind_some _ _).symm.trans H; rw [hy102]; with_reducible exact jm) | (have jm := (Option.bind_some _ _).symm.trans H; with_reducible exact jm) | with_reducible exact H | (rw [hy102]; exact H) | exact H
       have IU := ah hy102
       clear hy102
       obtain ⟨vW, J7⟩ : ∃ j_ : Int, (wrap64 ((y102.length : Int) - 1)) = j_ := ⟨_, rfl⟩
       replace H : (if 0 ≤ (vW) then (if (vW) < (y102.length : Int) then (tidepoleref17_Runs.l0 k1 l0 (y102.set ((vW) : Int).toNat (⟨(aY y102 (vW)).f0, wrap64 (((aY y102 (vW)).f1) + 1)⟩ : fD)) (wrap64 ((rd l0 bF) + 1)) (wrap64 (bF + 1))) else (none)) else (none)) = some r := by first | (rw [J7] at H; exact H) | (simp only [J7] at H ⊢; exact H)
       have hji6w : (IntKind.i64.wrap ((y102.length : Int) - 1)) = vW := (dh _).trans J7
       by_cases c7 : 0 ≤ (vW)
       ·rw [if_pos c7] at H
        have c7b0 : decide (0 ≤ (vW)) = true := aiJ c7
        clear c7
        by_cases c8 : (vW) < (y102.length : Int)
        ·rw [if_pos c8] at H
         have c8b0 : decide ((vW) < (y102.length : Int)) = true := aiJ c8
         clear c8
         obtain ⟨yL, sF⟩ : ∃ y_ : List (fD), y_ = (y102.set ((vW) : Int).toNat (⟨(aY y102 (vW)).f0, wrap64 (((aY y102 (vW)).f1) + 1)⟩ : fD)) := ⟨_, rfl⟩
         replace H : (tidepoleref17_Runs.l0 k1 l0 yL (wrap64 ((rd l0 bF) + 1)) (wrap64 (bF + 1))) = some r := by first | (rw [sF]; with_reducible exact H) | (have jm := (Option.bind_some _ _).symm.trans H; rw [sF]; with_reducible exact jm) | (have jm := (Option.bind_some _ _).symm.trans H; with_reducible exact jm) | with_reducible exact H | (rw [sF]; exact H) | exact H
         have BN := ah sF
         clear sF
         have H' := ah H
         clear H
         have eX : 0 ≤ (bF : Int) := aiI (by assumption)
         have eY : bF < (l0.length : Int) := aiI (by assumption)
         obtain ⟨jU, jK, bP⟩ := Kd.fA HR0.out bF eX eY
         cases jK
         replace bP := (HB.out.cell (World.block_lt_of_cell? w _ bP)).trans bP
         replace eX := eq_true eX
         replace eY := eq_true eY
         go_wp2_with (first | ((with_reducible refine dZ (b := .append) (xs := #[.tmp 22, .tmp 30]) rfl ?_); at_builtin; refine Kd.iP nD (w0 := w) w.heap.size rfl (.tmp 22) (.tmp 30) 39 127 (.agg #[(.int .i64 0), (.int .i64 0)]) 16 rfl Try.underlying39 Jt rfl (by decide) (by omega) u3 fG (⟨wrap64 ((rd l0 bF) - dM), 0⟩ : fD) [.int .i64 (wrap64 ((rd l0 bF) - dM)), .int .i64 0] (fun _ => True) (fun _ => False) rfl rfl ?aP (fun _ hk => hk.elim) ?aF ?aO ?aB ?aS ?aL ?_; (case aP => exact wG _ _ _ (⟨wrap64 ((rd l0 bF) - dM), 0⟩ : fD)); (case aB => exact (aX HB.out)); (case aF => exact (fun _ _ => trivial)); (case aO => exact (Kd.fB HO_3.out)); (case aS => exact (aI (aX HB.out))); (case aL => have := Fq.out; omega); intro yK w10 ho hb hg hat; rw [← IU.out] at ho; have iq := ah (ho); replace HB := ah (hb); clear HO_3 ho hb hg hat; obtain ⟨Aw, nY, Az⟩ := Kd.bY iq.out; subst Az; have pX : 0 ≤ ((vW) : Int) := aiI (by assumption); have pY : (vW) < (y102.length : Int) := aiI (by assumption); obtain ⟨DU, Aq, lS, qN⟩ := qB (Kd.bD iq.out).2.2 (vW) pX pY; cases Aq; replace pX := eq_true pX; replace pY := eq_true pY; have p9 : 0 ≤ ((vW) : Int) := aiI (by assumption); have q9 : ((vW) : Int) < ((y102.length : Int) : Int) := aiI (by assumption); obtain ⟨Xp, KO, VD, gb9, gl9, cl9, HG9⟩ := Kd.qw iq.out (by omega); (first | cases VD | (injection VD with ea_ en_ ec_; (first | subst ea_ | (injection ea_ with ea_; subst ea_)); subst ec_; clear en_)); have GB9 := ah gb9; have GG9 := ah HG9; clear gb9 gl9 HG9; (first | simp only [add_plain] at lS | skip); (first | simp only [add_plain] at qN | skip); obtain ⟨ce9, adP, hM9, YX, YZ⟩ := Kd.jJ iq.out z127 ((vW) : Int) p9 q9; obtain rfl := rC hM9; have afX : w10.cell? ⟨Xp, ((vW) : Int).toNat * 2, none⟩ = some (.int .i64 ((aY y102 (vW)).f0)) := YX 0 _ rfl; have afY : w10.cell? ⟨Xp, ((vW) : Int).toNat * 2 + 1, none⟩ = some (.int .i64 ((aY y102 (vW)).f1)) := YX 1 _ rfl; have afZ : w10.frozen? ⟨Xp, ((vW) : Int).toNat * 2, none⟩ = false := YZ 0; have af0 : w10.frozen? ⟨Xp, ((vW) : Int).toNat * 2 + 1, none⟩ = false := YZ 1; clear adP YX YZ hM9; replace p9 := eq_true p9; replace q9 := eq_true q9; have aaJ := ah (show Kd.R nD 127 w10 w.heap.size (fun _ => True) (.slice (some ⟨Xp, 0, none⟩) y102.length nY) y102 from (Kd.fB iq.out)); obtain ⟨ahz, Xq, aaK, UF, Xr⟩ := Kd.jJ aaJ.out z127 ((vW) : Int) (aiI (by assumption)) (by have h_ : ((vW) : Int) < ((y102.length : Int) : Int) := aiI (by assumption); first | exact h_ | (have e_ := (Kd.bD iq.out).1; omega) | simpa using h_); obtain rfl := rC aaK; have Y0 := Kd.qy aaJ.out ((vW) : Int) (aiI (by assumption)) (by have h_ : ((vW) : Int) < ((y102.length : Int) : Int) := aiI (by assumption); first | exact h_ | (have e_ := (Kd.bD iq.out).1; omega) | simpa using h_) (seg := [.int .i64 (wrap64 (((aY y102 (vW)).f1) + 1))]) (j := 1) Xq UF (show 2 ≤ 2 from by decide) (x' := (⟨(aY y102 (vW)).f0, wrap64 (((aY y102 (vW)).f1) + 1)⟩ : fD)) (wG _ _ _ (⟨(aY y102 (vW)).f0, wrap64 (((aY y102 (vW)).f1) + 1)⟩ : fD) ) (fun _ hk => hk); have Y1 := UF 1 _ rfl; (try simp only [show (nD).sz = 2 from rfl, Nat.mul_one, Nat.add_zero] at Y1); have Y2 := Xr 1; (try simp only [show (nD).sz = 2 from rfl, Nat.mul_one, Nat.add_zero] at Y2); clear Xq UF Xr aaK) | ((with_reducible refine kU (t := 3) (p := 41) rfl ?_); refine ku (t := 3) (p := 41) (v := ?vo_w13) (w1 := (w10.setCell ⟨Xp, ((vW) : Int).toNat * 2 + 1, none⟩ (.int .i64 (wrap64 (((aY y102 (vW)).f1) + 1))))) ?hg ?ho ?hn ?hr ?_; (case ho => rfl); (case hg => rfl); (case hn => rfl); (case hr => first | (go_simp; done) | (go_simp; rfl)); intro QA hw; have hg : w10.grownBy QA (some Xp) := (by rw [hw]; exact Y0.2); have hp_ : Kd.R nD 127 QA w.heap.size (fun _ => True) (.slice (some ⟨Xp, 0, none⟩) y102.length nY) yL := (by rw [hw, BN.out]; exact Y0.1); clear Y0; replace iq := ah (hp_); replace HB := ah ((by rw [hw]; exact aA (HB.out) GB9.out : Below w.heap.size w QA)); clear hg hw hp_; have Y3 : 0 ≤ (bF : Int) := aiI (by assumption); have Y4 : bF < (l0.length : Int) := aiI (by assumption); obtain ⟨aaL, adQ, Kt⟩ := Kd.fA HR0.out bF Y3 Y4; obtain rfl : jU = aaL := (by injection adQ); replace Kt := (HB.out.cell (World.block_lt_of_cell? w _ Kt)).trans Kt; replace Y3 := eq_true Y3; replace Y4 := eq_true Y4))
         go_roundg k1
         case measure => have := jf.out; omega
         case rel => exact ⟨(yL), (wrap64 ((rd l0 bF) + 1)), (wrap64 (bF + 1)), (by first | rfl | (simp; done) | (simp [*]; done)), (by first | rfl | (simp; done) | (simp [*]; done)), H', ⟨by have := jf.out; omega⟩, ⟨by (repeat with_reducible refine Kd.kJ ?_); exact iq.out⟩, ⟨by repeat (first | (with_reducible first | exact HB.out | apply ak | apply au | apply aC) | exact HB.out)⟩⟩
        rw [if_neg c8] at H
        exact absurd H (by simp)
       rw [if_neg c7] at H
       exact absurd H (by simp)
      rw [if_neg c5] at H
      exact absurd H (by simp)
     rw [if_neg c4] at H
     exact absurd H (by simp)
    rw [if_neg c3] at H
    have c3b0 : (bF == 0) = false := beq_eq_false_iff_ne.mpr c3
    have c3b1 : (bF != 0) = true := bne_iff_ne.mpr c3
    by_cases c14 : 0 ≤ bF
    ·rw [if_pos c14] at H
     have c14b0 : decide (0 ≤ bF) = true := aiJ c14
     clear c14
     by_cases c15 : (rd l0 bF) = dM
     ·rw [if_pos c15] at H
      have c15b0 : ((rd l0 bF) == dM) = true := beq_iff_eq.mpr c15
      have c15b1 : ((rd l0 bF) != dM) = false := bne_eq_false_iff_eq.mpr c15
      clear c15
      obtain ⟨nO, UG⟩ : ∃ j_ : Int, (wrap64 ((fG.length : Int) - 1)) = j_ := ⟨_, rfl⟩
      replace H : (if 0 ≤ (nO) then (if (nO) < (fG.length : Int) then (tidepoleref17_Runs.l0 k1 l0 (fG.set ((nO) : Int).toNat (⟨(aY fG (nO)).f0, wrap64 (((aY fG (nO)).f1) + 1)⟩ : fD)) (wrap64 ((rd l0 bF) + 1)) (wrap64 (bF + 1))) else (none)) else (none)) = some r := by first | (rw [UG] at H; exact H) | (simp only [UG] at H ⊢; exact H)
      have hji16w : (IntKind.i64.wrap ((fG.length : Int) - 1)) = nO := (dh _).trans UG
      by_cases c17 : 0 ≤ (nO)
      ·rw [if_pos c17] at H
       have c17b0 : decide (0 ≤ (nO)) = true := aiJ c17
       clear c17
       by_cases c18 : (nO) < (fG.length : Int)
       ·rw [if_pos c18] at H
        have c18b0 : decide ((nO) < (fG.length : Int)) = true := aiJ c18
        clear c18
        obtain ⟨Y5, MX⟩ : ∃ y_ : List (fD), y_ = (fG.set ((nO) : Int).toNat (⟨(aY fG (nO)).f0, wrap64 (((aY fG (nO)).f1) + 1)⟩ : fD)) := ⟨_, rfl⟩
        replace H : (tidepoleref17_Runs.l0 k1 l0 Y5 (wrap64 ((rd l0 bF) + 1)) (wrap64 (bF + 1))) = some r := by first | (rw [MX]; with_reducible exact H) | (have jm := (Option.bind_some _ _).symm.trans H; rw [MX]; with_reducible exact jm) | (have jm := (Option.bind_some _ _).symm.trans H; with_reducible exact jm) | with_reducible exact H | (rw [MX]; exact H) | exact H
        have aaM := ah MX
        clear MX
        have H' := ah H
        clear H
        have OT : 0 ≤ (bF : Int) := aiI (by assumption)
        have OU : bF < (l0.length : Int) := aiI (by assumption)
        obtain ⟨Qi, e108, xZ⟩ := Kd.fA HR0.out bF OT OU
        cases e108
        replace xZ := (HB.out.cell (World.block_lt_of_cell? w _ xZ)).trans xZ
        replace OT := eq_true OT
        replace OU := eq_true OU
        obtain ⟨Oh, JX, QJ⟩ := Kd.bY HO_3.out
        subst QJ
        have Gf : 0 ≤ ((nO) : Int) := aiI (by assumption)
        have Gg : (nO) < (fG.length : Int) := aiI (by assumption)
        obtain ⟨Xj, e109, JY, Ws⟩ := qB (Kd.bD HO_3.out).2.2 (nO) Gf Gg
        cases e109
        replace Gf := eq_true Gf
        replace Gg := eq_true Gg
        have p19 : 0 ≤ ((nO) : Int) := aiI (by assumption)
        have q19 : ((nO) : Int) < ((fG.length : Int) : Int) := aiI (by assumption)
        obtain ⟨MZ, aaB, V9, aaN, adT, ahA, aaO⟩ := Kd.qw HO_3.out (by omega)
        (first | cases V9 | (injection V9 with ea_ en_ ec_; (first | subst ea_ | (injection ea_ with ea_; subst ea_)); subst ec_; clear en_))
        have adU := ah aaN
        have ahB := ah aaO
        clear aaN adT aaO
        (first | simp only [add_plain] at JY | skip)
        (first | simp only [add_plain] at Ws | skip)
        obtain ⟨ahC, aaP, aaQ, UH, UJ⟩ := Kd.jJ HO_3.out z127 ((nO) : Int) p19 q19
        obtain rfl := rC aaQ
        have adV : wr.cell? ⟨MZ, ((nO) : Int).toNat * 2, none⟩ = some (.int .i64 ((aY fG (nO)).f0)) := UH 0 _ rfl
        have adW : wr.cell? ⟨MZ, ((nO) : Int).toNat * 2 + 1, none⟩ = some (.int .i64 ((aY fG (nO)).f1)) := UH 1 _ rfl
        have adX : wr.frozen? ⟨MZ, ((nO) : Int).toNat * 2, none⟩ = false := UJ 0
        have adY : wr.frozen? ⟨MZ, ((nO) : Int).toNat * 2 + 1, none⟩ = false := UJ 1
        clear aaP UH UJ aaQ
        replace p19 := eq_true p19
        replace q19 := eq_true q19
        have aaR := ah (show Kd.R nD 127 wr w.heap.size (fun _ => True) (.slice (some ⟨MZ, 0, none⟩) fG.length JX) fG from (Kd.fB HO_3.out))
        obtain ⟨ahD, Xt, aaS, UK, Xu⟩ := Kd.jJ aaR.out z127 ((nO) : Int) (aiI (by assumption)) (by have h_ : ((nO) : Int) < ((fG.length : Int) : Int) := aiI (by assumption); first | exact h_ | (have e_ := (Kd.bD HO_3.out).1; omega) | simpa using h_)
        obtain rfl := rC aaS
        have Y6 := Kd.qy aaR.out ((nO) : Int) (aiI (by assumption)) (by have h_ : ((nO) : Int) < ((fG.length : Int) : Int) := aiI (by assumption); first | exact h_ | (have e_ := (Kd.bD HO_3.out).1; omega) | simpa using h_) (seg := [.int .i64 (wrap64 (((aY fG (nO)).f1) + 1))]) (j := 1) Xt UK (show 2 ≤ 2 from by decide) (x' := (⟨(aY fG (nO)).f0, wrap64 (((aY fG (nO)).f1) + 1)⟩ : fD)) (wG _ _ _ (⟨(aY fG (nO)).f0, wrap64 (((aY fG (nO)).f1) + 1)⟩ : fD) ) (fun _ hk => hk)
        have Y7 := UK 1 _ rfl
        (try simp only [show (nD).sz = 2 from rfl, Nat.mul_one, Nat.add_zero] at Y7)
        have Y8 := Xu 1
        (try simp only [show (nD).sz = 2 from rfl, Nat.mul_one, Nat.add_zero] at Y8)
        clear Xt UK Xu aaS
        go_wp2_with (first | ((with_reducible refine kU (t := 3) (p := 41) rfl ?_); refine ku (t := 3) (p := 41) (v := ?vo_w22) (w1 := (wr.setCell ⟨MZ, ((nO) : Int).toNat * 2 + 1, none⟩ (.int .i64 (wrap64 (((aY fG (nO)).f1) + 1))))) ?hg ?ho ?hn ?hr ?_; (case ho => rfl); (case hg => rfl); (case hn => rfl); (case hr => first | (go_simp; done) | (go_simp; rfl)); intro Yj hw; have hg : wr.grownBy Yj (some MZ) := (by rw [hw]; exact Y6.2); have hp_ : Kd.R nD 127 Yj w.heap.size (fun _ => True) (.slice (some ⟨MZ, 0, none⟩) fG.length JX) Y5 := (by rw [hw, aaM.out]; exact Y6.1); clear Y6; replace HO_3 := ah (hp_); replace HB := ah ((by rw [hw]; exact aA (HB.out) adU.out : Below w.heap.size w Yj)); clear hg hw hp_; have xB : 0 ≤ (bF : Int) := aiI (by assumption); have xC : bF < (l0.length : Int) := aiI (by assumption); obtain ⟨Lj, JA, lQ⟩ := Kd.fA HR0.out bF xB xC; obtain rfl : Qi = Lj := (by injection JA); replace lQ := (HB.out.cell (World.block_lt_of_cell? w _ lQ)).trans lQ; replace xB := eq_true xB; replace xC := eq_true xC))
        go_roundg k1
        case measure => have := jf.out; omega
        case rel => exact ⟨(Y5), (wrap64 ((rd l0 bF) + 1)), (wrap64 (bF + 1)), (by first | rfl | (simp; done) | (simp [*]; done)), (by first | rfl | (simp; done) | (simp [*]; done)), H', ⟨by have := jf.out; omega⟩, ⟨by (repeat with_reducible refine Kd.kJ ?_); exact HO_3.out⟩, ⟨by repeat (first | (with_reducible first | exact HB.out | apply ak | apply au | apply aC) | exact HB.out)⟩⟩
       rw [if_neg c18] at H
       exact absurd H (by simp)
      rw [if_neg c17] at H
      exact absurd H (by simp)
     rw [if_neg c15] at H
     have c15b0 : ((rd l0 bF) == dM) = false := beq_eq_false_iff_ne.mpr c15
     have c15b1 : ((rd l0 bF) != dM) = true := bne_iff_ne.mpr c15
     by_cases c23 : fG.length < 8796093022208
     ·rw [if_pos c23] at H
      have aaT := ah c23
      clear c23
      obtain ⟨y113, hy113⟩ : ∃ y_ : List (fD), y_ = (fG ++ [(⟨wrap64 ((rd l0 bF) - dM), 0⟩ : fD)]) := ⟨_, rfl⟩
      replace H : (if 0 ≤ (wrap64 ((y113.length : Int) - 1)) then (if (wrap64 ((y113.length : Int) - 1)) < (y113.length : Int) then (tidepoleref17_Runs.l0 k1 l0 (y113.set ((wrap64 ((y113.length : Int) - 1)) : Int).toNat (⟨(aY y113 (wrap64 ((y113.length : Int) - 1))).f0, wrap64 (((aY y113 (wrap64 ((y113.length : Int) - 1))).f1) + 1)⟩ : fD)) (wrap64 ((rd l0 bF) + 1)) (wrap64 (bF + 1))) else (none)) else (none)) = some r := by first | (rw [hy113]; with_reducible exact H) | (have jm := (Option.bind_some _ _).symm.trans H; rw [hy113]; with_reducible exact jm) | (have jm := (Option.bind_some _ _).symm.trans H; with_reducible exact jm) | with_reducible exact H | (rw [hy113]; exact H) | exact H
      have aaU := ah hy113
      clear hy113
      obtain ⟨nP, UL⟩ : ∃ j_ : Int, (wrap64 ((y113.length : Int) - 1)) = j_ := ⟨_, rfl⟩
      replace H : (if 0 ≤ (nP) then (if (nP) < (y113.length : Int) then (tidepoleref17_Runs.l0 k1 l0 (y113.set ((nP) : Int).toNat (⟨(aY y113 (nP)).f0, wrap64 (((aY y113 (nP)).f1) + 1)⟩ : fD)) (wrap64 ((rd l0 bF) + 1)) (wrap64 (bF + 1))) else (none)) else (none)) = some r := by first | (rw [UL] at H; exact H) | (simp only [UL] at H ⊢; exact H)
      have hji24w : (IntKind.i64.wrap ((y113.length : Int) - 1)) = nP := (dh _).trans UL
      by_cases c25 : 0 ≤ (nP)
      ·rw [if_pos c25] at H
       have c25b0 : decide (0 ≤ (nP)) = true := aiJ c25
       clear c25
       by_cases SE : (nP) < (y113.length : Int)
       ·rw [if_pos SE] at H
        have c26b0 : decide ((nP) < (y113.length : Int)) = true := aiJ SE
        clear SE
        obtain ⟨Y9, Na⟩ : ∃ y_ : List (fD), y_ = (y113.set ((nP) : Int).toNat (⟨(aY y113 (nP)).f0, wrap64 (((aY y113 (nP)).f1) + 1)⟩ : fD)) := ⟨_, rfl⟩
        replace H : (tidepoleref17_Runs.l0 k1 l0 Y9 (wrap64 ((rd l0 bF) + 1)) (wrap64 (bF + 1))) = some r := by first | (rw [Na]; with_reducible exact H) | (have jm := (Option.bind_some _ _).symm.trans H; rw [Na]; with_reducible exact jm) | (have jm := (Option.bind_some _ _).symm.trans H; with_reducible exact jm) | with_reducible exact H | (rw [Na]; exact H) | exact H
        have aaV := ah Na
        clear Na
        have H' := ah H
        clear H
        have OT : 0 ≤ (bF : Int) := aiI (by assumption)
        have OU : bF < (l0.length : Int) := aiI (by assumption)
        obtain ⟨Qi, e108, xZ⟩ := Kd.fA HR0.out bF OT OU
        cases e108
        replace xZ := (HB.out.cell (World.block_lt_of_cell? w _ xZ)).trans xZ
        replace OT := eq_true OT
        replace OU := eq_true OU
        have Za : 0 ≤ (bF : Int) := aiI (by assumption)
        have Zb : bF < (l0.length : Int) := aiI (by assumption)
        obtain ⟨aaW, adZ, Ku⟩ := Kd.fA HR0.out bF Za Zb
        obtain rfl : Qi = aaW := (by injection adZ)
        replace Ku := (HB.out.cell (World.block_lt_of_cell? w _ Ku)).trans Ku
        replace Za := eq_true Za
        replace Zb := eq_true Zb
        go_wp2_with (first | ((with_reducible refine dZ (b := .append) (xs := #[.tmp 22, .tmp 30]) rfl ?_); at_builtin; refine Kd.iP nD (w0 := w) w.heap.size rfl (.tmp 22) (.tmp 30) 39 127 (.agg #[(.int .i64 0), (.int .i64 0)]) 16 rfl Try.underlying39 Jt rfl (by decide) (by omega) u3 fG (⟨wrap64 ((rd l0 bF) - dM), 0⟩ : fD) [.int .i64 (wrap64 ((rd l0 bF) - dM)), .int .i64 0] (fun _ => True) (fun _ => False) rfl rfl ?aP (fun _ hk => hk.elim) ?aF ?aO ?aB ?aS ?aL ?_; (case aP => exact wG _ _ _ (⟨wrap64 ((rd l0 bF) - dM), 0⟩ : fD)); (case aB => exact (aX HB.out)); (case aF => exact (fun _ _ => trivial)); (case aO => exact (Kd.fB HO_3.out)); (case aS => exact (aI (aX HB.out))); (case aL => have := aaT.out; omega); intro Ux Xm ho hb hg hat; rw [← aaU.out] at ho; have lG := ah (ho); replace HB := ah (hb); clear HO_3 ho hb hg hat; obtain ⟨Wh, Q9, Rf⟩ := Kd.bY lG.out; subst Rf; have Zc : 0 ≤ ((nP) : Int) := aiI (by assumption); have Zd : (nP) < (y113.length : Int) := aiI (by assumption); obtain ⟨af2, e116, Wu, Wv⟩ := qB (Kd.bD lG.out).2.2 (nP) Zc Zd; cases e116; replace Zc := eq_true Zc; replace Zd := eq_true Zd; have p27 : 0 ≤ ((nP) : Int) := aiI (by assumption); have q27 : ((nP) : Int) < ((y113.length : Int) : Int) := aiI (by assumption); obtain ⟨Nb, SX, NI, aaX, ad2, ahE, aaY⟩ := Kd.qw lG.out (by omega); (first | cases NI | (injection NI with ea_ en_ ec_; (first | subst ea_ | (injection ea_ with ea_; subst ea_)); subst ec_; clear en_)); have ad3 := ah aaX; have ahF := ah aaY; clear aaX ad2 aaY; (first | simp only [add_plain] at Wu | skip); (first | simp only [add_plain] at Wv | skip); obtain ⟨ahG, aaZ, aa0, UM, UN⟩ := Kd.jJ lG.out z127 ((nP) : Int) p27 q27; obtain rfl := rC aa0; have ad4 : Xm.cell? ⟨Nb, ((nP) : Int).toNat * 2, none⟩ = some (.int .i64 ((aY y113 (nP)).f0)) := UM 0 _ rfl; have ad6 : Xm.cell? ⟨Nb, ((nP) : Int).toNat * 2 + 1, none⟩ = some (.int .i64 ((aY y113 (nP)).f1)) := UM 1 _ rfl; have ad8 : Xm.frozen? ⟨Nb, ((nP) : Int).toNat * 2, none⟩ = false := UN 0; have ad9 : Xm.frozen? ⟨Nb, ((nP) : Int).toNat * 2 + 1, none⟩ = false := UN 1; clear aaZ UM UN aa0; replace p27 := eq_true p27; replace q27 := eq_true q27; have aa1 := ah (show Kd.R nD 127 Xm w.heap.size (fun _ => True) (.slice (some ⟨Nb, 0, none⟩) y113.length Q9) y113 from (Kd.fB lG.out)); obtain ⟨ahH, Xv, aa2, UO, Xw⟩ := Kd.jJ aa1.out z127 ((nP) : Int) (aiI (by assumption)) (by have h_ : ((nP) : Int) < ((y113.length : Int) : Int) := aiI (by assumption); first | exact h_ | (have e_ := (Kd.bD lG.out).1; omega) | simpa using h_); obtain rfl := rC aa2; have Ze := Kd.qy aa1.out ((nP) : Int) (aiI (by assumption)) (by have h_ : ((nP) : Int) < ((y113.length : Int) : Int) := aiI (by assumption); first | exact h_ | (have e_ := (Kd.bD lG.out).1; omega) | simpa using h_) (seg := [.int .i64 (wrap64 (((aY y113 (nP)).f1) + 1))]) (j := 1) Xv UO (show 2 ≤ 2 from by decide) (x' := (⟨(aY y113 (nP)).f0, wrap64 (((aY y113 (nP)).f1) + 1)⟩ : fD)) (wG _ _ _ (⟨(aY y113 (nP)).f0, wrap64 (((aY y113 (nP)).f1) + 1)⟩ : fD) ) (fun _ hk => hk); have Zf := UO 1 _ rfl; (try simp only [show (nD).sz = 2 from rfl, Nat.mul_one, Nat.add_zero] at Zf); have Zg := Xw 1; (try simp only [show (nD).sz = 2 from rfl, Nat.mul_one, Nat.add_zero] at Zg); clear Xv UO Xw aa2) | ((with_reducible refine kU (t := 3) (p := 41) rfl ?_); refine ku (t := 3) (p := 41) (v := ?vo_w31) (w1 := (Xm.setCell ⟨Nb, ((nP) : Int).toNat * 2 + 1, none⟩ (.int .i64 (wrap64 (((aY y113 (nP)).f1) + 1))))) ?hg ?ho ?hn ?hr ?_; (case ho => rfl); (case hg => rfl); (case hn => rfl); (case hr => first | (go_simp; done) | (go_simp; rfl)); intro w31 hw; have hg : Xm.grownBy w31 (some Nb) := (by rw [hw]; exact Ze.2); have hp_ : Kd.R nD 127 w31 w.heap.size (fun _ => True) (.slice (some ⟨Nb, 0, none⟩) y113.length Q9) Y9 := (by rw [hw, aaV.out]; exact Ze.1); clear Ze; replace lG := ah (hp_); replace HB := ah ((by rw [hw]; exact aA (HB.out) ad3.out : Below w.heap.size w w31)); clear hg hw hp_; have Zh : 0 ≤ (bF : Int) := aiI (by assumption); have Zi : bF < (l0.length : Int) := aiI (by assumption); obtain ⟨aa3, e118, Kv⟩ := Kd.fA HR0.out bF Zh Zi; obtain rfl : Qi = aa3 := (by injection e118); replace Kv := (HB.out.cell (World.block_lt_of_cell? w _ Kv)).trans Kv; replace Zh := eq_true Zh; replace Zi := eq_true Zi))
        go_roundg k1
        case measure => have := jf.out; omega
        case rel => exact ⟨(Y9), (wrap64 ((rd l0 bF) + 1)), (wrap64 (bF + 1)), (by first | rfl | (simp; done) | (simp [*]; done)), (by first | rfl | (simp; done) | (simp [*]; done)), H', ⟨by have := jf.out; omega⟩, ⟨by (repeat with_reducible refine Kd.kJ ?_); exact lG.out⟩, ⟨by repeat (first | (with_reducible first | exact HB.out | apply ak | apply au | apply aC) | exact HB.out)⟩⟩
       rw [if_neg SE] at H
       exact absurd H (by simp)
      rw [if_neg c25] at H
      exact absurd H (by simp)
     rw [if_neg c23] at H
     exact absurd H (by simp)
    rw [if_neg c14] at H
    exact absurd H (by simp)
   rw [if_neg c2] at H
   have c2b0 : decide (bF < (l0.length : Int)) = false := aiK c2
   clear c2
   obtain rfl := Option.some.inj H
   go_wp2
   go_ret
   exact ⟨_, by first | rfl | (simp [aT, aU] <;> rfl) | (simp [*, aT, aU] <;> rfl), by (repeat with_reducible refine Kd.kJ ?_); exact HO_3.out, by repeat (first | (with_reducible first | exact HB.out | apply ak | apply au | apply aC) | exact HB.out)⟩
end Go.Proofs.Ytooiccpmngmapaa.P