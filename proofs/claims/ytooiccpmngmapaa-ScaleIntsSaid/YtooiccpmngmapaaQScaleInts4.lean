/- ScaleInts: the part that this text bears of the proof that the statement answers true for every input. No condition. -/
import Derived.Test.YtooiccpmngmapaaQScaleInts3
set_option linter.unusedVariables false
set_option linter.unusedSimpArgs false
namespace Go.Proofs.Ytooiccpmngmapaa.P
open Go.RowKit Go.Proofs.YtooiccpmngmapaaW.PrintWords Go.Proofs.YtooiccpmngmapaaW.PrintLast Go.Proofs.YtooiccpmngmapaaW.PrintMore
attribute [local go_sem] jh ji jR jS iI iJ jk jl
def pairs_Zip_uint64.l0 : Nat → List Int → List (gW) → List Int → Int → Int → Option ((List (gW)) × Int)
 | 0, _, _, _, _, _ => none
 | k + 1, x1, x8, Vp, x27, x28 => if x28 < x27 then (if 0 ≤ x28 then (if x28 < (Vp.length : Int) then (if x28 < (x1.length : Int) then (if x8.length < 8796093022208 then (pairs_Zip_uint64.l0 k x1 (x8 ++ [(⟨rd Vp x28, rd x1 x28⟩ : gW)]) Vp x27 (wrap64 (x28 + 1))) else (none)) else (none)) else (none)) else (none)) else (some (x8, 0))
def pairs_Zip_uint64.f (k : Nat) (l0 : List (dP)) (l1 : List Int) : Option ((List (gW)) × Int) := (span_Places.f k l0).bind fun kY => (if kY.2 = 0 then (if (kY.1.length : Int) = (l1.length : Int) then (pairs_Zip_uint64.l0 k l1 ([] : List (gW)) kY.1 (kY.1.length : Int) 0) else (some (([] : List (gW)), 10))) else (some (([] : List (gW)), kY.2)))
set_option maxHeartbeats 8000000 in
set_option maxRecDepth 100000 in
theorem pairs_Zip_uint64.calls (k : Nat) (A0 : Option Addr) (c0 : Nat) (l0 : List (dP)) (A1 : Option Addr) (c1 : Nat) (l1 : List Int) (r1 : List (gW)) (r2 : Int) (w : World) (hr0 : Kd.C jE w A0 l0.length l0) (hc0 : l0.length ≤ c0) (hr1 : Kd.C (Kd.int .u64) w A1 l1.length l1) (hc1 : l1.length ≤ c1) (h : pairs_Zip_uint64.f k l0 l1 = some (r1, r2)) :
  Calls Try.prog 175 #[.slice A0 l0.length c0, .slice A1 l1.length c1] w fun e w' => ∃ lY : Value, e = .returned (.tuple #[lY, .int .i64 r2]) ∧ Kd.R kV 192 w' w.heap.size (fun _ => True) lY r1 ∧ Below w.heap.size w w' := by
 have Xk := Try.underlying192
 have HR0 := ah hr0
 have tK := ah hc0
 clear hr0 hc0
 have HR1 := ah hr1
 have Fj := ah hc1
 clear hr1 hc1
 have HB := ah (Below.refl w.heap.size w)
 have H : ((span_Places.f k l0).bind fun kY => (if kY.2 = 0 then (if (kY.1.length : Int) = (l1.length : Int) then (pairs_Zip_uint64.l0 k l1 ([] : List (gW)) kY.1 (kY.1.length : Int) 0) else (some (([] : List (gW)), 10))) else (some (([] : List (gW)), kY.2)))) = some (r1, r2) := h
 clear h
 replace H := Option.bind_eq_some_iff.mp H
 obtain ⟨⟨dV, eP⟩, IG, H⟩ := H
 replace H : (if eP = 0 then (if (dV.length : Int) = (l1.length : Int) then (pairs_Zip_uint64.l0 k l1 ([] : List (gW)) dV (dV.length : Int) 0) else (some (([] : List (gW)), 10))) else (some (([] : List (gW)), eP))) = some (r1, r2) := H
 have A3 := ah IG
 clear IG
 by_cases c4 : eP = 0
 ·rw [if_pos c4] at H
  have c4b0 : (eP == 0) = true := beq_iff_eq.mpr c4
  have c4b1 : (eP != 0) = false := bne_eq_false_iff_eq.mpr c4
  clear c4
  by_cases c5 : (dV.length : Int) = (l1.length : Int)
  ·rw [if_pos c5] at H
   have c5b0 : ((dV.length : Int) == (l1.length : Int)) = true := beq_iff_eq.mpr c5
   have c5b1 : ((dV.length : Int) != (l1.length : Int)) = false := bne_eq_false_iff_eq.mpr c5
   have c5b2 : (dV.length == l1.length) = true := by first | simpa using c5 | (simp at c5 ⊢; omega)
   clear c5
   have H' := ah H
   clear H
   go_enter Try.func175, Try.ntmps175
   go_wp2_with (first | ((with_reducible refine bH (f := 181) rfl ?_); refine eH (some 13) Try.func181 #[.slice A0 l0.length c0] ?_; (with_reducible refine (span_Places.calls k _ _ l0 dV eP _ ?dw ?dA A3.out).mono ?_); (case dw => exact Kd.jT HR0.out); (case dA => exact tK.out); rintro e w6 ⟨yK, rfl, ho0, hb⟩; refine ⟨_, rfl, ?_⟩; have iq := ah (Kd.bV ho0 (aI (aX HB.out))); replace HB := ah (aW (aX HB.out) hb); (try clear hb); (try clear hb2); (try clear hk); (try clear hi); (try clear ho0); clear A3; obtain ⟨NR, KJ, VB⟩ := Kd.bY iq.out; subst VB))
   go_loopg [8, 28] k (fun kq v8 v28 w' => ∃ (bK : List (gW)) (iw : Int), v28 = .int .i64 iw ∧ aj (pairs_Zip_uint64.l0 kq l1 bK dV (dV.length : Int) iw = some (r1, r2)) ∧ aj (kq ≤ k) ∧ aj (Kd.R kV 192 w' w.heap.size (fun _ => True) v8 bK) ∧ aj (Kd.R (Kd.int .i64) 3 w' w.heap.size (fun _ => True) (.slice NR dV.length KJ) dV) ∧ aj (Below w.heap.size w w'))
   case atStart => exact ⟨(([] : List (gW))), (0), (by first | rfl | (simp; done) | (simp [*]; done)), H', ⟨Nat.le_refl _⟩, ⟨by first | exact Kd.dY _ _ _ _ _ | exact Kd.gI _ _ _ _ _ | exact Kd.gJ _ _ _ _ _ | exact Kd.gB _ _ _ _ _ | exact Kd.gG _ _ _ _ _⟩, ⟨by (repeat with_reducible refine Kd.kJ ?_); exact iq.out⟩, ⟨by repeat (first | (with_reducible first | exact HB.out | apply ak | apply au | apply aC) | exact HB.out)⟩⟩
   case round =>
    clear H'
    try clear c1
    try clear p2
    try clear c4
    try clear c4b0
    try clear c4b1
    try clear c5
    try clear c5b0
    try clear c5b1
    try clear c5b2
    obtain ⟨bK, iw, rfl, HA, jf, HO_8, HO_26, HB⟩ := hrel
    cases gk with
    | zero => exact absurd HA.out (by simp [pairs_Zip_uint64.l0])
    | succ k1 =>
     have H := HA.out
     clear HA
     simp only [pairs_Zip_uint64.l0] at H
     by_cases c8 : iw < (dV.length : Int)
     ·rw [if_pos c8] at H
      have c8b0 : decide (iw < (dV.length : Int)) = true := aiJ c8
      clear c8
      by_cases c9 : 0 ≤ iw
      ·rw [if_pos c9] at H
       have c9b0 : decide (0 ≤ iw) = true := aiJ c9
       clear c9
       by_cases c10 : iw < (dV.length : Int)
       ·rw [if_pos c10] at H
        have c10b0 : decide (iw < (dV.length : Int)) = true := aiJ c10
        clear c10
        by_cases c11 : iw < (l1.length : Int)
        ·rw [if_pos c11] at H
         have c11b0 : decide (iw < (l1.length : Int)) = true := aiJ c11
         clear c11
         by_cases c12 : bK.length < 8796093022208
         ·rw [if_pos c12] at H
          have Tz := ah c12
          clear c12
          obtain ⟨Ej, nR⟩ : ∃ y_ : List (gW), y_ = (bK ++ [(⟨rd dV iw, rd l1 iw⟩ : gW)]) := ⟨_, rfl⟩
          replace H : (pairs_Zip_uint64.l0 k1 l1 Ej dV (dV.length : Int) (wrap64 (iw + 1))) = some (r1, r2) := by first | (rw [nR]; with_reducible exact H) | (have jm := (Option.bind_some _ _).symm.trans H; rw [nR]; with_reducible exact jm) | (have jm := (Option.bind_some _ _).symm.trans H; with_reducible exact jm) | with_reducible exact H | (rw [nR]; exact H) | exact H
          have EZ := ah nR
          clear nR
          have H' := ah H
          clear H
          have pX : 0 ≤ (iw : Int) := aiI (by assumption)
          have pY : iw < (dV.length : Int) := aiI (by assumption)
          obtain ⟨DU, Aq, lS⟩ := Kd.fA (Kd.bD HO_26.out).2.2 iw pX pY
          cases Aq
          replace pX := eq_true pX
          replace pY := eq_true pY
          have xw : 0 ≤ (iw : Int) := aiI (by assumption)
          have xA : iw < (l1.length : Int) := aiI (by assumption)
          obtain ⟨Lc, Jz, qE⟩ := Kd.fA HR1.out iw xw xA
          cases Jz
          replace qE := (HB.out.cell (World.block_lt_of_cell? w _ qE)).trans qE
          replace xw := eq_true xw
          replace xA := eq_true xA
          go_wp2_with (first | ((with_reducible refine dZ (b := .append) (xs := #[.tmp 33, .tmp 40]) rfl ?_); at_builtin; refine Kd.iP kV (w0 := w) w.heap.size rfl (.tmp 33) (.tmp 40) 129 192 (.agg #[(.int .i64 0), (.int .u64 0)]) 16 rfl Try.underlying129 Bq rfl (by decide) (by omega) u8 bK (⟨rd dV iw, rd l1 iw⟩ : gW) [.int .i64 (rd dV iw), .int .u64 (rd l1 iw)] (fun _ => True) (fun _ => False) rfl rfl ?aP (fun _ hk => hk.elim) ?aF ?aO ?aB ?aS ?aL ?_; (case aP => exact mF _ _ _ (⟨rd dV iw, rd l1 iw⟩ : gW)); (case aB => exact (aX HB.out)); (case aF => exact (fun _ _ => trivial)); (case aO => exact (Kd.fB HO_8.out)); (case aS => exact (aI (aX HB.out))); (case aL => have := Tz.out; omega); intro TA QA ho hb hg hat; rw [← EZ.out] at ho; have gZ := ah (Kd.jM (Kd.fB HO_26.out) (Kd.je (Kd.fB HO_8.out)) (by decide) hg); have qX := ah (ho); replace HB := ah (hb); clear HO_8 HO_26; have HO_26 := gZ; clear gZ ho hb hg hat))
          go_roundg k1
          case measure => have := jf.out; omega
          case rel => exact ⟨(Ej), (wrap64 (iw + 1)), (by first | rfl | (simp; done) | (simp [*]; done)), H', ⟨by have := jf.out; omega⟩, ⟨by (repeat with_reducible refine Kd.kJ ?_); exact qX.out⟩, ⟨by (repeat with_reducible refine Kd.kJ ?_); exact HO_26.out⟩, ⟨by repeat (first | (with_reducible first | exact HB.out | apply ak | apply au | apply aC) | exact HB.out)⟩⟩
         rw [if_neg c12] at H
         exact absurd H (by simp)
        rw [if_neg c11] at H
        exact absurd H (by simp)
       rw [if_neg c10] at H
       exact absurd H (by simp)
      rw [if_neg c9] at H
      exact absurd H (by simp)
     rw [if_neg c8] at H
     have c8b0 : decide (iw < (dV.length : Int)) = false := aiK c8
     clear c8
     simp only [Option.some.injEq, Prod.mk.injEq] at H
     obtain ⟨rfl, rfl⟩ := H
     go_wp2
     go_ret2
     exact ⟨_, by first | rfl | (simp [aT, aU] <;> rfl) | (simp [*, aT, aU] <;> rfl), by (repeat with_reducible refine Kd.kJ ?_); exact HO_8.out, by repeat (first | (with_reducible first | exact HB.out | apply ak | apply au | apply aC) | exact HB.out)⟩
  rw [if_neg c5] at H
  have c5b0 : ((dV.length : Int) == (l1.length : Int)) = false := beq_eq_false_iff_ne.mpr c5
  have c5b1 : ((dV.length : Int) != (l1.length : Int)) = true := bne_iff_ne.mpr c5
  have c5b2 : (dV.length == l1.length) = false := by first | simpa using c5 | (simp at c5 ⊢; omega)
  simp only [Option.some.injEq, Prod.mk.injEq] at H
  obtain ⟨rfl, rfl⟩ := H
  go_enter Try.func175, Try.ntmps175
  go_wp2_with (first | ((with_reducible refine bH (f := 181) rfl ?_); refine eH (some 13) Try.func181 #[.slice A0 l0.length c0] ?_; (with_reducible refine (span_Places.calls k _ _ l0 dV eP _ ?dw ?dA A3.out).mono ?_); (case dw => exact Kd.jT HR0.out); (case dA => exact tK.out); rintro e w14 ⟨yK, rfl, ho0, hb⟩; refine ⟨_, rfl, ?_⟩; have iq := ah (Kd.bV ho0 (aI (aX HB.out))); replace HB := ah (aW (aX HB.out) hb); (try clear hb); (try clear hb2); (try clear hk); (try clear hi); (try clear ho0); clear A3; obtain ⟨NS, Le, Em⟩ := Kd.bY iq.out; subst Em))
  go_ret2
  exact ⟨_, by first | rfl | (simp [aT, aU] <;> rfl) | (simp [*, aT, aU] <;> rfl), by first | exact Kd.dY _ _ _ _ _ | exact Kd.gI _ _ _ _ _ | exact Kd.gJ _ _ _ _ _ | exact Kd.gB _ _ _ _ _ | exact Kd.gG _ _ _ _ _, by repeat (first | (with_reducible first | exact HB.out | apply ak | apply au | apply aC) | exact HB.out)⟩
 rw [if_neg c4] at H
 have c4b0 : (eP == 0) = false := beq_eq_false_iff_ne.mpr c4
 have c4b1 : (eP != 0) = true := bne_iff_ne.mpr c4
 simp only [Option.some.injEq, Prod.mk.injEq] at H
 obtain ⟨rfl, rfl⟩ := H
 go_enter Try.func175, Try.ntmps175
 go_wp2_with (first | ((with_reducible refine bH (f := 181) rfl ?_); refine eH (some 13) Try.func181 #[.slice A0 l0.length c0] ?_; (with_reducible refine (span_Places.calls k _ _ l0 dV eP _ ?dw ?dA A3.out).mono ?_); (case dw => exact Kd.jT HR0.out); (case dA => exact tK.out); rintro e w16 ⟨yK, rfl, ho0, hb⟩; refine ⟨_, rfl, ?_⟩; have iq := ah (Kd.bV ho0 (aI (aX HB.out))); replace HB := ah (aW (aX HB.out) hb); (try clear hb); (try clear hb2); (try clear hk); (try clear hi); (try clear ho0); clear A3))
 go_ret2
 exact ⟨_, by first | rfl | (simp [aT, aU] <;> rfl) | (simp [*, aT, aU] <;> rfl), by first | exact Kd.dY _ _ _ _ _ | exact Kd.gI _ _ _ _ _ | exact Kd.gJ _ _ _ _ _ | exact Kd.gB _ _ _ _ _ | exact Kd.gG _ _ _ _ _, by repeat (first | (with_reducible first | exact HB.out | apply ak | apply au | apply aC) | exact HB.out)⟩
def pairs_Unzip_uint64.l0 : Nat → List Int → List Int → List (gW) → Int → Int → Option ((List (dP)) × List Int × Int)
 | 0, _, _, _, _, _ => none
 | k + 1, x5, x6, x11, x12, uy => if uy < x12 then (if 0 ≤ uy then (if uy < (x11.length : Int) then ((some (([(bg x11 uy).f0] : List Int) : List Int)).bind fun gV => (if x5.length + gV.length < 17592186044416 then ((some (([(bg x11 uy).f1] : List Int) : List Int)).bind fun mG => (if x6.length + mG.length < 17592186044416 then (pairs_Unzip_uint64.l0 k (x5 ++ gV) (x6 ++ mG) x11 x12 (wrap64 (uy + 1))) else (none))) else (none))) else (none)) else (none)) else ((span_From.f k x5).bind fun Fp => (if Fp.2 = 0 then (some (Fp.1, x6, 0)) else (some (([] : List (dP)), ([] : List Int), Fp.2))))
def pairs_Unzip_uint64.f (k : Nat) (l0 : List (gW)) : Option ((List (dP)) × List Int × Int) := pairs_Unzip_uint64.l0 k ([] : List Int) ([] : List Int) l0 (l0.length : Int) 0
def pairs_Unzip_uint64.T6 : Bool × List (List Nat × List Nat) := (true, [([], []), ([], []), ([1], [1]), ([2], [2]), ([0, 3], [0, 3]), ([], []), ([], []), ([6], [6]), ([7], [7]), ([5, 8, 4], [5, 8]), ([4, 9, 0, 1, 2, 3, 4], [0, 4]), ([9, 10, 0, 1, 2, 3, 4, 5, 6, 7, 8, 9, 10], [5, 9])])
def pairs_Unzip_uint64.B6 : List Nat := [0, 0, 2, 6, 15, 0, 0, 64, 192, 511, 1023, 2047]
theorem pairs_Unzip_uint64.tab6 : rZ .any (opsOf Try.f147 6) = pairs_Unzip_uint64.T6 := by kernel_rfl
theorem pairs_Unzip_uint64.TB : tJ pairs_Unzip_uint64.T6.2 pairs_Unzip_uint64.B6 = true := by kernel_rfl
set_option maxHeartbeats 8000000 in
set_option maxRecDepth 100000 in
theorem pairs_Unzip_uint64.calls (k : Nat) (A0 : Option Addr) (c0 : Nat) (l0 : List (gW)) (r1 : List (dP)) (r2 : List Int) (r3 : Int) (w : World) (hr0 : Kd.C kV w A0 l0.length l0) (hc0 : l0.length ≤ c0) (h : pairs_Unzip_uint64.f k l0 = some (r1, r2, r3)) :
  Calls Try.prog 147 #[.slice A0 l0.length c0] w fun e w' => ∃ lY KL : Value, e = .returned (.tuple #[lY, KL, .int .i64 r3]) ∧ Kd.R jE 113 w' w.heap.size (fun _ => True) lY r1 ∧ Kd.R (Kd.int .u64) 25 w' w.heap.size (fun _ => True) KL r2 ∧ Below w.heap.size w w' := by
 have Xk := Try.underlying192
 have HR0 := ah hr0
 have tK := ah hc0
 clear hr0 hc0
 have HB := ah (Below.refl w.heap.size w)
 have H : (pairs_Unzip_uint64.l0 k ([] : List Int) ([] : List Int) l0 (l0.length : Int) 0) = some (r1, r2, r3) := h
 clear h
 have H' := ah H
 clear H
 go_enter Try.func147, Try.ntmps147
 go_wp2
 go_loopg [5, 6, 13] k (fun kq v5 v6 v13 w' => ∃ (bF : List Int) (fH : List Int) (bI : Int), v13 = .int .i64 bI ∧ aj (pairs_Unzip_uint64.l0 kq bF fH l0 (l0.length : Int) bI = some (r1, r2, r3)) ∧ aj (kq ≤ k) ∧ aj (Kd.R (Kd.int .i64) 3 w' w.heap.size (fun _ => True) v5 bF) ∧ aj (Kd.R (Kd.int .u64) 25 w' w.heap.size (fun _ => True) v6 fH) ∧ aj (Below w.heap.size w w'))
 case atStart => exact ⟨(([] : List Int)), (([] : List Int)), (0), (by first | rfl | (simp; done) | (simp [*]; done)), H', ⟨Nat.le_refl _⟩, ⟨by first | exact Kd.dY _ _ _ _ _ | exact Kd.gI _ _ _ _ _ | exact Kd.gJ _ _ _ _ _ | exact Kd.gB _ _ _ _ _ | exact Kd.gG _ _ _ _ _⟩, ⟨by first | exact Kd.dY _ _ _ _ _ | exact Kd.gI _ _ _ _ _ | exact Kd.gJ _ _ _ _ _ | exact Kd.gB _ _ _ _ _ | exact Kd.gG _ _ _ _ _⟩, ⟨by repeat (first | (with_reducible first | exact HB.out | apply ak | apply au | apply aC) | exact HB.out)⟩⟩
 case round =>
  clear H'
  try clear c1
  obtain ⟨bF, fH, bI, rfl, HA, jf, HO_5, HO_6, HB⟩ := hrel
  cases gk with
  | zero => exact absurd HA.out (by simp [pairs_Unzip_uint64.l0])
  | succ k1 =>
   have H := HA.out
   clear HA
   simp only [pairs_Unzip_uint64.l0] at H
   by_cases c2 : bI < (l0.length : Int)
   ·rw [if_pos c2] at H
    have c2b0 : decide (bI < (l0.length : Int)) = true := aiJ c2
    clear c2
    by_cases c3 : 0 ≤ bI
    ·rw [if_pos c3] at H
     have c3b0 : decide (0 ≤ bI) = true := aiJ c3
     clear c3
     by_cases c4 : bI < (l0.length : Int)
     ·rw [if_pos c4] at H
      have c4b0 : decide (bI < (l0.length : Int)) = true := aiJ c4
      clear c4
      obtain ⟨gV, kM⟩ : ∃ y_ : List Int, y_ = (([(bg l0 bI).f0] : List Int)) := ⟨_, rfl⟩
      replace H : (if bF.length + gV.length < 17592186044416 then ((some (([(bg l0 bI).f1] : List Int) : List Int)).bind fun mG => (if fH.length + mG.length < 17592186044416 then (pairs_Unzip_uint64.l0 k1 (bF ++ gV) (fH ++ mG) l0 (l0.length : Int) (wrap64 (bI + 1))) else (none))) else (none)) = some (r1, r2, r3) := by first | (rw [kM]; with_reducible exact H) | (have jm := (Option.bind_some _ _).symm.trans H; rw [kM]; with_reducible exact jm) | (have jm := (Option.bind_some _ _).symm.trans H; with_reducible exact jm) | with_reducible exact H | (rw [kM]; exact H) | exact H
      have su := ah kM
      clear kM
      by_cases c5 : bF.length + gV.length < 17592186044416
      ·rw [if_pos c5] at H
       have Fq := ah c5
       clear c5
       obtain ⟨yL, sF⟩ : ∃ y_ : List Int, y_ = (bF ++ gV) := ⟨_, rfl⟩
       replace H : ((some (([(bg l0 bI).f1] : List Int) : List Int)).bind fun mG => (if fH.length + mG.length < 17592186044416 then (pairs_Unzip_uint64.l0 k1 yL (fH ++ mG) l0 (l0.length : Int) (wrap64 (bI + 1))) else (none))) = some (r1, r2, r3) := by first | (rw [sF]; with_reducible exact H) | (have jm := (Option.bind_some _ _).symm.trans H; rw [sF]; with_reducible exact jm) | (have jm := (Option.bind_some _ _).symm.trans H; with_reducible exact jm) | with_reducible exact H | (rw [sF]; exact H) | exact H
       have BN := ah sF
       clear sF
       obtain ⟨mG, nX⟩ : ∃ y_ : List Int, y_ = (([(bg l0 bI).f1] : List Int)) := ⟨_, rfl⟩
       replace H : (if fH.length + mG.length < 17592186044416 then (pairs_Unzip_uint64.l0 k1 yL (fH ++ mG) l0 (l0.length : Int) (wrap64 (bI + 1))) else (none)) = some (r1, r2, r3) := by first | (rw [nX]; with_reducible exact H) | (have jm := (Option.bind_some _ _).symm.trans H; rw [nX]; with_reducible exact jm) | (have jm := (Option.bind_some _ _).symm.trans H; with_reducible exact jm) | with_reducible exact H | (rw [nX]; exact H) | exact H
       have pz := ah nX
       clear nX
       by_cases c6 : fH.length + mG.length < 17592186044416
       ·rw [if_pos c6] at H
        have TD := ah c6
        clear c6
        obtain ⟨y112, hy112⟩ : ∃ y_ : List Int, y_ = (fH ++ mG) := ⟨_, rfl⟩
        replace H : (pairs_Unzip_uint64.l0 k1 yL y112 l0 (l0.length : Int) (wrap64 (bI + 1))) = some (r1, r2, r3) := by first | (rw [hy112]; with_reducible exact H) | (have jm := (Option.bind_some _ _).symm.trans H; rw [hy112]; with_reducible exact jm) | (have jm := (Option.bind_some _ _).symm.trans H; with_reducible exact jm) | with_reducible exact H | (rw [hy112]; exact H) | exact H
        have Lh := ah hy112
        clear hy112
        have H' := ah H
        clear H
        have eX : 0 ≤ (bI : Int) := aiI (by assumption)
        have eY : bI < (l0.length : Int) := aiI (by assumption)
        obtain ⟨jU, jK, bP, dS⟩ := wZ HR0.out bI eX eY
        cases jK
        replace bP := (HB.out.cell (World.block_lt_of_cell? w _ bP)).trans bP
        replace dS := (HB.out.cell (World.block_lt_of_cell? w _ dS)).trans dS
        replace eX := eq_true eX
        replace eY := eq_true eY
        try go_wp2_with (first | ((with_reducible refine fJ (N := 8) rfl ?_); refine eU ?hg (N := 8) ?hd (cs := #[.int .i64 0, .int .u64 0]) (t := 192) ?hr ?_; (case hd => rfl); (case hg => rfl); (case hr => first | (go_simp; done) | (go_simp; rfl)); intro aJ hg w7 hbox hb; have aN := ah (hbox); have oM := ah ((by rw [hg]; exact (aI (aX HB.out)) : w.heap.size ≤ aJ)); have bT := ah ((by rw [hg]; exact (aI (aX HB.out)) : w.heap.size ≤ aJ)); replace HO_5 := ah (Kd.kE HO_5.out hb); replace HO_6 := ah (Kd.kE HO_6.out hb); replace HB := ah (aW (aX HB.out) hb); clear hb hbox hg; have TF := ay aN.out; have TG := aG aN.out; obtain ⟨LM, KO, VD⟩ := Kd.bY HO_5.out; subst VD; obtain ⟨tX, tY, LP⟩ := Kd.bY HO_6.out; subst LP))
        have gZ : aj (Kd.R (Kd.int .i64) 3 ((w7.setCell ⟨aJ, 0, none⟩ (.int .i64 ((bg l0 bI).f0))).setCell ⟨aJ, 1, none⟩ (.int .u64 ((bg l0 bI).f1))) w.heap.size (fun _ => True) (.slice LM bF.length KO) bF) := ⟨by (repeat with_reducible refine Kd.kJ ?_); exact Kd.cu (Kd.cZ (p := ⟨aJ, 1, none⟩) (Kd.cZ (p := ⟨aJ, 0, none⟩) (Kd.gY HO_5.out aN.out (by decide)) (fun _ hk => hk.2) (.int .i64 ((bg l0 bI).f0))) (fun _ hk => hk.2) (.int .u64 ((bg l0 bI).f1))) (fun _ hk => trivial)⟩
        have iL : aj (Kd.R (Kd.int .u64) 25 ((w7.setCell ⟨aJ, 0, none⟩ (.int .i64 ((bg l0 bI).f0))).setCell ⟨aJ, 1, none⟩ (.int .u64 ((bg l0 bI).f1))) w.heap.size (fun _ => True) (.slice tX fH.length tY) fH) := ⟨by (repeat with_reducible refine Kd.kJ ?_); exact Kd.cu (Kd.cZ (p := ⟨aJ, 1, none⟩) (Kd.cZ (p := ⟨aJ, 0, none⟩) (Kd.gY HO_6.out aN.out (by decide)) (fun _ hk => hk.2) (.int .i64 ((bg l0 bI).f0))) (fun _ hk => hk.2) (.int .u64 ((bg l0 bI).f1))) (fun _ hk => trivial)⟩
        have jC : aj (((w7.setCell ⟨aJ, 0, none⟩ (.int .i64 ((bg l0 bI).f0))).setCell ⟨aJ, 1, none⟩ (.int .u64 ((bg l0 bI).f1))).heap[aJ]? = some (.cells #[.int .i64 ((bg l0 bI).f0), .int .u64 ((bg l0 bI).f1)] 192 (0, 0))) := ⟨by (repeat with_reducible refine bQ ?_); refine bC (cs := #[.int .i64 ((bg l0 bI).f0), .int .u64 0]) ?_ 1 _ rfl; (repeat with_reducible refine bQ ?_); refine bC (cs := #[.int .i64 0, .int .u64 0]) ?_ 0 _ rfl; (repeat with_reducible refine bQ ?_); exact aN.out⟩
        have jZ : aj (Below w.heap.size w ((w7.setCell ⟨aJ, 0, none⟩ (.int .i64 ((bg l0 bI).f0))).setCell ⟨aJ, 1, none⟩ (.int .u64 ((bg l0 bI).f1)))) := ⟨by repeat (first | (with_reducible first | exact HB.out | apply ak | apply au | apply aC | refine aA ?_ bT.out) | exact HB.out)⟩
        (try clear HO_5)
        (try clear HO_6)
        (try clear aN)
        (try clear HB)
        generalize ((w7.setCell ⟨aJ, 0, none⟩ (.int .i64 ((bg l0 bI).f0))).setCell ⟨aJ, 1, none⟩ (.int .u64 ((bg l0 bI).f1))) = VE at gZ iL jC jZ ⊢
        have HO_5 := gZ
        have HO_6 := iL
        have aN := jC
        have HB := jZ
        clear gZ iL jC jZ
        have gZ := ah (Kd.yF HO_5.out)
        have iL := ah (Kd.yF HO_6.out)
        have jC := ah (rY aN.out)
        have jZ := ah (aC HB.out)
        clear HO_5
        clear HO_6
        clear aN
        clear HB
        have HO_5 := gZ
        have HO_6 := iL
        have aN := jC
        have HB := jZ
        clear gZ iL jC jZ
        refine Dj (n := 12) (S := fun w' => w'.cell? ⟨aJ, 0, none⟩ = some (.int .i64 ((bg l0 bI).f0)) ∧ w'.cell? ⟨aJ, 1, none⟩ = some (.int .u64 ((bg l0 bI).f1))) (ds := []) #[false, false, false, false, false, false, false, false, false, false, false, false] (by kernel_rfl) rfl rfl ⟨(ay aN.out 0).trans rfl, (ay aN.out 1).trans rfl⟩ (fun hHeld => ?_); refine uf pairs_Unzip_uint64.tab6 pairs_Unzip_uint64.TB (fun HT_ HW_ => ?_)
        generalize VE.drew = w12 at HO_5 HO_6 aN HB hHeld ⊢
        refine iH (i := 0) (N := some 17) (v := ?_) (a' := ?_) #[true, false, false, false, false, false, false, false, false, false, false, false] rfl rfl (gu HT_.out (by kernel_rfl)) (fun _ _ _ h => h) (Or.inl ⟨by rfl, ?_⟩) ?_ ?_
        rotate_left
        ·intro w'
         go_simp
         with_reducible rfl
        rotate_left
        ·simp only [Act.put, List.setIfInBounds_toArray, List.set_cons_zero, List.set_cons_succ, dh, dF]
         rfl
        refine iH (i := 1) (N := some 18) (v := ?_) (a' := ?_) #[true, true, false, false, false, false, false, false, false, false, false, false] rfl rfl (gu HT_.out (by kernel_rfl)) (fun _ _ _ h => h) (Or.inl ⟨by rfl, ?_⟩) ?_ ?_
        rotate_left
        ·intro w'
         go_simp
         with_reducible rfl
        rotate_left
        ·simp only [Act.put, List.setIfInBounds_toArray, List.set_cons_zero, List.set_cons_succ, dh, dF]
         rfl
        refine iH (i := 5) (N := some 22) (v := ?_) (a' := ?_) #[true, true, false, false, false, true, false, false, false, false, false, false] rfl rfl (gu HT_.out (by kernel_rfl)) (fun _ _ _ h => h) (Or.inl ⟨by rfl, ?_⟩) ?_ ?_
        rotate_left
        ·intro w'
         go_simp
         with_reducible rfl
        rotate_left
        ·simp only [Act.put, List.setIfInBounds_toArray, List.set_cons_zero, List.set_cons_succ, dh, dF]
         rfl
        refine iH (i := 6) (N := some 23) (v := ?_) (a' := ?_) #[true, true, false, false, false, true, true, false, false, false, false, false] rfl rfl (gu HT_.out (by kernel_rfl)) (fun _ _ _ h => h) (Or.inl ⟨by rfl, ?_⟩) ?_ ?_
        rotate_left
        ·intro w'
         go_simp
         with_reducible rfl
        rotate_left
        ·simp only [Act.put, List.setIfInBounds_toArray, List.set_cons_zero, List.set_cons_succ, dh, dF]
         rfl
        refine mP (i := 2) (N := some 19) (v := ?_) (a' := ?_) #[true, true, true, false, false, true, true, false, false, false, false, false] rfl rfl (iQ HT_.out HW_.out (by kernel_rfl)) (fun _ _ _ h => h) (Or.inl ⟨by rfl, ?_⟩) hHeld ?_ ?_
        rotate_left
        ·rintro w' ⟨s0, s1⟩
         go_simp
         with_reducible rfl
        rotate_left
        ·simp only [Act.put, List.setIfInBounds_toArray, List.set_cons_zero, List.set_cons_succ, dh, dF]
         rfl
        refine mP (i := 7) (N := some 24) (v := ?_) (a' := ?_) #[true, true, true, false, false, true, true, true, false, false, false, false] rfl rfl (iQ HT_.out HW_.out (by kernel_rfl)) (fun _ _ _ h => h) (Or.inl ⟨by rfl, ?_⟩) hHeld ?_ ?_
        rotate_left
        ·rintro w' ⟨s0, s1⟩
         go_simp
         with_reducible rfl
        rotate_left
        ·simp only [Act.put, List.setIfInBounds_toArray, List.set_cons_zero, List.set_cons_succ, dh, dF]
         rfl
        refine WO (σ := Value × Value × Value) 3 #[true, true, true, true, true, true, true, true, true, false, false, false] (fun s_ => [(20, s_.1), (21, s_.2.1), (25, s_.2.2)]) (fun s_ w' => (w'.cell? ⟨aJ, 0, none⟩ = some (.int .i64 ((bg l0 bI).f0)) ∧ w'.cell? ⟨aJ, 1, none⟩ = some (.int .u64 ((bg l0 bI).f1))) ∧ (Kd.R (Kd.int .i64) 3 w' w.heap.size (fun k_ => some k_ ≠ (s_.2.1 : Value).ownBlock) s_.1 gV) ∧ (Kd.R (Kd.int .i64) 3 w' w.heap.size (fun k_ => some k_ ≠ (s_.1 : Value).ownBlock) s_.2.1 yL) ∧ (Kd.R (Kd.int .u64) 25 w' w.heap.size (fun k_ => some k_ ≠ (.slice tX fH.length tY : Value).ownBlock) s_.2.2 mG) ∧ (Kd.R (Kd.int .u64) 25 w' w.heap.size (fun k_ => some k_ ≠ (s_.2.2 : Value).ownBlock) (.slice tX fH.length tY) fH) ∧ (w'.heap[aJ]? = some (.cells #[.int .i64 ((bg l0 bI).f0), .int .u64 ((bg l0 bI).f1)] 192 (0, 0))) ∧ (Below w.heap.size w w')) ?_ ?_
        rotate_left
        ·intro hCont
         refine U6 (i := 3) (j := 8) (Ni := some 20) (Nj := some 25) #[true, true, true, true, false, true, true, true, false, false, false, false] #[true, true, true, false, false, true, true, true, true, false, false, false] rfl rfl rfl rfl (Jr HT_.out (by kernel_rfl)) (by decide) (by decide) (fun K hK => ?_) (fun K hK => ?_)
         ·skip
          refine Kd.lU (Kd.int .i64) _ 3 ?hg (N := 20) ?hd (xs := ([(bg l0 bI).f0] : List Int)) (inner := [.int .i64 ((bg l0 bI).f0)]) (ok := fun _ => True) (okp := fun _ => True) ?hr ?hp (fun _ hk => hk) trivial (Below.refl _ _) (Nat.le_refl _) (by simp) ?_; (case hd => rfl); (case hg => rfl); (case hr => first | (go_simp; done) | (go_simp; rfl)); (case hp => exact (jA.one (show Kd.M (Kd.int .i64) _ _ _ ((bg l0 bI).f0) [.int .i64 ((bg l0 bI).f0)] from rfl) (jA.none _ _)))
          intro yJ QA rG hb hg_ hnew_
          clear hg_ hnew_
          (first | rw [← su.out] at rG | (simp only [Int.reduceToNat] at rG; rw [← su.out] at rG))
          have gZ := ah (Kd.dW (Kd.fB HO_5.out) (Kd.fP rG) hb)
          have iL := ah (Kd.kE HO_6.out hb)
          have jC := ah (Kd.bV (Kd.gq rG (Kd.jH (Kd.fB HO_5.out))) (aI (by repeat (first | (with_reducible first | exact HB.out | refine bJ ?_ | refine aA ?_ bT.out) | exact HB.out))))
          have jZ := ah (dX aN.out hb)
          have mQ := ah (aW (by repeat (first | (with_reducible first | exact HB.out | refine bJ ?_ | refine aA ?_ bT.out) | exact HB.out)) hb)
          clear HO_5
          clear HO_6
          clear aN
          clear HB
          have HO_5 := gZ
          have HO_6 := iL
          have eF := jC
          have aN := jZ
          have HB := mQ
          clear gZ iL jC jZ mQ
          clear hb rG
          obtain ⟨Hw, Fv, Fz⟩ := Kd.bY eF.out
          (first | subst Fz | (injection Fz with sG yM sH; have yN := sG.symm; have yO := sH.symm; clear sG yM sH; subst yN; subst yO))
          refine hK.out _ _ ⟨(ay aN.out 0).trans rfl, (ay aN.out 1).trans rfl⟩ (fun hHeld => ?_)
          clear hK K
          refine kC (a' := ?_) ?_ ?_
          rotate_left
          ·show Act.put _ (some 20) _ = _
           simp only [Act.put, List.setIfInBounds_toArray, List.set_cons_zero, List.set_cons_succ, dh, dF]
           rfl
          refine U6 (i := 4) (j := 8) (Ni := some 21) (Nj := some 25) #[true, true, true, true, true, true, true, true, false, false, false, false] #[true, true, true, true, false, true, true, true, true, false, false, false] rfl rfl rfl rfl (Jr HT_.out (by kernel_rfl)) (by decide) (by decide) (fun K hK => ?_) (fun K hK => ?_)
          ·skip
           refine Kd.jg (Kd.int .i64) (w0 := w) w.heap.size (by rfl) (.tmp 17) (.tmp 20) 30 3 (.int .i64 0) 8 rfl Try.underlying30 info3 rfl (by decide) (by omega) (.slice LM bF.length KO) bF gV _ _ _ (fun k_ => some k_ ≠ (.slice Hw gV.length Fv : Value).ownBlock) (fun _ => False) rfl rfl ?aO ?aR (fun _ _ h => h) (fun _ h => h.elim) ?aF ?aB ?aS ?aL ?_
           (case aR => exact Kd.jT (Kd.bD eF.out).2.2)
           (case aB => exact (by repeat (first | (with_reducible first | exact HB.out | refine bJ ?_ | refine aA ?_ bT.out) | exact HB.out)))
           (case aF => exact (fun k_ hk => Kd.fresh' (Kd.jH (Kd.fB eF.out)) k_ hk))
           (case aO => exact (Kd.fB (Kd.cu HO_5.out (fun _ hk => hk.2))))
           (case aS => exact (aI (by repeat (first | (with_reducible first | exact HB.out | refine bJ ?_ | refine aA ?_ bT.out) | exact HB.out))))
           (case aL => have := Fq.out; omega)
           intro v107 X6 ho hb hg hat
           rw [← BN.out] at ho
           have gZ := ah (Kd.jM (Kd.fB HO_6.out) (Kd.je (Kd.fB HO_5.out)) (by decide) hg)
           have iL := ah (iZ (g := aJ) (o := .cells #[.int .i64 ((bg l0 bI).f0), .int .u64 ((bg l0 bI).f1)] 192 (0, 0)) (jP aN.out) hg (Kd.Dh HO_5.out aN.out (by decide)))
           have jC := ah (Kd.qp (ok := (fun _ => True)) (Kd.fB eF.out) hg hat)
           have jZ := ah (hb)
           have mQ := ah (ho)
           clear HO_6
           clear aN
           clear eF
           clear HB
           clear HO_5
           have HO_6 := gZ
           have aN := iL
           have eF := jC
           have HB := jZ
           have fK := mQ
           clear gZ iL jC jZ mQ
           clear ho hb hg hat
           refine hK.out _ _ ⟨(ay aN.out 0).trans rfl, (ay aN.out 1).trans rfl⟩ (fun hHeld => ?_)
           clear hK K
           refine kC (a' := ?_) ?_ ?_
           rotate_left
           ·show Act.put _ (some 21) _ = _
            simp only [Act.put, List.setIfInBounds_toArray, List.set_cons_zero, List.set_cons_succ, dh, dF]
            rfl
           refine tH (i := 8) (N := some 25) #[true, true, true, true, true, true, true, true, true, false, false, false] rfl rfl (kZ HT_.out (by kernel_rfl)) (by decide) (fun K hK => ?_)
           refine Kd.lU (Kd.int .u64) _ 25 ?hg (N := 25) ?hd (xs := ([(bg l0 bI).f1] : List Int)) (inner := [.int .u64 ((bg l0 bI).f1)]) (ok := fun _ => True) (okp := fun _ => True) ?hr ?hp (fun _ hk => hk) trivial (Below.refl _ _) (Nat.le_refl _) (by simp) ?_; (case hd => rfl); (case hg => rfl); (case hr => first | (go_simp; done) | (go_simp; rfl)); (case hp => exact (jA.one (show Kd.M (Kd.int .u64) _ _ _ ((bg l0 bI).f1) [.int .u64 ((bg l0 bI).f1)] from rfl) (jA.none _ _)))
           intro sJ Xf Du hb hg_ hnew_
           clear hg_ hnew_
           (first | rw [← pz.out] at Du | (simp only [Int.reduceToNat] at Du; rw [← pz.out] at Du))
           have gZ := ah (Kd.dW (Kd.fB HO_6.out) (Kd.fP Du) hb)
           have iL := ah (Kd.kE eF.out hb)
           have jC := ah (Kd.kE fK.out hb)
           have jZ := ah (Kd.bV (Kd.gq Du (Kd.jH (Kd.fB HO_6.out))) (aI (by repeat (first | (with_reducible first | exact HB.out | refine bJ ?_ | refine aA ?_ bT.out) | exact HB.out))))
           have mQ := ah (dX aN.out hb)
           have qY := ah (aW (by repeat (first | (with_reducible first | exact HB.out | refine bJ ?_ | refine aA ?_ bT.out) | exact HB.out)) hb)
           clear HO_6
           clear eF
           clear fK
           clear aN
           clear HB
           have HO_6 := gZ
           have eF := iL
           have fK := jC
           have gX := jZ
           have aN := mQ
           have HB := qY
           clear gZ iL jC jZ mQ qY
           clear hb Du
           refine hK.out _ _ ⟨(ay aN.out 0).trans rfl, (ay aN.out 1).trans rfl⟩ (fun hHeld => ?_)
           clear hK K
           refine kC (a' := ?_) ?_ ?_
           rotate_left
           ·show Act.put _ (some 25) _ = _
            simp only [Act.put, List.setIfInBounds_toArray, List.set_cons_zero, List.set_cons_succ, dh, dF]
            rfl
           exact kC (by simp only [uh, Act.put, List.setIfInBounds_toArray, List.set_cons_zero, List.set_cons_succ]) (hCont (.slice Hw gV.length Fv, v107, sJ) _ ⟨hHeld, (Kd.fB (Kd.cu eF.out (fun _ hk => hk.2))), (Kd.fB fK.out), (Kd.fB (Kd.cu gX.out (fun _ hk => hk.2))), (Kd.fB (Kd.cu HO_6.out (fun _ hk => hk.2))), (jP aN.out), (by repeat (first | (with_reducible first | exact HB.out | refine bJ ?_ | refine aA ?_ bT.out) | exact HB.out))⟩)
          skip
          refine Kd.lU (Kd.int .u64) _ 25 ?hg (N := 25) ?hd (xs := ([(bg l0 bI).f1] : List Int)) (inner := [.int .u64 ((bg l0 bI).f1)]) (ok := fun _ => True) (okp := fun _ => True) ?hr ?hp (fun _ hk => hk) trivial (Below.refl _ _) (Nat.le_refl _) (by simp) ?_; (case hd => rfl); (case hg => rfl); (case hr => first | (go_simp; done) | (go_simp; rfl)); (case hp => exact (jA.one (show Kd.M (Kd.int .u64) _ _ _ ((bg l0 bI).f1) [.int .u64 ((bg l0 bI).f1)] from rfl) (jA.none _ _)))
          intro sJ X6 rH hb hg_ hnew_
          clear hg_ hnew_
          (first | rw [← pz.out] at rH | (simp only [Int.reduceToNat] at rH; rw [← pz.out] at rH))
          have gZ := ah (Kd.kE HO_5.out hb)
          have iL := ah (Kd.dW (Kd.fB HO_6.out) (Kd.fP rH) hb)
          have jC := ah (Kd.kE eF.out hb)
          have jZ := ah (Kd.bV (Kd.gq rH (Kd.jH (Kd.fB HO_6.out))) (aI (by repeat (first | (with_reducible first | exact HB.out | refine bJ ?_ | refine aA ?_ bT.out) | exact HB.out))))
          have mQ := ah (dX aN.out hb)
          have qY := ah (aW (by repeat (first | (with_reducible first | exact HB.out | refine bJ ?_ | refine aA ?_ bT.out) | exact HB.out)) hb)
          clear HO_5
          clear HO_6
          clear eF
          clear aN
          clear HB
          have HO_5 := gZ
          have HO_6 := iL
          have eF := jC
          have gX := jZ
          have aN := mQ
          have HB := qY
          clear gZ iL jC jZ mQ qY
          clear hb rH
          obtain ⟨FB, FC, FD⟩ := Kd.bY eF.out
          (first | subst FD | (injection FD with sG yM sH; have yN := sG.symm; have yO := sH.symm; clear sG yM sH; subst yN; subst yO))
          refine hK.out _ _ ⟨(ay aN.out 0).trans rfl, (ay aN.out 1).trans rfl⟩ (fun hHeld => ?_)
          clear hK K
          refine kC (a' := ?_) ?_ ?_
          rotate_left
          ·show Act.put _ (some 25) _ = _
           simp only [Act.put, List.setIfInBounds_toArray, List.set_cons_zero, List.set_cons_succ, dh, dF]
           rfl
          refine tH (i := 4) (N := some 21) #[true, true, true, true, true, true, true, true, true, false, false, false] rfl rfl (kZ HT_.out (by kernel_rfl)) (by decide) (fun K hK => ?_)
          refine Kd.jg (Kd.int .i64) (w0 := w) w.heap.size (by rfl) (.tmp 17) (.tmp 20) 30 3 (.int .i64 0) 8 rfl Try.underlying30 info3 rfl (by decide) (by omega) (.slice LM bF.length KO) bF gV _ _ _ (fun k_ => some k_ ≠ (.slice FB gV.length FC : Value).ownBlock) (fun _ => False) rfl rfl ?aO ?aR (fun _ _ h => h) (fun _ h => h.elim) ?aF ?aB ?aS ?aL ?_
          (case aR => exact Kd.jT (Kd.bD eF.out).2.2)
          (case aB => exact (by repeat (first | (with_reducible first | exact HB.out | refine bJ ?_ | refine aA ?_ bT.out) | exact HB.out)))
          (case aF => exact (fun k_ hk => Kd.fresh' (Kd.jH (Kd.fB eF.out)) k_ hk))
          (case aO => exact (Kd.fB (Kd.cu HO_5.out (fun _ hk => hk.2))))
          (case aS => exact (aI (by repeat (first | (with_reducible first | exact HB.out | refine bJ ?_ | refine aA ?_ bT.out) | exact HB.out))))
          (case aL => have := Fq.out; omega)
          intro v107 Xf ho hb hg hat
          rw [← BN.out] at ho
          have gZ := ah (Kd.jM (Kd.fB HO_6.out) (Kd.je (Kd.fB HO_5.out)) (by decide) hg)
          have iL := ah (iZ (g := aJ) (o := .cells #[.int .i64 ((bg l0 bI).f0), .int .u64 ((bg l0 bI).f1)] 192 (0, 0)) (jP aN.out) hg (Kd.Dh HO_5.out aN.out (by decide)))
          have jC := ah (Kd.qp (ok := (fun _ => True)) (Kd.fB eF.out) hg hat)
          have jZ := ah (Kd.jM (Kd.fB gX.out) (Kd.je (Kd.fB HO_5.out)) (by decide) hg)
          have mQ := ah (hb)
          have qY := ah (ho)
          clear HO_6
          clear aN
          clear eF
          clear gX
          clear HB
          clear HO_5
          have HO_6 := gZ
          have aN := iL
          have eF := jC
          have gX := jZ
          have HB := mQ
          have fK := qY
          clear gZ iL jC jZ mQ qY
          clear ho hb hg hat
          refine hK.out _ _ ⟨(ay aN.out 0).trans rfl, (ay aN.out 1).trans rfl⟩ (fun hHeld => ?_)
          clear hK K
          refine kC (a' := ?_) ?_ ?_
          rotate_left
          ·show Act.put _ (some 21) _ = _
           simp only [Act.put, List.setIfInBounds_toArray, List.set_cons_zero, List.set_cons_succ, dh, dF]
           rfl
          exact kC (by simp only [uh, Act.put, List.setIfInBounds_toArray, List.set_cons_zero, List.set_cons_succ]) (hCont (.slice FB gV.length FC, v107, sJ) _ ⟨hHeld, (Kd.fB (Kd.cu eF.out (fun _ hk => hk.2))), (Kd.fB fK.out), (Kd.fB (Kd.cu gX.out (fun _ hk => hk.2))), (Kd.fB (Kd.cu HO_6.out (fun _ hk => hk.2))), (jP aN.out), (by repeat (first | (with_reducible first | exact HB.out | refine bJ ?_ | refine aA ?_ bT.out) | exact HB.out))⟩)
         skip
         refine Kd.lU (Kd.int .u64) _ 25 ?hg (N := 25) ?hd (xs := ([(bg l0 bI).f1] : List Int)) (inner := [.int .u64 ((bg l0 bI).f1)]) (ok := fun _ => True) (okp := fun _ => True) ?hr ?hp (fun _ hk => hk) trivial (Below.refl _ _) (Nat.le_refl _) (by simp) ?_; (case hd => rfl); (case hg => rfl); (case hr => first | (go_simp; done) | (go_simp; rfl)); (case hp => exact (jA.one (show Kd.M (Kd.int .u64) _ _ _ ((bg l0 bI).f1) [.int .u64 ((bg l0 bI).f1)] from rfl) (jA.none _ _)))
         intro sJ QA rG hb hg_ hnew_
         clear hg_ hnew_
         (first | rw [← pz.out] at rG | (simp only [Int.reduceToNat] at rG; rw [← pz.out] at rG))
         have gZ := ah (Kd.kE HO_5.out hb)
         have iL := ah (Kd.dW (Kd.fB HO_6.out) (Kd.fP rG) hb)
         have jC := ah (Kd.bV (Kd.gq rG (Kd.jH (Kd.fB HO_6.out))) (aI (by repeat (first | (with_reducible first | exact HB.out | refine bJ ?_ | refine aA ?_ bT.out) | exact HB.out))))
         have jZ := ah (dX aN.out hb)
         have mQ := ah (aW (by repeat (first | (with_reducible first | exact HB.out | refine bJ ?_ | refine aA ?_ bT.out) | exact HB.out)) hb)
         clear HO_5
         clear HO_6
         clear aN
         clear HB
         have HO_5 := gZ
         have HO_6 := iL
         have gX := jC
         have aN := jZ
         have HB := mQ
         clear gZ iL jC jZ mQ
         clear hb rG
         refine hK.out _ _ ⟨(ay aN.out 0).trans rfl, (ay aN.out 1).trans rfl⟩ (fun hHeld => ?_)
         clear hK K
         refine kC (a' := ?_) ?_ ?_
         rotate_left
         ·show Act.put _ (some 25) _ = _
          simp only [Act.put, List.setIfInBounds_toArray, List.set_cons_zero, List.set_cons_succ, dh, dF]
          rfl
         refine tH (i := 3) (N := some 20) #[true, true, true, true, false, true, true, true, true, false, false, false] rfl rfl (kZ HT_.out (by kernel_rfl)) (by decide) (fun K hK => ?_)
         refine Kd.lU (Kd.int .i64) _ 3 ?hg (N := 20) ?hd (xs := ([(bg l0 bI).f0] : List Int)) (inner := [.int .i64 ((bg l0 bI).f0)]) (ok := fun _ => True) (okp := fun _ => True) ?hr ?hp (fun _ hk => hk) trivial (Below.refl _ _) (Nat.le_refl _) (by simp) ?_; (case hd => rfl); (case hg => rfl); (case hr => first | (go_simp; done) | (go_simp; rfl)); (case hp => exact (jA.one (show Kd.M (Kd.int .i64) _ _ _ ((bg l0 bI).f0) [.int .i64 ((bg l0 bI).f0)] from rfl) (jA.none _ _)))
         intro yJ X6 rH hb hg_ hnew_
         clear hg_ hnew_
         (first | rw [← su.out] at rH | (simp only [Int.reduceToNat] at rH; rw [← su.out] at rH))
         have gZ := ah (Kd.dW (Kd.fB HO_5.out) (Kd.fP rH) hb)
         have iL := ah (Kd.kE HO_6.out hb)
         have jC := ah (Kd.kE gX.out hb)
         have jZ := ah (Kd.bV (Kd.gq rH (Kd.jH (Kd.fB HO_5.out))) (aI (by repeat (first | (with_reducible first | exact HB.out | refine bJ ?_ | refine aA ?_ bT.out) | exact HB.out))))
         have mQ := ah (dX aN.out hb)
         have qY := ah (aW (by repeat (first | (with_reducible first | exact HB.out | refine bJ ?_ | refine aA ?_ bT.out) | exact HB.out)) hb)
         clear HO_5
         clear HO_6
         clear gX
         clear aN
         clear HB
         have HO_5 := gZ
         have HO_6 := iL
         have gX := jC
         have eF := jZ
         have aN := mQ
         have HB := qY
         clear gZ iL jC jZ mQ qY
         clear hb rH
         obtain ⟨FB, FC, FD⟩ := Kd.bY eF.out
         (first | subst FD | (injection FD with sG yM sH; have yN := sG.symm; have yO := sH.symm; clear sG yM sH; subst yN; subst yO))
         refine hK.out _ _ ⟨(ay aN.out 0).trans rfl, (ay aN.out 1).trans rfl⟩ (fun hHeld => ?_)
         clear hK K
         refine kC (a' := ?_) ?_ ?_
         rotate_left
         ·show Act.put _ (some 20) _ = _
          simp only [Act.put, List.setIfInBounds_toArray, List.set_cons_zero, List.set_cons_succ, dh, dF]
          rfl
         refine tH (i := 4) (N := some 21) #[true, true, true, true, true, true, true, true, true, false, false, false] rfl rfl (kZ HT_.out (by kernel_rfl)) (by decide) (fun K hK => ?_)
         refine Kd.jg (Kd.int .i64) (w0 := w) w.heap.size (by rfl) (.tmp 17) (.tmp 20) 30 3 (.int .i64 0) 8 rfl Try.underlying30 info3 rfl (by decide) (by omega) (.slice LM bF.length KO) bF gV _ _ _ (fun k_ => some k_ ≠ (.slice FB gV.length FC : Value).ownBlock) (fun _ => False) rfl rfl ?aO ?aR (fun _ _ h => h) (fun _ h => h.elim) ?aF ?aB ?aS ?aL ?_
         (case aR => exact Kd.jT (Kd.bD eF.out).2.2)
         (case aB => exact (by repeat (first | (with_reducible first | exact HB.out | refine bJ ?_ | refine aA ?_ bT.out) | exact HB.out)))
         (case aF => exact (fun k_ hk => Kd.fresh' (Kd.jH (Kd.fB eF.out)) k_ hk))
         (case aO => exact (Kd.fB (Kd.cu HO_5.out (fun _ hk => hk.2))))
         (case aS => exact (aI (by repeat (first | (with_reducible first | exact HB.out | refine bJ ?_ | refine aA ?_ bT.out) | exact HB.out))))
         (case aL => have := Fq.out; omega)
         intro v107 Xf ho hb hg hat
         rw [← BN.out] at ho
         have gZ := ah (Kd.jM (Kd.fB HO_6.out) (Kd.je (Kd.fB HO_5.out)) (by decide) hg)
         have iL := ah (iZ (g := aJ) (o := .cells #[.int .i64 ((bg l0 bI).f0), .int .u64 ((bg l0 bI).f1)] 192 (0, 0)) (jP aN.out) hg (Kd.Dh HO_5.out aN.out (by decide)))
         have jC := ah (Kd.jM (Kd.fB gX.out) (Kd.je (Kd.fB HO_5.out)) (by decide) hg)
         have jZ := ah (Kd.qp (ok := (fun _ => True)) (Kd.fB eF.out) hg hat)
         have mQ := ah (hb)
         have qY := ah (ho)
         clear HO_6
         clear aN
         clear gX
         clear eF
         clear HB
         clear HO_5
         have HO_6 := gZ
         have aN := iL
         have gX := jC
         have eF := jZ
         have HB := mQ
         have fK := qY
         clear gZ iL jC jZ mQ qY
         clear ho hb hg hat
         refine hK.out _ _ ⟨(ay aN.out 0).trans rfl, (ay aN.out 1).trans rfl⟩ (fun hHeld => ?_)
         clear hK K
         refine kC (a' := ?_) ?_ ?_
         rotate_left
         ·show Act.put _ (some 21) _ = _
          simp only [Act.put, List.setIfInBounds_toArray, List.set_cons_zero, List.set_cons_succ, dh, dF]
          rfl
         exact kC (by simp only [uh, Act.put, List.setIfInBounds_toArray, List.set_cons_zero, List.set_cons_succ]) (hCont (.slice FB gV.length FC, v107, sJ) _ ⟨hHeld, (Kd.fB (Kd.cu eF.out (fun _ hk => hk.2))), (Kd.fB fK.out), (Kd.fB (Kd.cu gX.out (fun _ hk => hk.2))), (Kd.fB (Kd.cu HO_6.out (fun _ hk => hk.2))), (jP aN.out), (by repeat (first | (with_reducible first | exact HB.out | refine bJ ?_ | refine aA ?_ bT.out) | exact HB.out))⟩)
        rintro ⟨yJ, v107, sJ⟩ Ak ⟨hS_, h0_, h1_, h2_, h3_, h4_, h5_⟩
        have gZ : aj (Kd.R (Kd.int .i64) 3 Ak w.heap.size (fun k_ => some k_ ≠ (v107 : Value).ownBlock) yJ gV) := ⟨h0_⟩
        have iL : aj (Kd.R (Kd.int .i64) 3 Ak w.heap.size (fun k_ => some k_ ≠ (yJ : Value).ownBlock) v107 yL) := ⟨h1_⟩
        have jC : aj (Kd.R (Kd.int .u64) 25 Ak w.heap.size (fun k_ => some k_ ≠ (.slice tX fH.length tY : Value).ownBlock) sJ mG) := ⟨h2_⟩
        have jZ : aj (Kd.R (Kd.int .u64) 25 Ak w.heap.size (fun k_ => some k_ ≠ (sJ : Value).ownBlock) (.slice tX fH.length tY) fH) := ⟨h3_⟩
        have mQ : aj (Ak.heap[aJ]? = some (.cells #[.int .i64 ((bg l0 bI).f0), .int .u64 ((bg l0 bI).f1)] 192 (0, 0))) := ⟨h4_⟩
        have qY : aj (Below w.heap.size w Ak) := ⟨h5_⟩
        clear HO_5
        clear HO_6
        clear aN
        clear HB
        clear h0_ h1_ h2_ h3_ h4_ h5_
        have eF := gZ
        have fK := iL
        have gX := jC
        have HO_6 := jZ
        have aN := mQ
        have HB := qY
        clear gZ iL jC jZ mQ qY
        have hHeld : Ak.cell? ⟨aJ, 0, none⟩ = some (.int .i64 ((bg l0 bI).f0)) ∧ Ak.cell? ⟨aJ, 1, none⟩ = some (.int .u64 ((bg l0 bI).f1)) := hS_
        obtain ⟨FH, FM, Hy⟩ := Kd.bY gX.out
        (first | subst Hy | (injection Hy with sG yM sH; have yN := sG.symm; have yO := sH.symm; clear sG yM sH; subst yN; subst yO))
        refine kC (a' := ?_) ?_ ?_
        rotate_left
        ·simp only [uh, Act.put, List.setIfInBounds_toArray, List.set_cons_zero, List.set_cons_succ]
         rfl
        refine tH (i := 9) (N := some 26) #[true, true, true, true, true, true, true, true, true, true, false, false] rfl rfl (kZ HT_.out (by kernel_rfl)) (by decide) (fun K hK => ?_)
        refine Kd.jg (Kd.int .u64) (w0 := w) w.heap.size (by rfl) (.tmp 22) (.tmp 25) 53 25 (.int .u64 0) 8 rfl Try.underlying53 info25 rfl (by decide) (by omega) (.slice tX fH.length tY) fH mG _ _ _ (fun k_ => some k_ ≠ (.slice FH mG.length FM : Value).ownBlock) (fun _ => False) rfl rfl ?aO ?aR (fun _ _ h => h) (fun _ h => h.elim) ?aF ?aB ?aS ?aL ?_
        (case aR => exact Kd.jT (Kd.bD gX.out).2.2)
        (case aB => exact (by repeat (first | (with_reducible first | exact HB.out | refine bJ ?_ | refine aA ?_ bT.out) | exact HB.out)))
        (case aF => exact (fun k_ hk => Kd.fresh' (Kd.jH (Kd.fB gX.out)) k_ hk))
        (case aO => exact (Kd.fB HO_6.out))
        (case aS => exact (aI (by repeat (first | (with_reducible first | exact HB.out | refine bJ ?_ | refine aA ?_ bT.out) | exact HB.out))))
        (case aL => have := TD.out; omega)
        intro VF w20 ho hb hg hat
        rw [← Lh.out] at ho
        have gZ := ah (iZ (g := aJ) (o := .cells #[.int .i64 ((bg l0 bI).f0), .int .u64 ((bg l0 bI).f1)] 192 (0, 0)) (jP aN.out) hg (Kd.Dh HO_6.out aN.out (by decide)))
        have iL := ah (Kd.jM (Kd.fB eF.out) (Kd.je (Kd.fB HO_6.out)) (by decide) hg)
        have jC := ah (Kd.jM (Kd.fB fK.out) (Kd.je (Kd.fB HO_6.out)) (by decide) hg)
        have jZ := ah (Kd.qp (ok := (fun _ => True)) (Kd.fB (Kd.cu gX.out (fun _ hk => ⟨trivial, hk⟩))) hg hat)
        have mQ := ah (hb)
        have qY := ah (ho)
        clear aN
        clear eF
        clear fK
        clear gX
        clear HB
        clear HO_6
        have aN := gZ
        have eF := iL
        have fK := jC
        have gX := jZ
        have HB := mQ
        have tu := qY
        clear gZ iL jC jZ mQ qY
        clear ho hb hg hat
        refine hK.out _ _ ⟨(ay aN.out 0).trans rfl, (ay aN.out 1).trans rfl⟩ (fun hHeld => ?_)
        clear hK K
        refine kC (a' := ?_) ?_ ?_
        rotate_left
        ·show Act.put _ (some 26) _ = _
         simp only [Act.put, List.setIfInBounds_toArray, List.set_cons_zero, List.set_cons_succ, dh, dF]
         rfl
        refine iH (i := 10) (N := some 5) (v := ?_) (a' := ?_) #[true, true, true, true, true, true, true, true, true, true, true, false] rfl rfl (gu HT_.out (by kernel_rfl)) (fun _ _ _ h => h) (Or.inl ⟨by rfl, ?_⟩) ?_ ?_
        rotate_left
        ·intro w'
         go_simp
         with_reducible rfl
        rotate_left
        ·simp only [Act.put, List.setIfInBounds_toArray, List.set_cons_zero, List.set_cons_succ, dh, dF]
         rfl
        refine iH (i := 11) (N := some 6) (v := ?_) (a' := ?_) #[true, true, true, true, true, true, true, true, true, true, true, true] rfl rfl (gu HT_.out (by kernel_rfl)) (fun _ _ _ h => h) (Or.inl ⟨by rfl, ?_⟩) ?_ ?_
        rotate_left
        ·intro w'
         go_simp
         with_reducible rfl
        rotate_left
        ·simp only [Act.put, List.setIfInBounds_toArray, List.set_cons_zero, List.set_cons_succ, dh, dF]
         rfl
        refine Iu (zJ HT_.out (by kernel_rfl)) ?_
        try go_wp2
        go_roundg k1
        case measure => have := jf.out; omega
        case rel => exact ⟨(yL), (y112), (wrap64 (bI + 1)), (by first | rfl | (simp; done) | (simp [*]; done)), H', ⟨by have := jf.out; omega⟩, ⟨by (repeat with_reducible refine Kd.kJ ?_); exact Kd.cu fK.out (fun _ hk => trivial)⟩, ⟨by (repeat with_reducible refine Kd.kJ ?_); exact Kd.cu tu.out (fun _ hk => trivial)⟩, ⟨by repeat (first | (with_reducible first | exact HB.out | apply ak | apply au | apply aC | refine aA ?_ bT.out) | exact HB.out)⟩⟩
       rw [if_neg c6] at H
       exact absurd H (by simp)
      rw [if_neg c5] at H
      exact absurd H (by simp)
     rw [if_neg c4] at H
     exact absurd H (by simp)
    rw [if_neg c3] at H
    exact absurd H (by simp)
   rw [if_neg c2] at H
   have c2b0 : decide (bI < (l0.length : Int)) = false := aiK c2
   clear c2
   replace H := Option.bind_eq_some_iff.mp H
   obtain ⟨⟨qc, t116⟩, TI, H⟩ := H
   replace H : (if t116 = 0 then (some (qc, fH, 0)) else (some (([] : List (dP)), ([] : List Int), t116))) = some (r1, r2, r3) := H
   have VG := ah TI
   clear TI
   by_cases c23 : t116 = 0
   ·rw [if_pos c23] at H
    have c23b0 : (t116 == 0) = true := beq_iff_eq.mpr c23
    have c23b1 : (t116 != 0) = false := bne_eq_false_iff_eq.mpr c23
    clear c23
    simp only [Option.some.injEq, Prod.mk.injEq] at H
    obtain ⟨rfl, rfl, rfl⟩ := H
    obtain ⟨X7, X8, X9⟩ := Kd.bY HO_5.out
    subst X9
    go_wp2_with (first | ((with_reducible refine bH (f := 172) rfl ?_); refine eH (some 30) Try.func172 #[.slice X7 bF.length X8] ?_; (with_reducible refine (span_From.calls k1 _ _ bF qc t116 _ ?dw ?dA VG.out).mono ?_); (case dw => exact Kd.jT (Kd.bD HO_5.out).2.2); (case dA => exact (Kd.bD HO_5.out).2.1); rintro e DV ⟨v117, rfl, ho0, hb⟩; refine ⟨_, rfl, ?_⟩; have LQ := ah (Kd.bV ho0 (aI (aX HB.out))); replace HO_5 := ah (Kd.kE HO_5.out hb); replace HO_6 := ah (Kd.kE HO_6.out hb); replace HB := ah (aW (aX HB.out) hb); (try clear hb); (try clear hb2); (try clear hk); (try clear hi); (try clear ho0); clear VG))
    go_ret3
    exact ⟨_, _, by first | rfl | (simp [aT, aU] <;> rfl) | (simp [*, aT, aU] <;> rfl), by (repeat with_reducible refine Kd.kJ ?_); exact LQ.out, by (repeat with_reducible refine Kd.kJ ?_); exact HO_6.out, by repeat (first | (with_reducible first | exact HB.out | apply ak | apply au | apply aC) | exact HB.out)⟩
   rw [if_neg c23] at H
   have c23b0 : (t116 == 0) = false := beq_eq_false_iff_ne.mpr c23
   have c23b1 : (t116 != 0) = true := bne_iff_ne.mpr c23
   simp only [Option.some.injEq, Prod.mk.injEq] at H
   obtain ⟨rfl, rfl, rfl⟩ := H
   obtain ⟨Ya, Yb, Yc⟩ := Kd.bY HO_5.out
   subst Yc
   go_wp2_with (first | ((with_reducible refine bH (f := 172) rfl ?_); refine eH (some 30) Try.func172 #[.slice Ya bF.length Yb] ?_; (with_reducible refine (span_From.calls k1 _ _ bF qc t116 _ ?dw ?dA VG.out).mono ?_); (case dw => exact Kd.jT (Kd.bD HO_5.out).2.2); (case dA => exact (Kd.bD HO_5.out).2.1); rintro e w27 ⟨v117, rfl, ho0, hb⟩; refine ⟨_, rfl, ?_⟩; have LQ := ah (Kd.bV ho0 (aI (aX HB.out))); replace HO_5 := ah (Kd.kE HO_5.out hb); replace HO_6 := ah (Kd.kE HO_6.out hb); replace HB := ah (aW (aX HB.out) hb); (try clear hb); (try clear hb2); (try clear hk); (try clear hi); (try clear ho0); clear VG))
   go_ret3
   exact ⟨_, _, by first | rfl | (simp [aT, aU] <;> rfl) | (simp [*, aT, aU] <;> rfl), by first | exact Kd.dY _ _ _ _ _ | exact Kd.gI _ _ _ _ _ | exact Kd.gJ _ _ _ _ _ | exact Kd.gB _ _ _ _ _ | exact Kd.gG _ _ _ _ _, by first | exact Kd.dY _ _ _ _ _ | exact Kd.gI _ _ _ _ _ | exact Kd.gJ _ _ _ _ _ | exact Kd.gB _ _ _ _ _ | exact Kd.gG _ _ _ _ _, by repeat (first | (with_reducible first | exact HB.out | apply ak | apply au | apply aC) | exact HB.out)⟩
end Go.Proofs.Ytooiccpmngmapaa.P
namespace Go.Proofs.Ytooiccpmngmapaa.P
open Go.RowKit Go.Shelf Go.Proofs.YtooiccpmngmapaaW.PrintWords Go.Proofs.YtooiccpmngmapaaW.PrintLast Go.Proofs.YtooiccpmngmapaaW.PrintMore
abbrev Pu := gW
instance : DecidableEq Pu := fun a b => if h : a.f0 = b.f0 ∧ a.f1 = b.f1 then isTrue (by cases a; cases b; simp only at h; rw [h.1, h.2]) else isFalse (by rintro rfl; exact h ⟨rfl, rfl⟩)
theorem EM {l : List Pu} {i : Nat} (h : i < l.length) : bg l (i : Int) = l[i] := by unfold bg; simp [List.getD, h]
def Un (l : List Pu) : Prop := ∀ s ∈ l, i64 s.f0 ∧ u64 s.f1
def iK (l : List Pu) : List Sp × List Int × Int := if (jO (l.map (·.f0))).2 = 0 then ((jO (l.map (·.f0))).1, l.map (·.f1), 0) else ([], [], (jO (l.map (·.f0))).2)
theorem MG (l : List Pu) (hw : Un l) (hm : l.length < 4398046511104) : ∀ (d k i : Nat), l.length - i = d → d + 2 * l.length + 1 < k → i ≤ l.length →
    pairs_Unzip_uint64.l0 k ((l.take i).map (·.f0)) ((l.take i).map (·.f1)) l (l.length : Int) (i : Int) = some (iK l) := by
  intro d
  induction d with
  | zero =>
    intro k i hd hk hi
    obtain ⟨k, rfl⟩ : ∃ m, k = m + 1 := ⟨k - 1, by omega⟩
    simp only [pairs_Unzip_uint64.l0]
    rw [if_neg (by omega), List.take_of_length_le (by omega), PE _ (by intro x hx; obtain ⟨s, hs, rfl⟩ := List.mem_map.1 hx; exact (hw s hs).1) (by simpa using hm) k (by simp; omega)]
    simp only [Option.bind_some]
    unfold iK
    split <;> rfl
  | succ d ih =>
    intro k i hd hk hi
    obtain ⟨k, rfl⟩ : ∃ m, k = m + 1 := ⟨k - 1, by omega⟩
    have hlt : i < l.length := by omega
    have hl1 : ((l.take i).map (·.f0)).length = i := by simp; omega
    have hl2 : ((l.take i).map (·.f1)).length = i := by simp; omega
    simp only [pairs_Unzip_uint64.l0, Option.bind_some]
    rw [if_pos (by omega), if_pos (by omega), if_pos (by omega), hl1, hl2, EM hlt, if_pos (by simp; omega), if_pos (by simp; omega), wrap_succ (by omega), ← ih k (i + 1) (by omega) (by omega) (by omega), take_at hlt]
    simp only [List.map_append, List.map_cons, List.map_nil]
theorem QV (l : List Pu) (hw : Un l) (hm : l.length < 4398046511104) (k : Nat) (hk : 3 * l.length + 1 < k) : pairs_Unzip_uint64.f k l = some (iK l) := by
 unfold pairs_Unzip_uint64.f
 exact MG l hw hm l.length k 0 (by omega) (by omega) (by omega)
def xR (l : List Sp) (v : List Int) : List Pu × Int := if fZ l = 0 then (if (uP 0 l).length = v.length then (List.zipWith (fun p x => (⟨p, x⟩ : Pu)) (uP 0 l) v, 0) else ([], 10)) else ([], fZ l)
theorem QW (ps v : List Int) (hl : ps.length = v.length) (hm : ps.length < 8796093022208) : ∀ (d k i : Nat), ps.length - i = d → d < k → i ≤ ps.length →
    pairs_Zip_uint64.l0 k v (List.zipWith (fun p x => (⟨p, x⟩ : Pu)) (ps.take i) (v.take i)) ps (ps.length : Int) (i : Int) = some (List.zipWith (fun p x => (⟨p, x⟩ : Pu)) ps v, 0) := by
  intro d
  induction d with
  | zero =>
    intro k i hd hk hi
    obtain ⟨k, rfl⟩ : ∃ m, k = m + 1 := ⟨k - 1, by omega⟩
    simp only [pairs_Zip_uint64.l0]
    rw [if_neg (by omega), List.take_of_length_le (by omega), List.take_of_length_le (by omega)]
  | succ d ih =>
    intro k i hd hk hi
    obtain ⟨k, rfl⟩ : ∃ m, k = m + 1 := ⟨k - 1, by omega⟩
    have hlt : i < ps.length := by omega
    have hlv : i < v.length := by omega
    have hl1 : (List.zipWith (fun p x => (⟨p, x⟩ : Pu)) (ps.take i) (v.take i)).length = i := by simp; omega
    simp only [pairs_Zip_uint64.l0]
    rw [if_pos (by omega), if_pos (by omega), if_pos (by omega), if_pos (by omega), hl1, qC hlt, qC hlv, if_pos (by omega), wrap_succ (by omega), ← ih k (i + 1) (by omega) (by omega) (by omega), take_at hlt, take_at hlv, List.zipWith_append (by simp; omega)]
    rfl
theorem VX (l : List Sp) (v : List Int) (hw : lK l) (k : Nat) (hk : 4100 < k) : pairs_Zip_uint64.f k l v = some (xR l v) := by
 unfold pairs_Zip_uint64.f xR
 rw [IK l hw k (by omega)]
 simp only [Option.bind_some, zT]
 by_cases h : fZ l = 0
 ·have hl := pW h
  rw [if_pos h, if_pos h]
  simp only [if_true]
  by_cases h1 : (uP 0 l).length = v.length
  ·rw [if_pos (by omega), if_pos h1]
   exact QW (uP 0 l) v h1 (by omega) (uP 0 l).length k 0 (by omega) (by omega) (by omega)
  ·rw [if_neg (by omega), if_neg h1]
 ·rw [if_neg h, if_neg h]
  simp only
  rw [if_neg h]
def CO (g : Nat) (cap : Array Value) (p : Int → Bool) (w : World) : Prop :=
 ∀ (W : World) (x : Int), Below w.heap.size w W → Calls Try.prog g (#[.int .u64 x] ++ cap) W fun e w' => e = .returned (.bool (p x)) ∧ Below W.heap.size W w'
set_option maxHeartbeats 2000000 in
theorem zn (g : Nat) (cap : Array Value) (p : Int → Bool) (A : Option Addr) (c : Nat) (l : List Int) (w : World)
    (hr : Kd.C (Kd.int .u64) w A l.length l) (hc : l.length ≤ c) (hm : l.length ≤ 9223372036854775807) (hp : CO g cap p w) (eg : ∀ args w, (callFunc g args).run Try.prog w = .ok (.enter g args) w) :
    Calls Try.prog 183 #[.slice A l.length c, .func (.func g) #[] cap] w fun e w' => e = .returned (.int .i64 (wH p l)) ∧ Below w.heap.size w w' := by
  have HR := ah hr
  have HP := ah hp
  clear hr hp
  go_enter Try.func183, Try.ntmps183
  go_wp2
  go_loopg [5, 8] l.length (fun gg _ s8 wr => ∃ kk : Nat, kk ≤ l.length ∧ l.length - kk ≤ gg ∧ s8 = .int .i64 kk ∧ aj (Below w.heap.size w wr) ∧ aj (∀ j (hj : j < kk) (hj2 : j < l.length), p l[j] = false))
  case atStart => exact ⟨0, Nat.zero_le _, by omega, rfl, ⟨Below.refl _ w⟩, ⟨fun j hj => absurd hj (Nat.not_lt_zero _)⟩⟩
  case round =>
    obtain ⟨kk, hkk, hg, rfl, HB, HA⟩ := hrel
    by_cases hlt : kk < l.length
    · have hlti : (kk : Int) < (l.length : Int) := by omega
      obtain ⟨ad, e1, hx0⟩ := Kd.fA HR.out kk (by omega) (by omega)
      cases e1
      replace hx0 := (HB.out.cell (World.block_lt_of_cell? w _ hx0)).trans hx0
      have hrd : rd l (kk : Int) = l[kk] := by unfold rd; simp [List.getD, hlt]
      rw [hrd, Int.toNat_natCast] at hx0
      have hcall := HP.out wr l[kk] HB.out
      generalize hy : l[kk] = y at hx0 hcall
      have HY := ah hy
      clear hy hrd
      cases hq : p y with
      | true =>
        rw [hq] at hcall
        have HQ := ah hq
        clear hq
        have HC := ah hcall
        clear hcall
        go_wp2_with (go_at_fn g; refine HC.out.mono ?_; rintro e w' ⟨rfl, hb'⟩)
        go_ret
        refine ⟨?_, HB.out.trans (hb'.mono HB.out.size)⟩
        rw [Bv p l kk hlt (by rw [HY.out]; exact HQ.out) (fun j hj => HA.out j hj (by omega))]; rfl
      | false =>
        rw [hq] at hcall
        have HQ := ah hq
        clear hq
        have HC := ah hcall
        clear hcall
        go_wp2_with (go_at_fn g; refine HC.out.mono ?_; rintro e w' ⟨rfl, hb'⟩)
        go_roundg (l.length - (kk + 1))
        case measure => omega
        case rel =>
          refine ⟨kk + 1, by omega, by omega, by go_num, ⟨HB.out.trans (hb'.mono HB.out.size)⟩, ⟨fun j hj hj2 => ?_⟩⟩
          by_cases e : j = kk
          · subst e
            rw [HY.out]; exact HQ.out
          · exact HA.out j (by omega) hj2
    · have hlti : ¬ (kk : Int) < (l.length : Int) := by omega
      have hk : kk = l.length := by omega
      go_wp2
      go_ret
      refine ⟨?_, HB.out⟩
      rw [zK p l (fun j hj => HA.out j (by omega) hj)]; rfl
theorem Es (p : Int → Bool) (l : List Int) : decide (wH p l ≥ 0) = l.any p := by
 rcases KX p l with ⟨h1, h2⟩ | ⟨i, h, h1, h2⟩
 ·rw [h1, Bool.eq_iff_iff, decide_eq_true_iff]
  constructor
  ·intro h; omega
  ·intro h
   obtain ⟨x, hx, hp⟩ := List.any_eq_true.1 h
   rw [List.find?_eq_none] at h2
   exact absurd hp (h2 x hx)
 ·rw [h1, Bool.eq_iff_iff, decide_eq_true_iff]
  constructor
  ·intro _; exact List.any_eq_true.2 ⟨_, List.getElem_mem h, by have := List.find?_some h2; exact this⟩
  ·intro _; omega
set_option maxHeartbeats 2000000 in
theorem wQ (g : Nat) (cap : Array Value) (p : Int → Bool) (A : Option Addr) (c : Nat) (l : List Int) (w : World)
  (hr : Kd.C (Kd.int .u64) w A l.length l) (hc : l.length ≤ c) (hm : l.length ≤ 9223372036854775807) (hp : CO g cap p w) (eg : ∀ args w, (callFunc g args).run Try.prog w = .ok (.enter g args) w) :
  Calls Try.prog 174 #[.slice A l.length c, .func (.func g) #[] cap] w fun e w' => e = .returned (.bool (l.any p)) ∧ Below w.heap.size w w' := by
 have H := ah (zn g cap p A c l w hr hc hm hp eg)
 have HE := ah (Es p l)
 clear hr hp
 generalize wH p l = ix at H HE
 go_enter Try.func174, Try.ntmps174
 go_wp2_with (go_at_call 183; refine H.out.mono ?_; rintro e w' ⟨rfl, hb'⟩)
 go_ret
 exact ⟨by rw [← HE.out]; rfl, hb'⟩
abbrev kPu := kV
def QX (l : List Int) : Prop := ∀ x ∈ l, u64 x
instance (l : List Int) : Decidable (QX l) := by unfold QX; exact inferInstance
def jy (v : Int) : Bool := decide (v < 9218868437227405312)
theorem MH (v : Int) (w : World) : Calls Try.prog 131 #[.int .u64 v] w fun e w' => e = .returned (.bool (jy v)) ∧ Below w.heap.size w w' := (hist_Threshold.calls v _ w rfl).mono fun e w1 h => ⟨h.1, h.2.below⟩
theorem VY (v : Int) (w : World) : Calls Try.prog 146 #[.int .u64 v] w fun e w' => e = .returned (.bool (jy v)) ∧ Below w.heap.size w w' := by
 have HT := MH v
 generalize jy v = b at *
 go_enter Try.func146, Try.ntmps146
 go_wp2_with (go_at_call 131; (with_reducible refine (HT _).mono ?_); rintro e w1 ⟨rfl, hb⟩)
 go_ret
 exact ⟨rfl, hb⟩
theorem J8 (v : Int) (w : World) : Calls Try.prog 153 #[.int .u64 v] w fun e w' => e = .returned (.bool (!jy v)) ∧ Below w.heap.size w w' := by
 have HT := VY v
 generalize jy v = b at *
 go_enter Try.func153, Try.ntmps153
 go_wp2_with (go_at_call 146; (with_reducible refine (HT _).mono ?_); rintro e w1 ⟨rfl, hb⟩)
 go_ret
 exact ⟨rfl, hb⟩
def wR (l : List Sp) (c : List Int) : List Pu × Int :=
 if fZ l = 0 then (if nT l = c.length then (if c.any (fun v => !jy v) = true then ([], 22) else (List.zipWith (fun p x => (⟨p, x⟩ : Pu)) (uP 0 l) c, 0)) else ([], 23)) else ([], fZ l)
theorem QY (l : List Sp) (hw : lK l) (w : World) (v : Value) (hv : SI kSp w v l) : Calls Try.prog 164 #[v] w fun e w' => e = .returned (.int .i64 (fZ l)) ∧ Below w.heap.size w w' := by
 obtain ⟨A, c, rfl, hc, hr⟩ := hv
 exact span_Check.calls 2049 A c l _ w hr hc (BI l hw 2049 (by omega))
theorem QZ (l : List Sp) (hw : lK l) (h0 : fZ l = 0) (w : World) (v : Value) (hv : SI kSp w v l) : Calls Try.prog 165 #[v] w fun e w' => e = .returned (.int .i64 (nT l)) ∧ Below w.heap.size w w' := by
 obtain ⟨A, c, rfl, hc, hr⟩ := hv
 exact span_Count.calls 2049 A c l _ w hr hc (by rw [count_eq l hw 2049 (by omega), if_pos h0])
theorem Ou (c : List Int) (hm : c.length < 4398046511104) (w : World) (v : Value) (hv : SI (Kd.int .u64) w v c) : Calls Try.prog 174 #[v, .func (.func 153) #[] #[]] w fun e w' => e = .returned (.bool (c.any (fun v => !jy v))) ∧ Below w.heap.size w w' := by
 obtain ⟨A, c', rfl, hc, hr⟩ := hv
 exact wQ 153 #[] (fun v => !jy v) A c' c w hr hc (by omega) (fun W x _ => J8 x W) (enters_of Try.func153 (by kernel_rfl) rfl)
theorem Yp (l : List Sp) (c : List Int) (hw : lK l) (w : World) (v u : Value) (hv : SI kSp w v l) (hu : SI (Kd.int .u64) w u c) : Calls Try.prog 175 #[v, u] w fun e w' => ∃ v0, e = .returned (.tuple #[v0, .int .i64 (xR l c).2]) ∧ FI kPu w.heap.size w' v0 (xR l c).1 ∧ Below w.heap.size w w' := by
 obtain ⟨A, c1, rfl, hc, hr⟩ := hv
 obtain ⟨B, c2, rfl, hd, hs⟩ := hu
 refine (pairs_Zip_uint64.calls 4101 A c1 l B c2 c (xR l c).1 (xR l c).2 w hr hc hs hd (VX l c hw 4101 (by omega))).mono ?_
 rintro e w1 ⟨v0, rfl, h0, hb⟩
 exact ⟨v0, rfl, .qR h0 (Nat.le_refl _), hb⟩
set_option maxHeartbeats 8000000 in
set_option maxRecDepth 100000 in
theorem Qb (l : List Sp) (c : List Int) (hw : lK l) (hm : c.length < 4398046511104) (w : World) (v u : Value) (hv : SI kSp w v l) (hu : SI (Kd.int .u64) w u c) : Calls Try.prog 154 #[v, u] w fun e w' => ∃ v0, e = .returned (.tuple #[v0, .int .i64 (wR l c).2]) ∧ FI kPu w.heap.size w' v0 (wR l c).1 ∧ Below w.heap.size w w' := by
  have hv' := hv
  have hu' := hu
  obtain ⟨A, c1, e1, -⟩ := hv'
  obtain ⟨A1, c2, e2, -⟩ := hu'
  subst e1; subst e2
  have B := ah (Below.refl w.heap.size w)
  have HV := ah hv
  have HU := ah hu
  have kc := QY l hw
  have kn := QZ l hw
  have kf := Ou c hm
  have kz := Yp l c hw
  have hpl : fZ l = 0 → ((uP 0 l).length : Int) = nT l := fun h => rD l 0 (fun s hs => (nU l _ _ _ (jW h).2 s hs).1)
  have hzr : xR l c = if fZ l = 0 then (if (uP 0 l).length = c.length then (List.zipWith (fun p x => (⟨p, x⟩ : Pu)) (uP 0 l) c, 0) else ([], 10)) else ([], fZ l) := rfl
  clear hv hu hw hm
  unfold wR
  by_cases he : fZ l = 0
  rotate_left
  · rw [if_neg he]
    generalize fZ l = r at *
    have d1 : (r == 0) = false := beq_eq_false_iff_ne.2 he
    have d2 : (r != 0) = true := bne_iff_ne.2 he
    have KC := ah kc
    clear kc kn kf kz hpl hzr he
    go_enter Try.func154, Try.ntmps154
    go_wp2_with (first | (go_at_call 164; (with_reducible refine (KC.out _ _ HV.out).mono ?_); rintro e W1 ⟨rfl, hb⟩; replace B := ah (aH B.out B.out.size hb); replace HV := ah (HV.out.below hb); replace HU := ah (HU.out.below hb); clear  hb))
    go_ret2
    exact ⟨_, rfl, fun w _ => SI.nil _ w, B.out⟩
  rw [if_pos he]
  rw [he] at kc
  have KC := ah kc
  have KN := ah (kn he)
  have hp := hpl he
  rw [if_pos he] at hzr
  clear kc kn hpl he
  generalize nT l = n at *
  by_cases hc : n = (c.length : Int)
  rotate_left
  · rw [if_neg hc]
    have d1 : (n == (c.length : Int)) = false := beq_eq_false_iff_ne.2 hc
    have d2 : (n != (c.length : Int)) = true := bne_iff_ne.2 hc
    clear kf kz hzr hp hc
    go_enter Try.func154, Try.ntmps154
    go_wp2_with (first | (go_at_call 164; (with_reducible refine (KC.out _ _ HV.out).mono ?_); rintro e W1 ⟨rfl, hb⟩; replace B := ah (aH B.out B.out.size hb); replace HV := ah (HV.out.below hb); replace HU := ah (HU.out.below hb); clear  hb) | (go_at_call 165; (with_reducible refine (KN.out _ _ HV.out).mono ?_); rintro e W2 ⟨rfl, hb⟩; replace B := ah (aH B.out B.out.size hb); replace HV := ah (HV.out.below hb); replace HU := ah (HU.out.below hb); clear  hb))
    go_ret2
    exact ⟨_, rfl, fun w _ => SI.nil _ w, B.out⟩
  rw [if_pos hc]
  have d1 : (n == (c.length : Int)) = true := beq_iff_eq.2 hc
  have d2 : (n != (c.length : Int)) = false := by rw [bne, d1]; rfl
  rw [if_pos (by omega)] at hzr
  rw [hzr] at kz
  clear hzr hp hc
  generalize List.zipWith (fun p x => (⟨p, x⟩ : Pu)) (uP 0 l) c = z at *
  have KZ := ah kz
  clear kz
  generalize c.any (fun v => !jy v) = b at *
  have KF := ah kf
  clear kf
  cases b with
  | true =>
    rw [if_pos rfl]
    go_enter Try.func154, Try.ntmps154
    go_wp2_with (first | (go_at_call 164; (with_reducible refine (KC.out _ _ HV.out).mono ?_); rintro e W1 ⟨rfl, hb⟩; replace B := ah (aH B.out B.out.size hb); replace HV := ah (HV.out.below hb); replace HU := ah (HU.out.below hb); clear  hb) | (go_at_call 165; (with_reducible refine (KN.out _ _ HV.out).mono ?_); rintro e W2 ⟨rfl, hb⟩; replace B := ah (aH B.out B.out.size hb); replace HV := ah (HV.out.below hb); replace HU := ah (HU.out.below hb); clear  hb) | (go_at_call 174; (with_reducible refine (KF.out _ _ HU.out).mono ?_); rintro e W3 ⟨rfl, hb⟩; replace B := ah (aH B.out B.out.size hb); replace HV := ah (HV.out.below hb); replace HU := ah (HU.out.below hb); clear  hb))
    go_ret2
    exact ⟨_, rfl, fun w _ => SI.nil _ w, B.out⟩
  | false =>
    rw [if_neg (by simp)]
    go_enter Try.func154, Try.ntmps154
    go_wp2_with (first | (go_at_call 164; (with_reducible refine (KC.out _ _ HV.out).mono ?_); rintro e W1 ⟨rfl, hb⟩; replace B := ah (aH B.out B.out.size hb); replace HV := ah (HV.out.below hb); replace HU := ah (HU.out.below hb); clear  hb) | (go_at_call 165; (with_reducible refine (KN.out _ _ HV.out).mono ?_); rintro e W2 ⟨rfl, hb⟩; replace B := ah (aH B.out B.out.size hb); replace HV := ah (HV.out.below hb); replace HU := ah (HU.out.below hb); clear  hb) | (go_at_call 174; (with_reducible refine (KF.out _ _ HU.out).mono ?_); rintro e W3 ⟨rfl, hb⟩; replace B := ah (aH B.out B.out.size hb); replace HV := ah (HV.out.below hb); replace HU := ah (HU.out.below hb); clear  hb) | (go_at_call 175; (with_reducible refine (KZ.out _ _ _ HV.out HU.out).mono ?_); rintro e W4 ⟨v0, rfl, hz, hb⟩; have B0 := ah B.out.size; replace B := ah (aH B.out B.out.size hb); replace HV := ah (HV.out.below hb); replace HU := ah (HU.out.below hb); have Z := ah hz; have hz' := Z.out; obtain ⟨zA, zc, ez⟩ := hz'.slice; subst ez; clear hz hb))
    go_ret2
    exact ⟨_, rfl, Z.out.lower B0.out, B.out⟩
abbrev Fh := S55
def GI (w : World) (v : Value) (h : Fh) : Prop :=
 ∃ v5 v6 v7 v8, v = .agg #[.int .i64 h.f0, .int .u64 h.f1, .int .u64 h.f2, .int .u64 h.f3, .int .u64 h.f4, v5, v6, v7, v8] ∧ SI kSp w v5 h.f5 ∧ SI kSp w v6 h.f6 ∧ SI (Kd.int .u64) w v7 h.f7 ∧ SI (Kd.int .u64) w v8 h.f8
theorem GI.below {w w' : World} {v : Value} {h : Fh} (x : GI w v h) (hb : Below w.heap.size w w') : GI w' v h := by
 obtain ⟨v5, v6, v7, v8, e, h5, h6, h7, h8⟩ := x
 exact ⟨v5, v6, v7, v8, e, h5.below hb, h6.below hb, h7.below hb, h8.below hb⟩
theorem GI.open_ {w : World} {v : Value} {h : Fh} (x : GI w v h) : ∃ A5 c5 A6 c6 A7 c7 A8 c8, v = .agg #[.int .i64 h.f0, .int .u64 h.f1, .int .u64 h.f2, .int .u64 h.f3, .int .u64 h.f4, .slice A5 h.f5.length c5, .slice A6 h.f6.length c6, .slice A7 h.f7.length c7, .slice A8 h.f8.length c8] ∧
  SI kSp w (.slice A5 h.f5.length c5) h.f5 ∧ SI kSp w (.slice A6 h.f6.length c6) h.f6 ∧ SI (Kd.int .u64) w (.slice A7 h.f7.length c7) h.f7 ∧ SI (Kd.int .u64) w (.slice A8 h.f8.length c8) h.f8 := by
 obtain ⟨v5, v6, v7, v8, rfl, h5, h6, h7, h8⟩ := x
 obtain ⟨A5, c5, rfl, NY, NZ⟩ := h5
 obtain ⟨A6, c6, rfl, N7, N8⟩ := h6
 obtain ⟨A7, c7, rfl, N9, h72⟩ := h7
 obtain ⟨A8, c8, rfl, Oa, Ob⟩ := h8
 exact ⟨A5, c5, A6, c6, A7, c7, A8, c8, rfl, .of NZ NY, .of N8 N7, .of h72 N9, .of Ob Oa⟩
theorem GI.mk {w : World} {h : Fh} {v5 v6 v7 v8 : Value} (h5 : SI kSp w v5 h.f5) (h6 : SI kSp w v6 h.f6) (h7 : SI (Kd.int .u64) w v7 h.f7) (h8 : SI (Kd.int .u64) w v8 h.f8) :
 GI w (.agg #[.int .i64 h.f0, .int .u64 h.f1, .int .u64 h.f2, .int .u64 h.f3, .int .u64 h.f4, v5, v6, v7, v8]) h := ⟨v5, v6, v7, v8, rfl, h5, h6, h7, h8⟩
def zo : Fh := ⟨0, 0, 0, 0, 0, [], [], [], []⟩
def GF (base : Nat) (w : World) (v : Value) (h : Fh) : Prop :=
 ∃ v5 v6 v7 v8, v = .agg #[.int .i64 h.f0, .int .u64 h.f1, .int .u64 h.f2, .int .u64 h.f3, .int .u64 h.f4, v5, v6, v7, v8] ∧ FI kSp base w v5 h.f5 ∧ FI kSp base w v6 h.f6 ∧ FI (Kd.int .u64) base w v7 h.f7 ∧ FI (Kd.int .u64) base w v8 h.f8
theorem GF.now {base : Nat} {w : World} {v : Value} {h : Fh} (x : GF base w v h) : GI w v h := by
 obtain ⟨v5, v6, v7, v8, e, h5, h6, h7, h8⟩ := x
 exact ⟨v5, v6, v7, v8, e, h5.now, h6.now, h7.now, h8.now⟩
theorem GF.step {base : Nat} {w w' : World} {v : Value} {h : Fh} (x : GF base w v h) (k : KA base w w') : GF base w' v h := by
 obtain ⟨v5, v6, v7, v8, e, h5, h6, h7, h8⟩ := x
 exact ⟨v5, v6, v7, v8, e, h5.step k, h6.step k, h7.step k, h8.step k⟩
theorem GF.lower {base b : Nat} {w : World} {v : Value} {h : Fh} (x : GF b w v h) (hb : base ≤ b) : GF base w v h := by
 obtain ⟨v5, v6, v7, v8, e, h5, h6, h7, h8⟩ := x
 exact ⟨v5, v6, v7, v8, e, h5.lower hb, h6.lower hb, h7.lower hb, h8.lower hb⟩
theorem GF.mk {base : Nat} {w : World} {h : Fh} {v5 v6 v7 v8 : Value} (h5 : FI kSp base w v5 h.f5) (h6 : FI kSp base w v6 h.f6) (h7 : FI (Kd.int .u64) base w v7 h.f7) (h8 : FI (Kd.int .u64) base w v8 h.f8) :
 GF base w (.agg #[.int .i64 h.f0, .int .u64 h.f1, .int .u64 h.f2, .int .u64 h.f3, .int .u64 h.f4, v5, v6, v7, v8]) h := ⟨v5, v6, v7, v8, rfl, h5, h6, h7, h8⟩
theorem GF.empty (base : Nat) (w : World) : GF base w (.agg #[.int .i64 0, .int .u64 0, .int .u64 0, .int .u64 0, .int .u64 0, .slice none 0 0, .slice none 0 0, .slice none 0 0, .slice none 0 0]) zo :=
 GF.mk (h := zo) (fun w _ => SI.nil _ w) (fun w _ => SI.nil _ w) (fun w _ => SI.nil _ w) (fun w _ => SI.nil _ w)
theorem GF.open_ {base : Nat} {w : World} {v : Value} {h : Fh} (x : GF base w v h) : ∃ A5 c5 A6 c6 A7 c7 A8 c8, v = .agg #[.int .i64 h.f0, .int .u64 h.f1, .int .u64 h.f2, .int .u64 h.f3, .int .u64 h.f4, .slice A5 h.f5.length c5, .slice A6 h.f6.length c6, .slice A7 h.f7.length c7, .slice A8 h.f8.length c8] := by
 obtain ⟨A5, c5, A6, c6, A7, c7, A8, c8, e, -⟩ := x.now.open_
 exact ⟨A5, c5, A6, c6, A7, c7, A8, c8, e⟩
def Q7 (h : Fh) : Prop := i64 h.f0 ∧ u64 h.f1 ∧ u64 h.f2 ∧ u64 h.f3 ∧ u64 h.f4 ∧ lK h.f5 ∧ lK h.f6 ∧ QX h.f7 ∧ QX h.f8 ∧ h.f7.length < 4398046511104 ∧ h.f8.length < 4398046511104
def lT (h : Fh) : List Pu × List Pu × Int :=
 if h.f0 < -4 ∨ h.f0 > 8 then ([], [], 21) else if jy h.f1 = false then ([], [], 11) else if (!jy h.f2 || !jy h.f3) = true then ([], [], 22)
 else if (wR h.f5 h.f7).2 ≠ 0 then ([], [], (wR h.f5 h.f7).2) else if (wR h.f6 h.f8).2 ≠ 0 then ([], [], (wR h.f6 h.f8).2)
 else ((wR h.f5 h.f7).1, (wR h.f6 h.f8).1, 0)
def rJ (h : Fh) : Int := (lT h).2.2
set_option maxHeartbeats 16000000 in
set_option maxRecDepth 100000 in
theorem VZ (h : Fh) (hw : Q7 h) (w : World) (v : Value) (hv : GI w v h) : Calls Try.prog 99 #[v] w fun e w' =>
    ∃ v0 v1 : Value, e = .returned (.tuple #[v0, v1, .int .i64 (lT h).2.2]) ∧ FI kPu w.heap.size w' v0 (lT h).1 ∧ FI kPu w.heap.size w' v1 (lT h).2.1 ∧ Below w.heap.size w w' := by
  have hud := Try.underlying55
  have th := MH h.f1
  have wz := J8 h.f2
  have wc := J8 h.f3
  have s5 := Qb h.f5 h.f7 hw.2.2.2.2.2.1 hw.2.2.2.2.2.2.2.2.2.1
  have s6 := Qb h.f6 h.f8 hw.2.2.2.2.2.2.1 hw.2.2.2.2.2.2.2.2.2.2
  obtain ⟨A5, c5, A6, c6, A7, c7, A8, c8, e, h5, h6, h7, h8⟩ := hv.open_
  subst e
  have B := ah (ak (Below.refl w.heap.size w) (.cells #[.int .i64 h.f0, .int .u64 h.f1, .int .u64 h.f2, .int .u64 h.f3, .int .u64 h.f4, .slice A5 h.f5.length c5, .slice A6 h.f6.length c6, .slice A7 h.f7.length c7, .slice A8 h.f8.length c8] 55))
  have X := ah (qU.new w #[.int .i64 h.f0, .int .u64 h.f1, .int .u64 h.f2, .int .u64 h.f3, .int .u64 h.f4, .slice A5 h.f5.length c5, .slice A6 h.f6.length c6, .slice A7 h.f7.length c7, .slice A8 h.f8.length c8] 55)
  have hx := fun i => X.out.cell i
  have H5 := ah (h5.below B.out)
  have H6 := ah (h6.below B.out)
  have H7 := ah (h7.below B.out)
  have H8 := ah (h8.below B.out)
  clear hv h5 h6 h7 h8
  unfold lT
  generalize jy h.f1 = r1 at *
  generalize jy h.f2 = r2 at *
  generalize jy h.f3 = r3 at *
  generalize wR h.f5 h.f7 = q5 at *
  generalize wR h.f6 h.f8 = q6 at *
  obtain ⟨p, e5⟩ := q5
  obtain ⟨n, e6⟩ := q6
  simp only at s5 s6 ⊢
  have TH := ah th
  have WZ := ah wz
  have WC := ah wc
  have S5 := ah s5
  have S6 := ah s6
  clear th wz wc s5 s6 hw
  by_cases k1 : h.f0 < -4
  · rw [if_pos (Or.inl k1)]
    have k1b : decide (h.f0 < -4) = true := aiJ k1
    clear k1
    go_enter Try.func99, Try.ntmps99
    go_wp2
    go_ret3
    exact ⟨_, _, rfl, fun w _ => SI.nil _ w, fun w _ => SI.nil _ w, B.out⟩
  by_cases k2 : h.f0 > 8
  · rw [if_pos (Or.inr k2)]
    have k1b : decide (h.f0 < -4) = false := aiK k1
    have k2b : decide (8 < h.f0) = true := aiJ k2
    clear k1 k2
    go_enter Try.func99, Try.ntmps99
    go_wp2
    go_ret3
    exact ⟨_, _, rfl, fun w _ => SI.nil _ w, fun w _ => SI.nil _ w, B.out⟩
  rw [if_neg (by omega)]
  have k1b : decide (h.f0 < -4) = false := aiK k1
  have k2b : decide (8 < h.f0) = false := aiK k2
  clear k1 k2
  cases r1 with
  | false =>
    rw [if_pos rfl]
    go_enter Try.func99, Try.ntmps99
    go_wp2_with (first | (go_at_call 131; (with_reducible refine (TH.out _).mono ?_); rintro e W1 ⟨rfl, hb⟩; replace B := ah (aH B.out B.out.size hb); replace H5 := ah (H5.out.below hb); replace H6 := ah (H6.out.below hb); replace H7 := ah (H7.out.below hb); replace H8 := ah (H8.out.below hb); replace X := ah (X.out.below hb); replace hx := fun i => X.out.cell i; clear  hb))
    go_ret3
    exact ⟨_, _, rfl, fun w _ => SI.nil _ w, fun w _ => SI.nil _ w, B.out⟩
  | true =>
    rw [if_neg (by simp)]
    cases r2 with
    | false =>
      rw [if_pos (by simp)]
      go_enter Try.func99, Try.ntmps99
      go_wp2_with (first | (go_at_call 131; (with_reducible refine (TH.out _).mono ?_); rintro e W1 ⟨rfl, hb⟩; replace B := ah (aH B.out B.out.size hb); replace H5 := ah (H5.out.below hb); replace H6 := ah (H6.out.below hb); replace H7 := ah (H7.out.below hb); replace H8 := ah (H8.out.below hb); replace X := ah (X.out.below hb); replace hx := fun i => X.out.cell i; clear  hb) | (go_at_call 153; (with_reducible refine (WZ.out _).mono ?_); rintro e W2 ⟨rfl, hb⟩; replace B := ah (aH B.out B.out.size hb); replace H5 := ah (H5.out.below hb); replace H6 := ah (H6.out.below hb); replace H7 := ah (H7.out.below hb); replace H8 := ah (H8.out.below hb); replace X := ah (X.out.below hb); replace hx := fun i => X.out.cell i; clear  hb))
      go_ret3
      exact ⟨_, _, rfl, fun w _ => SI.nil _ w, fun w _ => SI.nil _ w, B.out⟩
    | true =>
      cases r3 with
      | false =>
        rw [if_pos (by simp)]
        go_enter Try.func99, Try.ntmps99
        go_wp2_with (first | (go_at_call 131; (with_reducible refine (TH.out _).mono ?_); rintro e W1 ⟨rfl, hb⟩; replace B := ah (aH B.out B.out.size hb); replace H5 := ah (H5.out.below hb); replace H6 := ah (H6.out.below hb); replace H7 := ah (H7.out.below hb); replace H8 := ah (H8.out.below hb); replace X := ah (X.out.below hb); replace hx := fun i => X.out.cell i; clear  hb) | (go_at_call 153; (with_reducible refine (WZ.out _).mono ?_); rintro e W2 ⟨rfl, hb⟩; replace B := ah (aH B.out B.out.size hb); replace H5 := ah (H5.out.below hb); replace H6 := ah (H6.out.below hb); replace H7 := ah (H7.out.below hb); replace H8 := ah (H8.out.below hb); replace X := ah (X.out.below hb); replace hx := fun i => X.out.cell i; clear  hb) | (go_at_call 153; (with_reducible refine (WC.out _).mono ?_); rintro e W3 ⟨rfl, hb⟩; replace B := ah (aH B.out B.out.size hb); replace H5 := ah (H5.out.below hb); replace H6 := ah (H6.out.below hb); replace H7 := ah (H7.out.below hb); replace H8 := ah (H8.out.below hb); replace X := ah (X.out.below hb); replace hx := fun i => X.out.cell i; clear  hb))
        go_ret3
        exact ⟨_, _, rfl, fun w _ => SI.nil _ w, fun w _ => SI.nil _ w, B.out⟩
      | true =>
        rw [if_neg (by simp)]
        by_cases d5 : e5 = 0
        rotate_left
        · rw [if_pos d5]
          have d5a : (e5 == 0) = false := beq_eq_false_iff_ne.2 d5
          have d5b : (e5 != 0) = true := bne_iff_ne.2 d5
          clear d5
          go_enter Try.func99, Try.ntmps99
          go_wp2_with (first | (go_at_call 131; (with_reducible refine (TH.out _).mono ?_); rintro e W1 ⟨rfl, hb⟩; replace B := ah (aH B.out B.out.size hb); replace H5 := ah (H5.out.below hb); replace H6 := ah (H6.out.below hb); replace H7 := ah (H7.out.below hb); replace H8 := ah (H8.out.below hb); replace X := ah (X.out.below hb); replace hx := fun i => X.out.cell i; clear  hb) | (go_at_call 153; (with_reducible refine (WZ.out _).mono ?_); rintro e W2 ⟨rfl, hb⟩; replace B := ah (aH B.out B.out.size hb); replace H5 := ah (H5.out.below hb); replace H6 := ah (H6.out.below hb); replace H7 := ah (H7.out.below hb); replace H8 := ah (H8.out.below hb); replace X := ah (X.out.below hb); replace hx := fun i => X.out.cell i; clear  hb) | (go_at_call 153; (with_reducible refine (WC.out _).mono ?_); rintro e W3 ⟨rfl, hb⟩; replace B := ah (aH B.out B.out.size hb); replace H5 := ah (H5.out.below hb); replace H6 := ah (H6.out.below hb); replace H7 := ah (H7.out.below hb); replace H8 := ah (H8.out.below hb); replace X := ah (X.out.below hb); replace hx := fun i => X.out.cell i; clear  hb) | (go_at_call 154; (with_reducible refine (S5.out _ _ _ H5.out H7.out).mono ?_); rintro e W4 ⟨v5, rfl, hp, hb⟩; have hp := FI.lower hp B.out.size; replace B := ah (aH B.out B.out.size hb); replace H5 := ah (H5.out.below hb); replace H6 := ah (H6.out.below hb); replace H7 := ah (H7.out.below hb); replace H8 := ah (H8.out.below hb); replace X := ah (X.out.below hb); replace hx := fun i => X.out.cell i; have P5 := ah hp; have Q5 := ah (show W4.heap.size = W4.heap.size from rfl); have hp' := P5.out; obtain ⟨pA, pc, ep⟩ := hp'.slice; subst ep; clear hp hb))
          go_ret3
          exact ⟨_, _, rfl, fun w _ => SI.nil _ w, fun w _ => SI.nil _ w, B.out⟩
        subst d5
        rw [if_neg (by simp)]
        by_cases d6 : e6 = 0
        rotate_left
        · rw [if_pos d6]
          have d6a : (e6 == 0) = false := beq_eq_false_iff_ne.2 d6
          have d6b : (e6 != 0) = true := bne_iff_ne.2 d6
          clear d6
          go_enter Try.func99, Try.ntmps99
          go_wp2_with (first | (go_at_call 131; (with_reducible refine (TH.out _).mono ?_); rintro e W1 ⟨rfl, hb⟩; replace B := ah (aH B.out B.out.size hb); replace H5 := ah (H5.out.below hb); replace H6 := ah (H6.out.below hb); replace H7 := ah (H7.out.below hb); replace H8 := ah (H8.out.below hb); replace X := ah (X.out.below hb); replace hx := fun i => X.out.cell i; clear  hb) | (go_at_call 153; (with_reducible refine (WZ.out _).mono ?_); rintro e W2 ⟨rfl, hb⟩; replace B := ah (aH B.out B.out.size hb); replace H5 := ah (H5.out.below hb); replace H6 := ah (H6.out.below hb); replace H7 := ah (H7.out.below hb); replace H8 := ah (H8.out.below hb); replace X := ah (X.out.below hb); replace hx := fun i => X.out.cell i; clear  hb) | (go_at_call 153; (with_reducible refine (WC.out _).mono ?_); rintro e W3 ⟨rfl, hb⟩; replace B := ah (aH B.out B.out.size hb); replace H5 := ah (H5.out.below hb); replace H6 := ah (H6.out.below hb); replace H7 := ah (H7.out.below hb); replace H8 := ah (H8.out.below hb); replace X := ah (X.out.below hb); replace hx := fun i => X.out.cell i; clear  hb) | (go_at_call 154; (with_reducible refine (S5.out _ _ _ H5.out H7.out).mono ?_); rintro e W4 ⟨v5, rfl, hp, hb⟩; have hp := FI.lower hp B.out.size; replace B := ah (aH B.out B.out.size hb); replace H5 := ah (H5.out.below hb); replace H6 := ah (H6.out.below hb); replace H7 := ah (H7.out.below hb); replace H8 := ah (H8.out.below hb); replace X := ah (X.out.below hb); replace hx := fun i => X.out.cell i; have P5 := ah hp; have Q5 := ah (show W4.heap.size = W4.heap.size from rfl); have hp' := P5.out; obtain ⟨pA, pc, ep⟩ := hp'.slice; subst ep; clear hp hb) | (go_at_call 154; (with_reducible refine (S6.out _ _ _ H6.out H8.out).mono ?_); rintro e W5 ⟨v6, rfl, hp, hb⟩; have hp := FI.lower hp B.out.size; replace B := ah (aH B.out B.out.size hb); replace H5 := ah (H5.out.below hb); replace H6 := ah (H6.out.below hb); replace H7 := ah (H7.out.below hb); replace H8 := ah (H8.out.below hb); replace P5 := ah (P5.out.step (KA.below hb)); replace X := ah (X.out.below hb); replace hx := fun i => X.out.cell i; have P6 := ah hp; have hp' := P6.out; obtain ⟨nA, nc, en⟩ := hp'.slice; subst en; clear hp hb))
          go_ret3
          exact ⟨_, _, rfl, fun w _ => SI.nil _ w, fun w _ => SI.nil _ w, B.out⟩
        subst d6
        rw [if_neg (by simp)]
        go_enter Try.func99, Try.ntmps99
        go_wp2_with (first | (go_at_call 131; (with_reducible refine (TH.out _).mono ?_); rintro e W1 ⟨rfl, hb⟩; replace B := ah (aH B.out B.out.size hb); replace H5 := ah (H5.out.below hb); replace H6 := ah (H6.out.below hb); replace H7 := ah (H7.out.below hb); replace H8 := ah (H8.out.below hb); replace X := ah (X.out.below hb); replace hx := fun i => X.out.cell i; clear  hb) | (go_at_call 153; (with_reducible refine (WZ.out _).mono ?_); rintro e W2 ⟨rfl, hb⟩; replace B := ah (aH B.out B.out.size hb); replace H5 := ah (H5.out.below hb); replace H6 := ah (H6.out.below hb); replace H7 := ah (H7.out.below hb); replace H8 := ah (H8.out.below hb); replace X := ah (X.out.below hb); replace hx := fun i => X.out.cell i; clear  hb) | (go_at_call 153; (with_reducible refine (WC.out _).mono ?_); rintro e W3 ⟨rfl, hb⟩; replace B := ah (aH B.out B.out.size hb); replace H5 := ah (H5.out.below hb); replace H6 := ah (H6.out.below hb); replace H7 := ah (H7.out.below hb); replace H8 := ah (H8.out.below hb); replace X := ah (X.out.below hb); replace hx := fun i => X.out.cell i; clear  hb) | (go_at_call 154; (with_reducible refine (S5.out _ _ _ H5.out H7.out).mono ?_); rintro e W4 ⟨v5, rfl, hp, hb⟩; have hp := FI.lower hp B.out.size; replace B := ah (aH B.out B.out.size hb); replace H5 := ah (H5.out.below hb); replace H6 := ah (H6.out.below hb); replace H7 := ah (H7.out.below hb); replace H8 := ah (H8.out.below hb); replace X := ah (X.out.below hb); replace hx := fun i => X.out.cell i; have P5 := ah hp; have Q5 := ah (show W4.heap.size = W4.heap.size from rfl); have hp' := P5.out; obtain ⟨pA, pc, ep⟩ := hp'.slice; subst ep; clear hp hb) | (go_at_call 154; (with_reducible refine (S6.out _ _ _ H6.out H8.out).mono ?_); rintro e W5 ⟨v6, rfl, hp, hb⟩; have hp := FI.lower hp B.out.size; replace B := ah (aH B.out B.out.size hb); replace H5 := ah (H5.out.below hb); replace H6 := ah (H6.out.below hb); replace H7 := ah (H7.out.below hb); replace H8 := ah (H8.out.below hb); replace P5 := ah (P5.out.step (KA.below hb)); replace X := ah (X.out.below hb); replace hx := fun i => X.out.cell i; have P6 := ah hp; have hp' := P6.out; obtain ⟨nA, nc, en⟩ := hp'.slice; subst en; clear hp hb))
        go_ret3
        exact ⟨_, _, rfl, P5.out, P6.out, B.out⟩
theorem EN (h : Fh) (hw : Q7 h) (w : World) (v : Value) (hv : GI w v h) : Calls Try.prog 99 #[v] w fun e w' =>
  ∃ v0 v1 : Value, e = .returned (.tuple #[v0, v1, .int .i64 (lT h).2.2]) ∧ SI kPu w' v0 (lT h).1 ∧ SI kPu w' v1 (lT h).2.1 ∧ Below w.heap.size w w' :=
 (VZ h hw w v hv).mono fun e w1 ⟨v0, v1, e1, h0, h1, hb⟩ => ⟨v0, v1, e1, h0.now, h1.now, hb⟩
set_option maxHeartbeats 4000000 in
set_option maxRecDepth 100000 in
theorem Uo (h : Fh) (hw : Q7 h) (w : World) (v : Value) (hv : GI w v h) : Calls Try.prog 37 #[v] w fun e w' =>
  e = .returned (.int .i64 (rJ h)) ∧ Below w.heap.size w w' := by
 have hu := Try.underlying55
 obtain ⟨A5, c5, A6, c6, A7, c7, A8, c8, e, -⟩ := hv.open_
 subst e
 have HV := ah hv
 have HW := ah hw
 clear hv hw
 go_enter Try.func37, Try.ntmps37
 go_wp2_with (go_at_call 99; (with_reducible refine (EN h HW.out _ _ (HV.out.below (ak (Below.refl _ _) _))).mono ?_); rintro e w1 ⟨v0, v1, rfl, h0, h1, hb⟩; have HB := ah (aH (ak (Below.refl w.heap.size w) _) (by simp) hb); clear h0 h1 hb)
 go_ret
 exact ⟨rfl, HB.out⟩
def AQ (h : Fh) (side : Int) : List Pu × Int := if side = 0 then ((lT h).1, (lT h).2.2) else if side = 1 then ((lT h).2.1, (lT h).2.2) else ([], 11)
set_option maxHeartbeats 4000000 in
set_option maxRecDepth 100000 in
theorem MI (h : Fh) (hw : Q7 h) (side : Int) (w : World) (v : Value) (hv : GI w v h) : Calls Try.prog 90 #[v, .int .i64 side] w fun e w' =>
  ∃ v0, e = .returned (.tuple #[v0, .int .i64 (AQ h side).2]) ∧ SI kPu w' v0 (AQ h side).1 ∧ Below w.heap.size w w' := by
 have hu := Try.underlying55
 obtain ⟨A5, c5, A6, c6, A7, c7, A8, c8, e, -⟩ := hv.open_
 subst e
 have HV := ah hv
 have HW := ah hw
 clear hv hw
 unfold AQ
 by_cases c0 : side = 0
 ·subst c0
  rw [if_pos rfl]
  go_enter Try.func90, Try.ntmps90
  go_wp2_with (go_at_call 99; (with_reducible refine (EN h HW.out _ _ (HV.out.below (ak (Below.refl _ _) _))).mono ?_); rintro e w1 ⟨v0, v1, rfl, h0, h1, hb⟩; have HO := ah h0; have HB := ah (aH (ak (Below.refl w.heap.size w) _) (by simp) hb); clear h0 h1 hb)
  go_ret2
  exact ⟨_, rfl, HO.out, HB.out⟩
 ·rw [if_neg c0]
  have c0a : (side == 0) = false := beq_eq_false_iff_ne.2 c0
  have c0b : (side != 0) = true := bne_iff_ne.2 c0
  by_cases c1 : side = 1
  ·subst c1
   rw [if_pos rfl]
   clear c0
   go_enter Try.func90, Try.ntmps90
   go_wp2_with (go_at_call 99; (with_reducible refine (EN h HW.out _ _ (HV.out.below (ak (Below.refl _ _) _))).mono ?_); rintro e w1 ⟨v0, v1, rfl, h0, h1, hb⟩; have HO := ah h1; have HB := ah (aH (ak (Below.refl w.heap.size w) _) (by simp) hb); clear h0 h1 hb)
   go_ret2
   exact ⟨_, rfl, HO.out, HB.out⟩
  ·rw [if_neg c1]
   have c1a : (side == 1) = false := beq_eq_false_iff_ne.2 c1
   have c1b : (side != 1) = true := bne_iff_ne.2 c1
   clear c0 c1
   go_enter Try.func90, Try.ntmps90
   go_wp2_with (go_at_call 99; (with_reducible refine (EN h HW.out _ _ (HV.out.below (ak (Below.refl _ _) _))).mono ?_); rintro e w1 ⟨v0, v1, rfl, h0, h1, hb⟩; have HO := ah h1; have HB := ah (aH (ak (Below.refl w.heap.size w) _) (by simp) hb); clear h0 h1 hb)
   go_ret2
   exact ⟨_, rfl, SI.nil _ _, HB.out⟩
def xU (g : Nat) (cap : Array Value) (p : gW → Bool) (w : World) : Prop :=
 ∀ (W : World) (x : gW), Below w.heap.size w W → Calls Try.prog g (#[.agg #[.int .i64 x.f0, .int .u64 x.f1]] ++ cap) W fun e w' => e = .returned (.bool (p x)) ∧ Below W.heap.size W w'
theorem Ah (l : List gW) (i : Nat) (h : i < l.length) : bg l (i : Int) = l[i] := by
 unfold bg; simp [List.getD, h]
set_option maxHeartbeats 2000000 in
theorem xW (g : Nat) (cap : Array Value) (p : gW → Bool) (A : Option Addr) (c : Nat) (l : List gW) (w : World)
    (hr : Kd.C kV w A l.length l) (hc : l.length ≤ c) (hm : l.length ≤ 9223372036854775807) (hp : xU g cap p w) (eg : ∀ args w, (callFunc g args).run Try.prog w = .ok (.enter g args) w) :
    Calls Try.prog 173 #[.slice A l.length c, .func (.func g) #[] cap] w fun e w' => e = .returned (.int .i64 (wH p l)) ∧ Below w.heap.size w w' := by
  have hu := Try.underlying192
  have HR := ah hr
  have HP := ah hp
  clear hr hp
  go_enter Try.func173, Try.ntmps173
  go_wp2
  go_loopg [5, 8] l.length (fun gg _ s8 wr => ∃ kk : Nat, kk ≤ l.length ∧ l.length - kk ≤ gg ∧ s8 = .int .i64 kk ∧ aj (Below w.heap.size w wr) ∧ aj (∀ j (hj : j < kk) (hj2 : j < l.length), p l[j] = false))
  case atStart => exact ⟨0, Nat.zero_le _, by omega, rfl, ⟨Below.refl _ w⟩, ⟨fun j hj => absurd hj (Nat.not_lt_zero _)⟩⟩
  case round =>
    obtain ⟨kk, hkk, hg, rfl, HB, HA⟩ := hrel
    by_cases hlt : kk < l.length
    · have hlti : (kk : Int) < (l.length : Int) := by omega
      obtain ⟨ad, e1, hx0, hx1⟩ := wZ HR.out kk (by omega) (by omega)
      cases e1
      replace hx0 := (HB.out.cell (World.block_lt_of_cell? w _ hx0)).trans hx0
      replace hx1 := (HB.out.cell (World.block_lt_of_cell? w _ hx1)).trans hx1
      rw [Ah l kk hlt, Int.toNat_natCast] at hx0 hx1
      have hcall := HP.out wr l[kk] HB.out
      generalize hy : l[kk] = y at hx0 hx1 hcall
      have HY := ah hy
      clear hy
      cases hq : p y with
      | true =>
        rw [hq] at hcall
        have HQ := ah hq
        clear hq
        have HC := ah hcall
        clear hcall
        go_wp2_with (go_at_fn g; refine HC.out.mono ?_; rintro e w' ⟨rfl, hb'⟩)
        go_ret
        refine ⟨?_, HB.out.trans (hb'.mono HB.out.size)⟩
        rw [Bv p l kk hlt (by rw [HY.out]; exact HQ.out) (fun j hj => HA.out j hj (by omega))]; rfl
      | false =>
        rw [hq] at hcall
        have HQ := ah hq
        clear hq
        have HC := ah hcall
        clear hcall
        go_wp2_with (go_at_fn g; refine HC.out.mono ?_; rintro e w' ⟨rfl, hb'⟩)
        go_roundg (l.length - (kk + 1))
        case measure => omega
        case rel =>
          refine ⟨kk + 1, by omega, by omega, by go_num, ⟨HB.out.trans (hb'.mono HB.out.size)⟩, ⟨fun j hj hj2 => ?_⟩⟩
          by_cases e : j = kk
          · subst e
            rw [HY.out]; exact HQ.out
          · exact HA.out j (by omega) hj2
    · have hlti : ¬ (kk : Int) < (l.length : Int) := by omega
      have hk : kk = l.length := by omega
      go_wp2
      go_ret
      refine ⟨?_, HB.out⟩
      rw [zK p l (fun j hj => HA.out j (by omega) hj)]; rfl
def slices_Clone_pairU.f (l0 : List gW) : Option (List gW) := if l0.length < 8796093022208 then some l0 else none
set_option maxHeartbeats 2000000 in
set_option maxRecDepth 100000 in
theorem slices_Clone_pairU.calls (A0 : Option Addr) (c0 : Nat) (l0 r : List gW) (w : World) (hr0 : Kd.C kV w A0 l0.length l0) (hc0 : l0.length ≤ c0) (h : slices_Clone_pairU.f l0 = some r) :
    Calls Try.prog 149 #[.slice A0 l0.length c0] w fun e w' => ∃ lY : Value, e = .returned (lY) ∧ Kd.R kV 192 w' w.heap.size (fun _ => True) lY r ∧ Below w.heap.size w w' := by
  obtain ⟨hm, h2⟩ := lN h
  subst h2
  clear h
  have hu := Try.underlying129
  have HM := ah hm
  clear hm
  cases A0 with
  | none =>
    have hl : l0 = [] := by
      rcases Nat.eq_zero_or_pos l0.length with h | h
      · exact List.length_eq_zero_iff.1 h
      · obtain ⟨ad, e, _⟩ := hr0.2.2 h
        cases e
    subst hl
    have hn : ∀ W n c, (binOp .eql 129 (.slice none n c) (.slice none 0 0)).run Try.prog W = .ok (.bool true) W := fun W n c => by
      exact Lib.run_eql_slice_nil W _ _ none n c 0 0 Try.underlying129
    go_enter Try.func149, Try.ntmps149
    go_wp2
    go_ret
    exact ⟨_, rfl, Kd.dY _ _ _ _ _, Below.refl _ _⟩
  | some ad =>
    have hn : ∀ W n c, (binOp .eql 129 (.slice (some ad) n c) (.slice none 0 0)).run Try.prog W = .ok (.bool false) W := fun W n c => by
      exact Lib.run_eql_slice_nil W _ _ (some ad) n c 0 0 Try.underlying129
    have HR := ah hr0
    clear hr0
    go_enter Try.func149, Try.ntmps149
    go_wp2_with ((with_reducible refine dZ (b := .append) (xs := #[.tmp 5, .tmp 6]) rfl ?_); at_builtin; refine Kd.vZ kV (w0 := w) (Rr := kV.K w) w.heap.size rfl (.tmp 5) (.tmp 6) 129 192 _ 16 rfl Try.underlying129 Bq rfl (by decide) (by omega) (.slice (some ⟨w.heap.size, 0, none⟩) 0 0) [] l0 (some ad) l0.length c0 (fun _ => True) (fun _ => False) rfl rfl ?aO ?aR ?aK (fun _ hk => hk.elim) (fun _ _ => trivial) ?aB ?aS ?aL ?_; (case aO => exact ⟨fun _ _ => trivial, [], ⟨rfl, .inr ⟨w.heap.size, 0, #[], rfl, Nat.le_refl _, by simpa using iM w _, Nat.le_refl _, by unfold maxLen; omega, rfl, rfl⟩⟩, jA.none _ _⟩); (case aR => exact HR.out.qm (ak (Below.refl _ _) _) (fun _ _ h => h)); (case aK => intro x cs hx; rw [IC hx]; exact mF _ _ _ x); (case aB => exact ak (Below.refl _ _) _); (case aS => simp); (case aL => have := HM.out; simp; omega); intro v1 w1 ho hb hg hat; rw [List.nil_append] at ho; have HO := ah ho; have HB := ah hb; clear ho hb hg hat)
    go_ret
    exact ⟨_, rfl, HO.out, HB.out⟩
theorem MJ : ∀ w w1 base ok x cs, kV.M w base ok x cs → kV.M w1 base ok x cs := fun w w1 base ok x cs h => by
 rw [lW h]; exact mF _ _ _ x
theorem MK (n : Nat) : (Builtin.zeroCells (Value.agg #[.int .i64 0, .int .u64 0]).cells n).toList.length = n * 2 ∧ ∀ v ∈ (Builtin.zeroCells (Value.agg #[.int .i64 0, .int .u64 0]).cells n).toList, v.oneCell' = true := by
 have hc : (Value.agg #[.int .i64 0, .int .u64 0]).cells = #[.int .i64 0, .int .u64 0] := by kernel_rfl
 rw [hc]
 refine ⟨by simp [Builtin.zeroCells], fun v hv => ?_⟩
 simp only [Builtin.zeroCells, Array.toList_map, List.mem_map] at hv
 obtain ⟨i, _, rfl⟩ := hv
 have : i % 2 = 0 ∨ i % 2 = 1 := by omega
 rcases this with h | h <;> simp [h] <;> rfl
set_option maxHeartbeats 4000000 in
set_option maxRecDepth 100000 in
theorem CP (g : Nat) (cap : Array Value) (p : gW → Bool) (w0 w : World) (v : Value) (xs : List gW)
    (HO : Kd.R kV 192 w w0.heap.size (fun _ => True) v xs) (HB : Below w0.heap.size w0 w) (hp : xU g cap p w0) (eg : ∀ args w, (callFunc g args).run Try.prog w = .ok (.enter g args) w) :
    Calls Try.prog 148 #[v, .func (.func g) #[] cap] w fun e w' => ∃ v' : Value, e = .returned v' ∧ Kd.R kV 192 w' w0.heap.size (fun _ => True) v' (xs.filter (fun x => !p x)) ∧ Below w0.heap.size w0 w' := by
  have hu := Try.underlying192
  obtain ⟨A, c, rfl, hlc, hC⟩ := Kd.qo HO
  have hm : xs.length ≤ 9223372036854775807 := hC.2.1
  have HI := xW g cap p A c xs w hC hlc hm (fun W x hb => hp W x (aH HB HB.size hb)) eg
  have HX := EY p xs
  have HP := ah hp
  clear hp
  generalize wH p xs = ix at HI HX
  rcases HX with ⟨rfl, hfil⟩ | ⟨i0, hi0, rfl, hhit, hbef⟩
  · rw [hfil]
    have HI := ah HI
    have HO := ah HO
    have HB := ah HB
    clear hC hfil
    go_enter Try.func148, Try.ntmps148
    go_wp2_with (go_at_call 173; refine HI.out.mono ?_; rintro e w' ⟨rfl, hb'⟩)
    go_ret
    exact ⟨_, rfl, Kd.fC HO.out hb', aH HB.out HB.out.size hb'⟩
  · obtain ⟨gb, cp, hv, hbg, hgl, cells, hcells⟩ := Kd.qw HO (by omega)
    injection hv with hA _ hcp
    subst hA; subst hcp
    have hne : (((i0 : Int)) == -1) = false := beq_eq_false_iff_ne.2 (by omega)
    have HS := DelInv.start hi0 hhit hbef
    have HI := ah HI
    have HO := ah HO
    have HB := ah HB
    have HS := ah HS
    have HM := ah hm
    have hi0' : i0 + 1 ≤ xs.length := hi0
    clear hC hhit hbef hcells
    go_enter Try.func148, Try.ntmps148
    go_wp2_with (go_at_call 173; refine HI.out.mono ?_; rintro e w' ⟨rfl, hb'⟩; have LX := ah (Kd.fC HO.out hb'); have HB1 := ah (aH HB.out HB.out.size hb'); clear hb' HI HO HB)
    go_loopg [5, 6] xs.length (fun gg s5 s6 wr => ∃ (i j : Nat) (ys : List gW), s5 = .int .i64 i ∧ s6 = .int .i64 j ∧ j ≤ xs.length ∧ xs.length - j ≤ gg ∧ aj (DelInv p xs i j ys) ∧ aj (Kd.R kV 192 wr w0.heap.size (fun _ => True) (.slice (some ⟨gb, 0, none⟩) xs.length c) ys) ∧ aj (Below w0.heap.size w0 wr))
    case atStart => exact ⟨i0, i0 + 1, xs, rfl, by go_num, by omega, by omega, HS, LX, HB1⟩
    case round =>
      obtain ⟨i, j, ys, rfl, rfl, hj, hg, HD, HO, HB⟩ := hrel
      clear HS LX HB1
      have hlen := HD.out.len
      have hij := HD.out.lt
      by_cases hlt : j < xs.length
      · have hlti : (j : Int) < (xs.length : Int) := by omega
        have hii : (i : Int) < (xs.length : Int) := by omega
        obtain ⟨hj2, hyx⟩ := HD.out.at_ hlt
        have hC := (Kd.bD HO.out).2.2
        obtain ⟨ad, e1, hx0, hx1⟩ := wZ hC j (by omega) (by omega)
        cases e1
        rw [Ah ys j hj2, Int.toNat_natCast, hyx] at hx0 hx1
        rw [add_plain] at hx0 hx1
        dsimp only at hx1
        have hcall := HP.out (wr.alloc (.cells #[.int .i64 xs[j].f0, .int .u64 xs[j].f1] 192)) xs[j] (aH HB.out HB.out.size (ak (Below.refl _ _) _))
        clear hC
        cases hq : p xs[j] with
        | true =>
          rw [hq] at hcall
          have HD' := ah (HD.out.skip hlt hq)
          have HC := ah hcall
          clear hcall hq hyx
          generalize xs[j] = y at hx0 hx1 HC
          go_wp2_with (go_at_fn g; refine HC.out.mono ?_; rintro e w' ⟨rfl, hb'⟩; have HB1 := ah (aH (aH HB.out HB.out.size (ak (Below.refl _ _) _)) (by have := HB.out.size; simp; omega) hb'); have LX := ah (Kd.fC (Kd.fC HO.out (ak (Below.refl _ _) _)) hb'); clear hb' HO HB)
          go_roundg (xs.length - (j + 1))
          case measure => omega
          case rel => exact ⟨i, j + 1, ys, rfl, by go_num, by omega, by omega, HD', LX, HB1⟩
        | false =>
          rw [hq] at hcall
          have HD' := ah (HD.out.keep hlt hq)
          have HC := ah hcall
          clear hcall hq hyx
          generalize xs[j] = y at hx0 hx1 HC HD'
          go_wp2_with (first | (go_at_fn g; refine HC.out.mono ?_; rintro e w' ⟨rfl, hb'⟩; have hv0 : w'.cell? ⟨wr.heap.size, 0, none⟩ = some (.int .i64 y.f0) := (hb'.cell (p := ⟨wr.heap.size, 0, none⟩) (by simp)).trans (by simp); have hv1 : w'.cell? ⟨wr.heap.size, 1, none⟩ = some (.int .u64 y.f1) := (hb'.cell (p := ⟨wr.heap.size, 1, none⟩) (by simp)).trans (by simp); have HB1 := ah (aH (aH HB.out HB.out.size (ak (Below.refl _ _) _)) (by have := HB.out.size; simp; omega) hb'); have LX := ah (Kd.fC (Kd.fC HO.out (ak (Below.refl _ _) _)) hb'); clear hb' HO HB) | ((with_reducible refine WM (.store 192 (.tmp 33) (.tmp 32)) rfl ?_); obtain ⟨ce, hcl, hcM, hcc, hcf⟩ := Kd.jJ LX.out Ei (i : Int) (by omega) (by omega); refine Kd.O8 kV (w0 := w0) w0.heap.size rfl rfl 192 (.tmp 33) (.tmp 32) rfl 192 (i : Int) 0 ys y (.agg #[.int .i64 y.f0, .int .u64 y.f1]) [.int .i64 y.f0, .int .u64 y.f1] ce (fun _ => True) (fun _ => False) (by first | rfl | simp) rfl rfl rfl (by kernel_rfl) (by intro q hq; simp at hq; rcases hq with rfl | rfl <;> rfl) LX.out (by omega) (by omega) hcl hcc (by show 0 + 2 ≤ 2; omega) (by rw [show ce.drop (0 + [Value.int .i64 y.f0, Value.int .u64 y.f1].length) = [] from List.drop_eq_nil_of_le (by rw [hcl]; exact Nat.le_refl 2)]; exact mF _ _ _ y) (fun _ h => h.elim) HB1.out ?_; intro w1 ho hb hg; rw [Int.toNat_natCast] at ho; have FZ := ah ho; have HB2 := ah hb; clear ho hb hg hcl hcM hcc hcf LX HB1))
          go_roundg (xs.length - (j + 1))
          case measure => omega
          case rel => exact ⟨i + 1, j + 1, ys.set i y, by go_num, by go_num, by omega, by omega, HD', FZ, HB2⟩
      · have hjx : j = xs.length := by omega
        subst hjx
        have hlti : ¬ (xs.length : Int) < (xs.length : Int) := by omega
        have hii : (i : Int) < (xs.length : Int) := by omega
        obtain ⟨inner, hown⟩ := Kd.Ip HO.out
        obtain ⟨cur, hcur, hcs, hnc⟩ : ∃ cur, wr.heap[gb]? = some (.cells cur 192 (0, 0)) ∧ cur.size = c * 2 ∧ xs.length ≤ c := by
          rcases hown.2 with ⟨hv, _⟩ | ⟨g', cap', cur, hv, hb, hh, hnc, hcm, hcs, ht⟩
          · cases hv
          · injection hv with ha _ hc
            injection ha with ha
            injection ha with hg'
            subst hg'; subst hc
            exact ⟨cur, hh, hcs, by omega⟩
        have hzl := MK (xs.length - i)
        have hpc := DL hcur (i * 2) (Builtin.zeroCells (Value.agg #[.int .i64 0, .int .u64 0]).cells (xs.length - i)).toList.length (by rw [hzl.1]; omega)
        have hcl : ∀ ty, (Builtin.clear_ #[129] ty #[.slice (some ⟨gb, i * 2, none⟩) (xs.length - i) (c - i)]).run Try.prog wr = .ok (.tuple #[]) (wr.setCells gb (i * 2) (Builtin.zeroCells (Value.agg #[.int .i64 0, .int .u64 0]).cells (xs.length - i)).toList) := fun ty =>
          yt wr _ _ ty (Value.agg #[.int .i64 0, .int .u64 0]) Try.underlying129 (fun w => by kernel_rfl) gb (i * 2) _ _ (by omega) hzl.2 hpc.1 hpc.2
        have HF := ah HD.out.done
        have HR2 : aj (Kd.R kV 192 (wr.setCells gb (i * 2) (Builtin.zeroCells (Value.agg #[.int .i64 0, .int .u64 0]).cells (xs.length - i)).toList) w0.heap.size (fun _ => True) (.slice (some ⟨gb, 0, none⟩) i c) (ys.take i)) := ⟨KY MJ (Kd.RQ HO.out (by omega)) _ _ (by show i * 2 ≤ i * 2; omega) (by rw [hzl.1]; show i * 2 + (xs.length - i) * 2 ≤ c * 2; omega)⟩
        have HB2 : aj (Below w0.heap.size w0 (wr.setCells gb (i * 2) (Builtin.zeroCells (Value.agg #[.int .i64 0, .int .u64 0]).cells (xs.length - i)).toList)) := ⟨by
          obtain ⟨h1, h2, h3, h4⟩ := rQ gb (Builtin.zeroCells (Value.agg #[.int .i64 0, .int .u64 0]).cells (xs.length - i)).toList (i * 2) wr
          refine HB.out.trans ⟨h1, h2, h3, by rw [h4]; exact Nat.le_refl _, fun k hk => qx _ _ k (by omega)⟩⟩
        have hic : (c = i) = False := by simp; omega
        clear HO HB hpc hzl hcur hcs hown HD
        generalize (Builtin.zeroCells (Value.agg #[.int .i64 0, .int .u64 0]).cells (xs.length - i)).toList = seg at hcl HR2 HB2
        go_wp2
        go_ret
        exact ⟨_, rfl, by rw [← HF.out]; exact HR2.out, HB2.out⟩
set_option maxRecDepth 100000 in
theorem Et (W : World) (x : gW) (B : Nat) (pl : Int) (hc : W.cell? ⟨B, 0, none⟩ = some (.int .u64 pl)) :
  Calls Try.prog 150 #[.agg #[.int .i64 x.f0, .int .u64 x.f1], .pointer (some ⟨B, 0, none⟩)] W fun e w' => e = .returned (.bool (x.f1 == pl)) ∧ Below W.heap.size W w' := by
 have hu := Try.underlying192
 have hB : B < W.heap.size := World.block_lt_of_cell? W ⟨B, 0, none⟩ hc
 have hc2 : (W.alloc (.cells #[.int .i64 x.f0, .int .u64 x.f1] 192)).cell? ⟨B, 0, none⟩ = some (.int .u64 pl) := ((ak (Below.refl _ _) _).cell (p := ⟨B, 0, none⟩) hB).trans hc
 go_enter Try.func150, Try.ntmps150
 go_wp2
 go_ret
 exact ⟨rfl, (Below.refl _ _).alloc (Nat.le_refl _) _⟩
def pairs_Without_uint64.f (l0 : List gW) (a1 : Int) : Option (List gW) :=
 if l0.length < 8796093022208 then some (l0.filter (fun x => !(x.f1 == a1))) else none
set_option maxHeartbeats 2000000 in
set_option maxRecDepth 100000 in
theorem pairs_Without_uint64.calls (A0 : Option Addr) (c0 : Nat) (l0 : List gW) (a1 : Int) (r : List gW) (w : World) (hr0 : Kd.C kV w A0 l0.length l0) (hc0 : l0.length ≤ c0) (h : pairs_Without_uint64.f l0 a1 = some r) :
  Calls Try.prog 94 #[.slice A0 l0.length c0, .int .u64 a1] w fun e w' => ∃ lY : Value, e = .returned (lY) ∧ Kd.R kV 192 w' w.heap.size (fun _ => True) lY r ∧ Below w.heap.size w w' := by
 obtain ⟨hm, h2⟩ := lN h
 subst h2
 clear h
 have HC := ah (slices_Clone_pairU.calls A0 c0 l0 l0 (w.alloc (.cells #[.int .u64 a1] 25)) (Kd.bM hr0 (ak (Below.refl _ _) _)) hc0 (by unfold slices_Clone_pairU.f; rw [if_pos hm]))
 have hp : xU 150 #[.pointer (some ⟨w.heap.size, 0, none⟩)] (fun x => x.f1 == a1) (w.alloc (.cells #[.int .u64 a1] 25)) :=
  fun W x hb => Et W x w.heap.size a1 ((hb.cell (p := ⟨w.heap.size, 0, none⟩) (by simp)).trans (by simp))
 have HD := ah (fun w1 v ho hb => CP 150 #[.pointer (some ⟨w.heap.size, 0, none⟩)] (fun x => x.f1 == a1) (w.alloc (.cells #[.int .u64 a1] 25)) w1 v l0 ho hb hp (enters_of Try.func150 (by kernel_rfl) rfl))
 clear hp hm hr0 hc0
 go_enter Try.func94, Try.ntmps94
 go_wp2_with (first | (go_at_call 149; refine HC.out.mono ?_; rintro e w' ⟨v, rfl, ho, hb⟩; have HO := ah ho; have HB := ah hb; clear ho hb HC) | (go_at_call 148; refine (HD.out _ _ HO.out HB.out).mono ?_; rintro e w' ⟨v', rfl, ho, hb⟩; have FZ := ah ho; have HB2 := ah hb; clear ho hb HD))
 go_ret
 refine ⟨_, rfl, Kd.bV FZ.out (by simp), aH (ak (Below.refl _ _) _) (by simp) HB2.out⟩
def AU (l : List Pu) : List Pu := l.filter (fun x => !(x.f1 == 0))
def sZ (l : List Pu) : Prop := Un l ∧ l.length < 4398046511104
structure RowOKU (l : List Pu) : Prop where
 wf : sZ l
 len : l.length ≤ 4096
 cnt : ∀ p ∈ l, jy p.f1 = true
 ups : Dc (fun p : Pu => p.f0) l
theorem RowOKU.nil : RowOKU [] := ⟨⟨fun s hs => by simp at hs, by simp⟩, by simp, fun s hs => by simp at hs, Dc.nil⟩
theorem ML : ∀ (ps v : List Int), ps.Pairwise (· < ·) → Dc (fun p : Pu => p.f0) (List.zipWith (fun p x => (⟨p, x⟩ : Pu)) ps v)
  | [], _, _ => by simp [Dc]
  | p :: ps, [], _ => by simp [Dc]
  | p :: ps, x :: v, h => by
    have h1 := List.pairwise_cons.1 h
    refine List.pairwise_cons.2 ⟨fun y hy => ?_, ML ps v h1.2⟩
    have : y.f0 ∈ ps := by
      obtain ⟨i, hi, rfl⟩ := List.mem_iff_getElem.1 hy
      simp only [List.getElem_zipWith]; exact List.getElem_mem _
    exact h1.1 _ this
theorem IW {l : List Sp} {c : List Int} (hc : QX c) : RowOKU (wR l c).1 := by
 unfold wR
 by_cases c1 : fZ l = 0
 rotate_left
 ·rw [if_neg c1]; exact RowOKU.nil
 rw [if_pos c1]
 by_cases c2 : nT l = c.length
 rotate_left
 ·rw [if_neg c2]; exact RowOKU.nil
 rw [if_pos c2]
 by_cases c3 : c.any (fun v => !jy v) = true
 ·rw [if_pos c3]; exact RowOKU.nil
 rw [if_neg c3]
 have hr := uw c1
 have hf : ∀ p ∈ List.zipWith (fun p x => (⟨p, x⟩ : Pu)) (uP 0 l) c, (-1048576 ≤ p.f0 ∧ p.f0 ≤ 1048576) ∧ p.f1 ∈ c := by
  intro y hy
  obtain ⟨i, hi, rfl⟩ := List.mem_iff_getElem.1 hy
  simp only [List.getElem_zipWith]
  exact ⟨zV hr _ (List.getElem_mem _), List.getElem_mem _⟩
 have hl : (List.zipWith (fun p x => (⟨p, x⟩ : Pu)) (uP 0 l) c).length ≤ 4096 := by have := pW c1; simp; omega
 simp only
 refine ⟨⟨fun p hp => ?_, by omega⟩, hl, fun p hp => ?_, ML _ _ (zX _ _ hr).1⟩
 ·have h1 := hf p hp; have h2 := h1.1; exact ⟨⟨by omega, by omega⟩, hc _ h1.2⟩
 ·have h1 := hf p hp
  cases hq : jy p.f1 with
  | true => rfl
  | false => exact absurd (List.any_eq_true.2 ⟨_, h1.2, by rw [hq]; rfl⟩) c3
theorem IX {h : Fh} (hw : Q7 h) : RowOKU (lT h).1 ∧ RowOKU (lT h).2.1 := by
 obtain ⟨-, -, -, -, -, -, -, h7, h8, -⟩ := hw
 have a := IW (l := h.f5) h7
 have b := IW (l := h.f6) h8
 unfold lT
 repeat' split
 all_goals first | exact ⟨a, b⟩ | exact ⟨RowOKU.nil, RowOKU.nil⟩
theorem GL (l : List Pu) (hl : l.length ≤ 4611686018427) (w : World) (v : Value) (hv : SI kPu w v l) : Calls Try.prog 94 #[v, .int .u64 0] w fun e w' =>
  ∃ v', e = .returned v' ∧ SI kPu w' v' (AU l) ∧ Below w.heap.size w w' := by
 obtain ⟨A, c, rfl, hc, hr⟩ := hv
 refine (pairs_Without_uint64.calls A c l 0 (AU l) w hr hc (if_pos (by omega))).mono ?_
 rintro e w1 ⟨v0, rfl, h0, hb⟩
 exact ⟨v0, rfl, .qR h0, hb⟩
theorem IY {l : List Pu} (h : sZ l) : sZ (AU l) := ⟨fun s hs => h.1 s (List.mem_filter.1 hs).1, Nat.lt_of_le_of_lt (List.length_filter_le _ _) h.2⟩
theorem MN (l : List Pu) (hw : sZ l) (w : World) (v : Value) (hv : SI kPu w v l) : Calls Try.prog 147 #[v] w fun e w' =>
  ∃ v0 v1 : Value, e = .returned (.tuple #[v0, v1, .int .i64 (iK l).2.2]) ∧ FI kSp w.heap.size w' v0 (iK l).1 ∧ FI (Kd.int .u64) w.heap.size w' v1 (iK l).2.1 ∧ Below w.heap.size w w' := by
 obtain ⟨A, c, rfl, hc, hr⟩ := hv
 refine (pairs_Unzip_uint64.calls (3 * l.length + 2) A c l (iK l).1 (iK l).2.1 (iK l).2.2 w hr hc (QV l hw.1 hw.2 _ (by omega))).mono ?_
 rintro e w1 ⟨v0, v1, rfl, h0, h1, hb⟩
 exact ⟨v0, v1, rfl, .qR h0 (Nat.le_refl _), .qR h1 (Nat.le_refl _), hb⟩
theorem oL {l : List Pu} (hw : sZ l) : lK (iK l).1 ∧ QX (iK l).2.1 ∧ (iK l).2.1.length < 4398046511104 := by
 unfold iK
 by_cases h : (jO (l.map (·.f0))).2 = 0
 ·rw [if_pos h]
  obtain ⟨hr, hl, hl2, he⟩ := FN h
  refine ⟨by rw [he]; exact FP hr hl, fun x hx => ?_, by simpa using hw.2⟩
  obtain ⟨p, hp, rfl⟩ := List.mem_map.1 hx
  exact (hw.1 p hp).2
 ·rw [if_neg h]; exact ⟨fun s hs => by simp at hs, fun s hs => by simp at hs, by simp⟩
def IZ (h : Fh) (p n : List Pu) : Fh := ⟨h.f0, h.f1, h.f2, h.f3, h.f4, (iK p).1, (iK n).1, (iK p).2.1, (iK n).2.1⟩
def GN (h : Fh) (p n : List Pu) : Fh × Int := if (iK p).2.2 ≠ 0 then (zo, (iK p).2.2) else if (iK n).2.2 ≠ 0 then (zo, (iK n).2.2) else if rJ (IZ h p n) ≠ 0 then (zo, rJ (IZ h p n)) else (IZ h p n, 0)
theorem Ur {h : Fh} {p n : List Pu} (hw : Q7 h) (hp : sZ p) (hn : sZ n) : Q7 (IZ h p n) := by
 obtain ⟨a0, a1, a2, a3, a4, -⟩ := hw
 exact ⟨a0, a1, a2, a3, a4, (oL hp).1, (oL hn).1, (oL hp).2.1, (oL hn).2.1, (oL hp).2.2, (oL hn).2.2⟩
set_option maxHeartbeats 8000000 in
set_option maxRecDepth 100000 in
theorem V3 (h : Fh) (p n : List Pu) (hw : Q7 (IZ h p n)) (hp : sZ p) (hn : sZ n) (w : World) (v vp vn : Value) (hv : GI w v h) (hvp : SI kPu w vp p) (hvn : SI kPu w vn n) : Calls Try.prog 93 #[v, vp, vn] w fun e w' =>
  ∃ v', e = .returned (.tuple #[v', .int .i64 (GN h p n).2]) ∧ GF w.heap.size w' v' (GN h p n).1 ∧ Below w.heap.size w w' := by
 have hu := Try.underlying55
 obtain ⟨A5, c5, A6, c6, A7, c7, A8, c8, e, -⟩ := hv.open_
 subst e
 have HP := ah hvp
 have HN := ah hvn
 have HW := ah hw
 have Fj := fun w hv => MN p hp w vp hv
 have HC2 := fun w hv => MN n hn w vn hv
 clear hv hvp hvn hw hp hn
 unfold GN IZ at *
 generalize iK p = lp at *
 generalize iK n = ln at *
 obtain ⟨sp, dp, ep⟩ := lp
 obtain ⟨sn, dn, en⟩ := ln
 simp only at HW Fj HC2 ⊢
 replace Fj := ah Fj
 replace HC2 := ah HC2
 by_cases c1 : ep = 0
 rotate_left
 ·rw [if_pos c1]
  have c1a : (ep != 0) = true := bne_iff_ne.2 c1
  clear c1
  go_enter Try.func93, Try.ntmps93
  go_wp2_with (first | (go_at_call 147; (with_reducible refine (Fj.out _ (HP.out.below (ak (ak (Below.refl _ _) _) _))).mono ?_); rintro e w1 ⟨v0, v1, rfl, h0, h1, hb⟩; obtain ⟨B0, d0, rfl⟩ := h0.slice; obtain ⟨B1, d1, rfl⟩ := h1.slice; have QH := ah (show FI kSp (w.heap.size + 1 + 1) w1 (.slice B0 sp.length d0) sp by simpa using h0); have QI := ah (show FI (Kd.int .u64) (w.heap.size + 1 + 1) w1 (.slice B1 dp.length d1) dp by simpa using h1); have HB1 := ah (aH (ak (ak (Below.refl w.heap.size w) (.cells #[.int .i64 h.f0, .int .u64 h.f1, .int .u64 h.f2, .int .u64 h.f3, .int .u64 h.f4, .slice A5 h.f5.length c5, .slice A6 h.f6.length c6, .slice A7 h.f7.length c7, .slice A8 h.f8.length c8] 55)) (.cells #[.int .i64 0, .int .u64 0, .int .u64 0, .int .u64 0, .int .u64 0, .slice none 0 0, .slice none 0 0, .slice none 0 0, .slice none 0 0] 55)) (by simp; omega) hb); have oN := ah (bG (oH (iM w (.cells #[.int .i64 h.f0, .int .u64 h.f1, .int .u64 h.f2, .int .u64 h.f3, .int .u64 h.f4, .slice A5 h.f5.length c5, .slice A6 h.f6.length c6, .slice A7 h.f7.length c7, .slice A8 h.f8.length c8] 55)) (.cells #[.int .i64 0, .int .u64 0, .int .u64 0, .int .u64 0, .int .u64 0, .slice none 0 0, .slice none 0 0, .slice none 0 0, .slice none 0 0] 55)) hb); have qg := ah (show w1.heap[w.heap.size + 1]? = some (.cells #[.int .i64 0, .int .u64 0, .int .u64 0, .int .u64 0, .int .u64 0, .slice none 0 0, .slice none 0 0, .slice none 0 0, .slice none 0 0] 55 (0, 0)) from (bG (show ((w.alloc (.cells #[.int .i64 h.f0, .int .u64 h.f1, .int .u64 h.f2, .int .u64 h.f3, .int .u64 h.f4, .slice A5 h.f5.length c5, .slice A6 h.f6.length c6, .slice A7 h.f7.length c7, .slice A8 h.f8.length c8] 55)).alloc (.cells #[.int .i64 0, .int .u64 0, .int .u64 0, .int .u64 0, .int .u64 0, .slice none 0 0, .slice none 0 0, .slice none 0 0, .slice none 0 0] 55)).heap[w.heap.size + 1]? = _ by simpa using iM (w.alloc (.cells #[.int .i64 h.f0, .int .u64 h.f1, .int .u64 h.f2, .int .u64 h.f3, .int .u64 h.f4, .slice A5 h.f5.length c5, .slice A6 h.f6.length c6, .slice A7 h.f7.length c7, .slice A8 h.f8.length c8] 55)) (.cells #[.int .i64 0, .int .u64 0, .int .u64 0, .int .u64 0, .int .u64 0, .slice none 0 0, .slice none 0 0, .slice none 0 0, .slice none 0 0] 55)) hb)); have hfx := fun i => ay oN.out i; have hzx := fun i => aG oN.out i; have hfy := fun i => ay qg.out i; have hzy := fun i => aG qg.out i; clear h0 h1 hb))
  refine bodyPost_ret (gQ rfl _ _ (w.heap.size + 1) 55 #[.int .i64 0, .int .u64 0, .int .u64 0, .int .u64 0, .int .u64 0, .slice none 0 0, .slice none 0 0, .slice none 0 0, .slice none 0 0] (0, 0) _ rfl (nine (iG (iG qg.out (by show w.heap.size + 1 ≠ w.heap.size; omega) _) (by show w.heap.size + 1 ≠ w.heap.size; omega) _) _ _ _ _ _ _ _ _ _) Try.underlying55 rfl (by kernel_rfl)) rfl ?_
  exact ⟨_, rfl, GF.empty _ _, jd (mJ HB1.out.size HB1.out) (by omega) _ _ _ _ _ _ _ _ _⟩
 subst c1
 rw [if_neg (by simp)]
 by_cases c2 : en = 0
 rotate_left
 ·rw [if_pos c2]
  have c2a : (en != 0) = true := bne_iff_ne.2 c2
  clear c2
  go_enter Try.func93, Try.ntmps93
  go_wp2_with (first | (go_at_call 147; (with_reducible refine (Fj.out _ (HP.out.below (ak (ak (Below.refl _ _) _) _))).mono ?_); rintro e w1 ⟨v0, v1, rfl, h0, h1, hb⟩; obtain ⟨B0, d0, rfl⟩ := h0.slice; obtain ⟨B1, d1, rfl⟩ := h1.slice; have QH := ah (show FI kSp (w.heap.size + 1 + 1) w1 (.slice B0 sp.length d0) sp by simpa using h0); have QI := ah (show FI (Kd.int .u64) (w.heap.size + 1 + 1) w1 (.slice B1 dp.length d1) dp by simpa using h1); have HB1 := ah (aH (ak (ak (Below.refl w.heap.size w) (.cells #[.int .i64 h.f0, .int .u64 h.f1, .int .u64 h.f2, .int .u64 h.f3, .int .u64 h.f4, .slice A5 h.f5.length c5, .slice A6 h.f6.length c6, .slice A7 h.f7.length c7, .slice A8 h.f8.length c8] 55)) (.cells #[.int .i64 0, .int .u64 0, .int .u64 0, .int .u64 0, .int .u64 0, .slice none 0 0, .slice none 0 0, .slice none 0 0, .slice none 0 0] 55)) (by simp; omega) hb); have oN := ah (bG (oH (iM w (.cells #[.int .i64 h.f0, .int .u64 h.f1, .int .u64 h.f2, .int .u64 h.f3, .int .u64 h.f4, .slice A5 h.f5.length c5, .slice A6 h.f6.length c6, .slice A7 h.f7.length c7, .slice A8 h.f8.length c8] 55)) (.cells #[.int .i64 0, .int .u64 0, .int .u64 0, .int .u64 0, .int .u64 0, .slice none 0 0, .slice none 0 0, .slice none 0 0, .slice none 0 0] 55)) hb); have qg := ah (show w1.heap[w.heap.size + 1]? = some (.cells #[.int .i64 0, .int .u64 0, .int .u64 0, .int .u64 0, .int .u64 0, .slice none 0 0, .slice none 0 0, .slice none 0 0, .slice none 0 0] 55 (0, 0)) from (bG (show ((w.alloc (.cells #[.int .i64 h.f0, .int .u64 h.f1, .int .u64 h.f2, .int .u64 h.f3, .int .u64 h.f4, .slice A5 h.f5.length c5, .slice A6 h.f6.length c6, .slice A7 h.f7.length c7, .slice A8 h.f8.length c8] 55)).alloc (.cells #[.int .i64 0, .int .u64 0, .int .u64 0, .int .u64 0, .int .u64 0, .slice none 0 0, .slice none 0 0, .slice none 0 0, .slice none 0 0] 55)).heap[w.heap.size + 1]? = _ by simpa using iM (w.alloc (.cells #[.int .i64 h.f0, .int .u64 h.f1, .int .u64 h.f2, .int .u64 h.f3, .int .u64 h.f4, .slice A5 h.f5.length c5, .slice A6 h.f6.length c6, .slice A7 h.f7.length c7, .slice A8 h.f8.length c8] 55)) (.cells #[.int .i64 0, .int .u64 0, .int .u64 0, .int .u64 0, .int .u64 0, .slice none 0 0, .slice none 0 0, .slice none 0 0, .slice none 0 0] 55)) hb)); have hfx := fun i => ay oN.out i; have hzx := fun i => aG oN.out i; have hfy := fun i => ay qg.out i; have hzy := fun i => aG qg.out i; clear h0 h1 hb) | (go_at_call 147; (with_reducible refine (HC2.out _ (HN.out.below (mJ (HB1.out.size) HB1.out))).mono ?_); rintro e w3 ⟨v2, v3, rfl, h2, h3, hb⟩; obtain ⟨B2, d2, rfl⟩ := h2.slice; obtain ⟨B3, d3, rfl⟩ := h3.slice; have HS2 := ah (show w.heap.size + 1 + 1 ≤ w1.heap.size from by have := kL qg.out; omega); have HF2 := ah (show FI kSp (w.heap.size + 1 + 1) w3 (.slice B2 sn.length d2) sn from FI.lower h2 (by have := HS2.out; simpa [World.setCell] using this)); have HF3 := ah (show FI (Kd.int .u64) (w.heap.size + 1 + 1) w3 (.slice B3 dn.length d3) dn from FI.lower h3 (by have := HS2.out; simpa [World.setCell] using this)); have Hg := ah (show KA (w.heap.size + 1 + 1) w1 w3 from ((KA.set _ (by omega) _).trans (KA.set _ (by omega) _)).trans (KA.below hb)); have HB3 := ah (aH (mJ (HB1.out.size) HB1.out) (by have := HB1.out.size; simpa [World.setCell] using this) hb); have yw := ah (bG (show ((w1.setCell ⟨w.heap.size, 5, none⟩ (.slice B0 sp.length d0)).setCell ⟨w.heap.size, 7, none⟩ (.slice B1 dp.length d1)).heap[w.heap.size]? = some (.cells #[.int .i64 h.f0, .int .u64 h.f1, .int .u64 h.f2, .int .u64 h.f3, .int .u64 h.f4, .slice B0 sp.length d0, .slice A6 h.f6.length c6, .slice B1 dp.length d1, .slice A8 h.f8.length c8] 55 (0, 0)) from bC (bC oN.out 5 _ rfl) 7 _ rfl) hb); have F6 := ah (bG (show ((w1.setCell ⟨w.heap.size, 5, none⟩ (.slice B0 sp.length d0)).setCell ⟨w.heap.size, 7, none⟩ (.slice B1 dp.length d1)).heap[w.heap.size + 1]? = some (.cells #[.int .i64 0, .int .u64 0, .int .u64 0, .int .u64 0, .int .u64 0, .slice none 0 0, .slice none 0 0, .slice none 0 0, .slice none 0 0] 55 (0, 0)) from iG (iG qg.out (by show w.heap.size + 1 ≠ w.heap.size; omega) _) (by show w.heap.size + 1 ≠ w.heap.size; omega) _) hb); clear hfx hzx hfy hzy; have hfx := fun i => ay yw.out i; have hzx := fun i => aG yw.out i; have hfy := fun i => ay F6.out i; have hzy := fun i => aG F6.out i; clear h2 h3 hb))
  refine bodyPost_ret (gQ rfl _ _ (w.heap.size + 1) 55 #[.int .i64 0, .int .u64 0, .int .u64 0, .int .u64 0, .int .u64 0, .slice none 0 0, .slice none 0 0, .slice none 0 0, .slice none 0 0] (0, 0) _ rfl (nine (iG (iG F6.out (by show w.heap.size + 1 ≠ w.heap.size; omega) _) (by show w.heap.size + 1 ≠ w.heap.size; omega) _) _ _ _ _ _ _ _ _ _) Try.underlying55 rfl (by kernel_rfl)) rfl ?_
  exact ⟨_, rfl, GF.empty _ _, jd (mJ HB3.out.size HB3.out) (by omega) _ _ _ _ _ _ _ _ _⟩
 subst c2
 rw [if_neg (by simp)]
 have hck : ∀ w v5 v6 v7 v8, SI kSp w v5 sp → SI kSp w v6 sn → SI (Kd.int .u64) w v7 dp → SI (Kd.int .u64) w v8 dn → Calls Try.prog 37 #[.agg #[.int .i64 h.f0, .int .u64 h.f1, .int .u64 h.f2, .int .u64 h.f3, .int .u64 h.f4, v5, v6, v7, v8]] w fun e w' => e = .returned (.int .i64 (rJ ⟨h.f0, h.f1, h.f2, h.f3, h.f4, sp, sn, dp, dn⟩)) ∧ Below w.heap.size w w' :=
  fun w v5 v6 v7 v8 h5 h6 h7 h8 => Uo _ HW.out w _ (GI.mk (h := ⟨h.f0, h.f1, h.f2, h.f3, h.f4, sp, sn, dp, dn⟩) h5 h6 h7 h8)
 generalize rJ ⟨h.f0, h.f1, h.f2, h.f3, h.f4, sp, sn, dp, dn⟩ = ec at hck ⊢
 have HCK := ah hck
 clear hck
 by_cases c3 : ec = 0
 rotate_left
 ·rw [if_pos c3]
  have c3a : (ec != 0) = true := bne_iff_ne.2 c3
  clear c3
  go_enter Try.func93, Try.ntmps93
  go_wp2_with (first | (go_at_call 147; (with_reducible refine (Fj.out _ (HP.out.below (ak (ak (Below.refl _ _) _) _))).mono ?_); rintro e w1 ⟨v0, v1, rfl, h0, h1, hb⟩; obtain ⟨B0, d0, rfl⟩ := h0.slice; obtain ⟨B1, d1, rfl⟩ := h1.slice; have QH := ah (show FI kSp (w.heap.size + 1 + 1) w1 (.slice B0 sp.length d0) sp by simpa using h0); have QI := ah (show FI (Kd.int .u64) (w.heap.size + 1 + 1) w1 (.slice B1 dp.length d1) dp by simpa using h1); have HB1 := ah (aH (ak (ak (Below.refl w.heap.size w) (.cells #[.int .i64 h.f0, .int .u64 h.f1, .int .u64 h.f2, .int .u64 h.f3, .int .u64 h.f4, .slice A5 h.f5.length c5, .slice A6 h.f6.length c6, .slice A7 h.f7.length c7, .slice A8 h.f8.length c8] 55)) (.cells #[.int .i64 0, .int .u64 0, .int .u64 0, .int .u64 0, .int .u64 0, .slice none 0 0, .slice none 0 0, .slice none 0 0, .slice none 0 0] 55)) (by simp; omega) hb); have oN := ah (bG (oH (iM w (.cells #[.int .i64 h.f0, .int .u64 h.f1, .int .u64 h.f2, .int .u64 h.f3, .int .u64 h.f4, .slice A5 h.f5.length c5, .slice A6 h.f6.length c6, .slice A7 h.f7.length c7, .slice A8 h.f8.length c8] 55)) (.cells #[.int .i64 0, .int .u64 0, .int .u64 0, .int .u64 0, .int .u64 0, .slice none 0 0, .slice none 0 0, .slice none 0 0, .slice none 0 0] 55)) hb); have qg := ah (show w1.heap[w.heap.size + 1]? = some (.cells #[.int .i64 0, .int .u64 0, .int .u64 0, .int .u64 0, .int .u64 0, .slice none 0 0, .slice none 0 0, .slice none 0 0, .slice none 0 0] 55 (0, 0)) from (bG (show ((w.alloc (.cells #[.int .i64 h.f0, .int .u64 h.f1, .int .u64 h.f2, .int .u64 h.f3, .int .u64 h.f4, .slice A5 h.f5.length c5, .slice A6 h.f6.length c6, .slice A7 h.f7.length c7, .slice A8 h.f8.length c8] 55)).alloc (.cells #[.int .i64 0, .int .u64 0, .int .u64 0, .int .u64 0, .int .u64 0, .slice none 0 0, .slice none 0 0, .slice none 0 0, .slice none 0 0] 55)).heap[w.heap.size + 1]? = _ by simpa using iM (w.alloc (.cells #[.int .i64 h.f0, .int .u64 h.f1, .int .u64 h.f2, .int .u64 h.f3, .int .u64 h.f4, .slice A5 h.f5.length c5, .slice A6 h.f6.length c6, .slice A7 h.f7.length c7, .slice A8 h.f8.length c8] 55)) (.cells #[.int .i64 0, .int .u64 0, .int .u64 0, .int .u64 0, .int .u64 0, .slice none 0 0, .slice none 0 0, .slice none 0 0, .slice none 0 0] 55)) hb)); have hfx := fun i => ay oN.out i; have hzx := fun i => aG oN.out i; have hfy := fun i => ay qg.out i; have hzy := fun i => aG qg.out i; clear h0 h1 hb) | (go_at_call 147; (with_reducible refine (HC2.out _ (HN.out.below (mJ (HB1.out.size) HB1.out))).mono ?_); rintro e w3 ⟨v2, v3, rfl, h2, h3, hb⟩; obtain ⟨B2, d2, rfl⟩ := h2.slice; obtain ⟨B3, d3, rfl⟩ := h3.slice; have HS2 := ah (show w.heap.size + 1 + 1 ≤ w1.heap.size from by have := kL qg.out; omega); have HF2 := ah (show FI kSp (w.heap.size + 1 + 1) w3 (.slice B2 sn.length d2) sn from FI.lower h2 (by have := HS2.out; simpa [World.setCell] using this)); have HF3 := ah (show FI (Kd.int .u64) (w.heap.size + 1 + 1) w3 (.slice B3 dn.length d3) dn from FI.lower h3 (by have := HS2.out; simpa [World.setCell] using this)); have Hg := ah (show KA (w.heap.size + 1 + 1) w1 w3 from ((KA.set _ (by omega) _).trans (KA.set _ (by omega) _)).trans (KA.below hb)); have HB3 := ah (aH (mJ (HB1.out.size) HB1.out) (by have := HB1.out.size; simpa [World.setCell] using this) hb); have yw := ah (bG (show ((w1.setCell ⟨w.heap.size, 5, none⟩ (.slice B0 sp.length d0)).setCell ⟨w.heap.size, 7, none⟩ (.slice B1 dp.length d1)).heap[w.heap.size]? = some (.cells #[.int .i64 h.f0, .int .u64 h.f1, .int .u64 h.f2, .int .u64 h.f3, .int .u64 h.f4, .slice B0 sp.length d0, .slice A6 h.f6.length c6, .slice B1 dp.length d1, .slice A8 h.f8.length c8] 55 (0, 0)) from bC (bC oN.out 5 _ rfl) 7 _ rfl) hb); have F6 := ah (bG (show ((w1.setCell ⟨w.heap.size, 5, none⟩ (.slice B0 sp.length d0)).setCell ⟨w.heap.size, 7, none⟩ (.slice B1 dp.length d1)).heap[w.heap.size + 1]? = some (.cells #[.int .i64 0, .int .u64 0, .int .u64 0, .int .u64 0, .int .u64 0, .slice none 0 0, .slice none 0 0, .slice none 0 0, .slice none 0 0] 55 (0, 0)) from iG (iG qg.out (by show w.heap.size + 1 ≠ w.heap.size; omega) _) (by show w.heap.size + 1 ≠ w.heap.size; omega) _) hb); clear hfx hzx hfy hzy; have hfx := fun i => ay yw.out i; have hzx := fun i => aG yw.out i; have hfy := fun i => ay F6.out i; have hzy := fun i => aG F6.out i; clear h2 h3 hb) | (go_at_call 37; (with_reducible refine (HCK.out _ _ _ _ _ (QH.out.at_ (Hg.out.trans ((KA.set _ (by omega) _).trans (KA.set _ (by omega) _)))) (HF2.out.at_ ((KA.set _ (by omega) _).trans (KA.set _ (by omega) _))) (QI.out.at_ (Hg.out.trans ((KA.set _ (by omega) _).trans (KA.set _ (by omega) _)))) (HF3.out.at_ ((KA.set _ (by omega) _).trans (KA.set _ (by omega) _)))).mono ?_); rintro e w5 ⟨rfl, hb⟩; have TT := ah (show KA (w.heap.size + 1 + 1) w3 w5 from ((KA.set _ (by omega) _).trans (KA.set _ (by omega) _)).trans (KA.below hb)); have LW := ah (aH (mJ (HB3.out.size) HB3.out) (by have := HB3.out.size; simpa [World.setCell] using this) hb); have NW := ah (bG (show ((w3.setCell ⟨w.heap.size, 6, none⟩ (.slice B2 sn.length d2)).setCell ⟨w.heap.size, 8, none⟩ (.slice B3 dn.length d3)).heap[w.heap.size]? = some (.cells #[.int .i64 h.f0, .int .u64 h.f1, .int .u64 h.f2, .int .u64 h.f3, .int .u64 h.f4, .slice B0 sp.length d0, .slice B2 sn.length d2, .slice B1 dp.length d1, .slice B3 dn.length d3] 55 (0, 0)) from bC (bC yw.out 6 _ rfl) 8 _ rfl) hb); have F7 := ah (bG (show ((w3.setCell ⟨w.heap.size, 6, none⟩ (.slice B2 sn.length d2)).setCell ⟨w.heap.size, 8, none⟩ (.slice B3 dn.length d3)).heap[w.heap.size + 1]? = some (.cells #[.int .i64 0, .int .u64 0, .int .u64 0, .int .u64 0, .int .u64 0, .slice none 0 0, .slice none 0 0, .slice none 0 0, .slice none 0 0] 55 (0, 0)) from iG (iG F6.out (by show w.heap.size + 1 ≠ w.heap.size; omega) _) (by show w.heap.size + 1 ≠ w.heap.size; omega) _) hb); clear hfx hzx hfy hzy; have hfx := fun i => ay NW.out i; have hzx := fun i => aG NW.out i; have hfy := fun i => ay F7.out i; have hzy := fun i => aG F7.out i; clear hb))
  refine bodyPost_ret (gQ rfl _ _ (w.heap.size + 1) 55 #[.int .i64 0, .int .u64 0, .int .u64 0, .int .u64 0, .int .u64 0, .slice none 0 0, .slice none 0 0, .slice none 0 0, .slice none 0 0] (0, 0) _ rfl (nine (F7.out) _ _ _ _ _ _ _ _ _) Try.underlying55 rfl (by kernel_rfl)) rfl ?_
  exact ⟨_, rfl, GF.empty _ _, jd LW.out (by omega) _ _ _ _ _ _ _ _ _⟩
 subst c3
 rw [if_neg (by simp)]
 go_enter Try.func93, Try.ntmps93
 go_wp2_with (first | (go_at_call 147; (with_reducible refine (Fj.out _ (HP.out.below (ak (ak (Below.refl _ _) _) _))).mono ?_); rintro e w1 ⟨v0, v1, rfl, h0, h1, hb⟩; obtain ⟨B0, d0, rfl⟩ := h0.slice; obtain ⟨B1, d1, rfl⟩ := h1.slice; have QH := ah (show FI kSp (w.heap.size + 1 + 1) w1 (.slice B0 sp.length d0) sp by simpa using h0); have QI := ah (show FI (Kd.int .u64) (w.heap.size + 1 + 1) w1 (.slice B1 dp.length d1) dp by simpa using h1); have HB1 := ah (aH (ak (ak (Below.refl w.heap.size w) (.cells #[.int .i64 h.f0, .int .u64 h.f1, .int .u64 h.f2, .int .u64 h.f3, .int .u64 h.f4, .slice A5 h.f5.length c5, .slice A6 h.f6.length c6, .slice A7 h.f7.length c7, .slice A8 h.f8.length c8] 55)) (.cells #[.int .i64 0, .int .u64 0, .int .u64 0, .int .u64 0, .int .u64 0, .slice none 0 0, .slice none 0 0, .slice none 0 0, .slice none 0 0] 55)) (by simp; omega) hb); have oN := ah (bG (oH (iM w (.cells #[.int .i64 h.f0, .int .u64 h.f1, .int .u64 h.f2, .int .u64 h.f3, .int .u64 h.f4, .slice A5 h.f5.length c5, .slice A6 h.f6.length c6, .slice A7 h.f7.length c7, .slice A8 h.f8.length c8] 55)) (.cells #[.int .i64 0, .int .u64 0, .int .u64 0, .int .u64 0, .int .u64 0, .slice none 0 0, .slice none 0 0, .slice none 0 0, .slice none 0 0] 55)) hb); have qg := ah (show w1.heap[w.heap.size + 1]? = some (.cells #[.int .i64 0, .int .u64 0, .int .u64 0, .int .u64 0, .int .u64 0, .slice none 0 0, .slice none 0 0, .slice none 0 0, .slice none 0 0] 55 (0, 0)) from (bG (show ((w.alloc (.cells #[.int .i64 h.f0, .int .u64 h.f1, .int .u64 h.f2, .int .u64 h.f3, .int .u64 h.f4, .slice A5 h.f5.length c5, .slice A6 h.f6.length c6, .slice A7 h.f7.length c7, .slice A8 h.f8.length c8] 55)).alloc (.cells #[.int .i64 0, .int .u64 0, .int .u64 0, .int .u64 0, .int .u64 0, .slice none 0 0, .slice none 0 0, .slice none 0 0, .slice none 0 0] 55)).heap[w.heap.size + 1]? = _ by simpa using iM (w.alloc (.cells #[.int .i64 h.f0, .int .u64 h.f1, .int .u64 h.f2, .int .u64 h.f3, .int .u64 h.f4, .slice A5 h.f5.length c5, .slice A6 h.f6.length c6, .slice A7 h.f7.length c7, .slice A8 h.f8.length c8] 55)) (.cells #[.int .i64 0, .int .u64 0, .int .u64 0, .int .u64 0, .int .u64 0, .slice none 0 0, .slice none 0 0, .slice none 0 0, .slice none 0 0] 55)) hb)); have hfx := fun i => ay oN.out i; have hzx := fun i => aG oN.out i; have hfy := fun i => ay qg.out i; have hzy := fun i => aG qg.out i; clear h0 h1 hb) | (go_at_call 147; (with_reducible refine (HC2.out _ (HN.out.below (mJ (HB1.out.size) HB1.out))).mono ?_); rintro e w3 ⟨v2, v3, rfl, h2, h3, hb⟩; obtain ⟨B2, d2, rfl⟩ := h2.slice; obtain ⟨B3, d3, rfl⟩ := h3.slice; have HS2 := ah (show w.heap.size + 1 + 1 ≤ w1.heap.size from by have := kL qg.out; omega); have HF2 := ah (show FI kSp (w.heap.size + 1 + 1) w3 (.slice B2 sn.length d2) sn from FI.lower h2 (by have := HS2.out; simpa [World.setCell] using this)); have HF3 := ah (show FI (Kd.int .u64) (w.heap.size + 1 + 1) w3 (.slice B3 dn.length d3) dn from FI.lower h3 (by have := HS2.out; simpa [World.setCell] using this)); have Hg := ah (show KA (w.heap.size + 1 + 1) w1 w3 from ((KA.set _ (by omega) _).trans (KA.set _ (by omega) _)).trans (KA.below hb)); have HB3 := ah (aH (mJ (HB1.out.size) HB1.out) (by have := HB1.out.size; simpa [World.setCell] using this) hb); have yw := ah (bG (show ((w1.setCell ⟨w.heap.size, 5, none⟩ (.slice B0 sp.length d0)).setCell ⟨w.heap.size, 7, none⟩ (.slice B1 dp.length d1)).heap[w.heap.size]? = some (.cells #[.int .i64 h.f0, .int .u64 h.f1, .int .u64 h.f2, .int .u64 h.f3, .int .u64 h.f4, .slice B0 sp.length d0, .slice A6 h.f6.length c6, .slice B1 dp.length d1, .slice A8 h.f8.length c8] 55 (0, 0)) from bC (bC oN.out 5 _ rfl) 7 _ rfl) hb); have F6 := ah (bG (show ((w1.setCell ⟨w.heap.size, 5, none⟩ (.slice B0 sp.length d0)).setCell ⟨w.heap.size, 7, none⟩ (.slice B1 dp.length d1)).heap[w.heap.size + 1]? = some (.cells #[.int .i64 0, .int .u64 0, .int .u64 0, .int .u64 0, .int .u64 0, .slice none 0 0, .slice none 0 0, .slice none 0 0, .slice none 0 0] 55 (0, 0)) from iG (iG qg.out (by show w.heap.size + 1 ≠ w.heap.size; omega) _) (by show w.heap.size + 1 ≠ w.heap.size; omega) _) hb); clear hfx hzx hfy hzy; have hfx := fun i => ay yw.out i; have hzx := fun i => aG yw.out i; have hfy := fun i => ay F6.out i; have hzy := fun i => aG F6.out i; clear h2 h3 hb) | (go_at_call 37; (with_reducible refine (HCK.out _ _ _ _ _ (QH.out.at_ (Hg.out.trans ((KA.set _ (by omega) _).trans (KA.set _ (by omega) _)))) (HF2.out.at_ ((KA.set _ (by omega) _).trans (KA.set _ (by omega) _))) (QI.out.at_ (Hg.out.trans ((KA.set _ (by omega) _).trans (KA.set _ (by omega) _)))) (HF3.out.at_ ((KA.set _ (by omega) _).trans (KA.set _ (by omega) _)))).mono ?_); rintro e w5 ⟨rfl, hb⟩; have TT := ah (show KA (w.heap.size + 1 + 1) w3 w5 from ((KA.set _ (by omega) _).trans (KA.set _ (by omega) _)).trans (KA.below hb)); have LW := ah (aH (mJ (HB3.out.size) HB3.out) (by have := HB3.out.size; simpa [World.setCell] using this) hb); have NW := ah (bG (show ((w3.setCell ⟨w.heap.size, 6, none⟩ (.slice B2 sn.length d2)).setCell ⟨w.heap.size, 8, none⟩ (.slice B3 dn.length d3)).heap[w.heap.size]? = some (.cells #[.int .i64 h.f0, .int .u64 h.f1, .int .u64 h.f2, .int .u64 h.f3, .int .u64 h.f4, .slice B0 sp.length d0, .slice B2 sn.length d2, .slice B1 dp.length d1, .slice B3 dn.length d3] 55 (0, 0)) from bC (bC yw.out 6 _ rfl) 8 _ rfl) hb); have F7 := ah (bG (show ((w3.setCell ⟨w.heap.size, 6, none⟩ (.slice B2 sn.length d2)).setCell ⟨w.heap.size, 8, none⟩ (.slice B3 dn.length d3)).heap[w.heap.size + 1]? = some (.cells #[.int .i64 0, .int .u64 0, .int .u64 0, .int .u64 0, .int .u64 0, .slice none 0 0, .slice none 0 0, .slice none 0 0, .slice none 0 0] 55 (0, 0)) from iG (iG F6.out (by show w.heap.size + 1 ≠ w.heap.size; omega) _) (by show w.heap.size + 1 ≠ w.heap.size; omega) _) hb); clear hfx hzx hfy hzy; have hfx := fun i => ay NW.out i; have hzx := fun i => aG NW.out i; have hfy := fun i => ay F7.out i; have hzy := fun i => aG F7.out i; clear hb))
 refine bodyPost_ret (gQ rfl _ _ (w.heap.size + 1) 55 #[.int .i64 h.f0, .int .u64 h.f1, .int .u64 h.f2, .int .u64 h.f3, .int .u64 h.f4, .slice B0 sp.length d0, .slice B2 sn.length d2, .slice B1 dp.length d1, .slice B3 dn.length d3] (0, 0) _ rfl (nine (F7.out) _ _ _ _ _ _ _ _ _) Try.underlying55 rfl (by kernel_rfl)) rfl ?_
 exact ⟨_, rfl, GF.mk (h := ⟨h.f0, h.f1, h.f2, h.f3, h.f4, sp, sn, dp, dn⟩) ((QH.out.step (Hg.out.trans (rV TT.out (by omega) _ _ _ _ _ _ _ _ _))).lower (by omega)) ((HF2.out.step (rV TT.out (by omega) _ _ _ _ _ _ _ _ _)).lower (by omega)) ((QI.out.step (Hg.out.trans (rV TT.out (by omega) _ _ _ _ _ _ _ _ _))).lower (by omega)) ((HF3.out.step (rV TT.out (by omega) _ _ _ _ _ _ _ _ _)).lower (by omega)), jd LW.out (by omega) _ _ _ _ _ _ _ _ _⟩
theorem V4 (h : Fh) (hw : Q7 h) (p n : List Pu) (hp : sZ p) (hn : sZ n) (w : World) (v vp vn : Value) (hv : GI w v h) (hvp : SI kPu w vp p) (hvn : SI kPu w vn n) : Calls Try.prog 93 #[v, vp, vn] w fun e w' =>
 ∃ v', e = .returned (.tuple #[v', .int .i64 (GN h p n).2]) ∧ GF w.heap.size w' v' (GN h p n).1 ∧ Below w.heap.size w w' := V3 h p n (Ur hw hp hn) hp hn w v vp vn hv hvp hvn
attribute [local go_sem] jh ji jR jS iI iJ jk jl
def fhist_Right.f (a0 : Int) : Option (Bool) := (hist_Threshold.f a0).bind fun dV => (some dV)
set_option maxHeartbeats 8000000 in
set_option maxRecDepth 100000 in
theorem fhist_Right.calls (a0 : Int) (r : Bool) (w : World) (h : fhist_Right.f a0 = some r) :
  Calls Try.prog 146 #[.int .u64 a0] w fun e w' => e = .returned (.bool r) ∧ bW w w' := by
 have H : ((hist_Threshold.f a0).bind fun dV => (some dV)) = some r := h
 clear h
 replace H := Option.bind_eq_some_iff.mp H
 obtain ⟨dV, sV, H⟩ := H
 replace H : (some dV) = some r := H
 have A2 := ah sV
 clear sV
 obtain rfl := Option.some.inj H
 go_enter Try.func146, Try.ntmps146
 go_wp2_with (first | ((with_reducible refine bH (f := 131) rfl ?_); refine eH (some 4) Try.func131 #[.int .u64 a0] ?_; (with_reducible refine (hist_Threshold.calls a0 dV _ A2.out).mono ?_); rintro e w' ⟨rfl, ⟨nd, rfl⟩⟩; refine ⟨_, rfl, ?_⟩; clear A2))
 go_ret
 exact ⟨by first | rfl | (simp; done) | (simp [*]; done), by repeat (first | exact bW.refl _ | apply bW.step)⟩
end Go.Proofs.Ytooiccpmngmapaa.P
namespace Go.Proofs.Ytooiccpmngmapaa.P
open Go.RowKit Go.Proofs.YtooiccpmngmapaaW.PrintWords Go.Proofs.YtooiccpmngmapaaW.PrintLast Go.Proofs.YtooiccpmngmapaaW.PrintMore
theorem I4 (v : Int) (w : World) : (callFunc 106 #[.int .u64 v]).run Try.prog w = .ok (.value (.float .f64 v.toNat)) w := by
 rw [run_callFunc_extern Try.func106 (by kernel_rfl) (by kernel_rfl) (by kernel_rfl) (e := Extern.MathFloatBits.float64frombits) (by kernel_rfl)]
 rfl
theorem I5 (v : Nat) (w : World) : (callFunc 145 #[.float .f64 v]).run Try.prog w = .ok (.value (.int .u64 v)) w := by
 rw [run_callFunc_extern Try.func145 (by kernel_rfl) (by kernel_rfl) (by kernel_rfl) (e := Extern.MathFloatBits.float64bits) (by kernel_rfl)]
 rfl
def Ov (a b : Int) : Option Nat := FloatKind.f64.format.add a.toNat b.toNat
theorem Us (a b : Int) (s : Nat) (h : Ov a b = some s) (t : TypeId) (w : World) : (binOp .add t (.float .f64 a.toNat) (.float .f64 b.toNat)).run Try.prog w = .ok (.float .f64 s) w := by
 unfold Ov at h
 simp only [binOp, Op.floatArith, h]
 rfl
theorem V5 (n : Int) (w : World) : (convert 25 150 (.int .u64 n)).run Try.prog w = .ok (.float .f64 (FloatKind.f64.nearest n)) w := by
 kernel_rfl
def fhist_Float.f (v : Int) : Option Int := some (FloatKind.f64.nearest v : Nat)
theorem fhist_Float.calls (a0 : Int) (r : Int) (w : World) (h : fhist_Float.f a0 = some r) : Calls Try.prog 137 #[.int .u64 a0] w fun e w' => e = .returned (.int .u64 r) ∧ bW w w' := by
 unfold fhist_Float.f at h
 have hc := V5 a0
 generalize FloatKind.f64.nearest a0 = n at *
 cases h
 have hb := I5 n
 go_enter Try.func137, Try.ntmps137
 go_wp2
 go_ret
 exact ⟨rfl, bW.refl _⟩
def J9 (v : Int) : Bool := decide (v < 9218868437227405312)
theorem Ie (v : Int) : fhist_Right.f v = some (J9 v) := rfl
def scale_float.f (a b : Int) : Option (Int × Bool) := (Ov a b).bind fun s => some ((s : Int), J9 s)
theorem scale_float.calls (a0 a1 : Int) (r1 : Int) (r2 : Bool) (w : World) (h : scale_float.f a0 a1 = some (r1, r2)) : Calls Try.prog 92 #[.int .u64 a0, .int .u64 a1] w fun e w' => e = .returned (.tuple #[.int .u64 r1, .bool r2]) ∧ bW w w' := by
  unfold scale_float.f at h
  cases hs : Ov a0 a1 with
  | none => rw [hs] at h; cases h
  | some s =>
    rw [hs] at h
    cases h
    have h0 := I4 a0
    have h1 := I4 a1
    have hb := I5 s
    have ha := Us a0 a1 s hs 150
    have HR := ah (fun w => fhist_Right.calls (s : Int) _ w (Ie (s : Int)))
    generalize a0.toNat = n0 at *
    generalize a1.toNat = n1 at *
    generalize J9 (s : Int) = rr at *
    go_enter Try.func92, Try.ntmps92
    go_wp2_with (go_at_call 146; (with_reducible refine (HR.out _).mono ?_); rintro e w1 ⟨rfl, hd⟩)
    go_ret2
    exact ⟨rfl, hd⟩
attribute [local go_sem] jh ji jR jS iI iJ jk jl
mutual
def scale_widen_uint64.l0 : Nat → Int → List (gW) → List (gW) → Int → Int → Option ((List (gW)) × Bool)
 | 0, _, _, _, _, _ => none
 | k + 1, x1, x8, x15, x16, x17 => if x17 < x16 then (if 0 ≤ x17 then (if x17 < (x15.length : Int) then ((scale_Place.f k ((bg x15 x17).f0) x1).bind fun eG => (if (x8.length : Int) > 0 then (if 0 ≤ (wrap64 ((x8.length : Int) - 1)) then (if (wrap64 ((x8.length : Int) - 1)) < (x8.length : Int) then (scale_widen_uint64.j1 k x1 x8 eG (x8.length : Int) x15 x16 x17 (((bg x8 (wrap64 ((x8.length : Int) - 1))).f0) == eG) ((bg x15 x17).f0) ((bg x15 x17).f1)) else (none)) else (none)) else (scale_widen_uint64.j1 k x1 x8 eG (x8.length : Int) x15 x16 x17 false ((bg x15 x17).f0) ((bg x15 x17).f1)))) else (none)) else (none)) else (some (x8, true))
def scale_widen_uint64.j1 : Nat → Int → List (gW) → Int → Int → List (gW) → Int → Int → Bool → Int → Int → Option ((List (gW)) × Bool)
 | 0, _, _, _, _, _, _, _, _, _, _ => none
 | k + 1, x1, x8, x11, x12, x15, x16, x17, x38, lZ, lI => if x38 = true then (if 0 ≤ (wrap64 (x12 - 1)) then (if (wrap64 (x12 - 1)) < (x8.length : Int) then ((scale_float.f ((bg x8 (wrap64 (x12 - 1))).f1) lI).bind fun oq => (if oq.2 = true then (scale_widen_uint64.l0 k x1 (x8.set ((wrap64 (x12 - 1)) : Int).toNat (⟨(bg x8 (wrap64 (x12 - 1))).f0, oq.1⟩ : gW)) x15 x16 (wrap64 (x17 + 1))) else (some (([] : List (gW)), false)))) else (none)) else (none)) else (if x8.length < 8796093022208 then (scale_widen_uint64.l0 k x1 (x8 ++ [(⟨x11, lI⟩ : gW)]) x15 x16 (wrap64 (x17 + 1))) else (none))
end
def scale_widen_uint64.f (k : Nat) (l0 : List (gW)) (a1 : Int) : Option ((List (gW)) × Bool) := scale_widen_uint64.l0 k a1 ([] : List (gW)) l0 (l0.length : Int) 0
set_option maxHeartbeats 8000000 in
set_option maxRecDepth 100000 in
theorem scale_widen_uint64.calls (k : Nat) (A0 : Option Addr) (c0 : Nat) (l0 : List (gW)) (a1 : Int) (r1 : List (gW)) (r2 : Bool) (w : World) (hr0 : Kd.C kV w A0 l0.length l0) (hc0 : l0.length ≤ c0) (h : scale_widen_uint64.f k l0 a1 = some (r1, r2)) :
  Calls Try.prog 91 #[.slice A0 l0.length c0, .int .i64 a1, .func (.func 92) #[] #[]] w fun e w' => ∃ lY : Value, e = .returned (.tuple #[lY, .bool r2]) ∧ Kd.R kV 192 w' w.heap.size (fun _ => True) lY r1 ∧ Below w.heap.size w w' := by
 have Xk := Try.underlying192
 have HR0 := ah hr0
 have tK := ah hc0
 clear hr0 hc0
 have HB := ah (Below.refl w.heap.size w)
 have H : (scale_widen_uint64.l0 k a1 ([] : List (gW)) l0 (l0.length : Int) 0) = some (r1, r2) := h
 clear h
 have H' := ah H
 clear H
 go_enter Try.func91, Try.ntmps91
 go_wp2
 repeat (go_quiet (fail); try go_wp2)
 go_loopg [8, 17] k (fun kq v8 v17 w' => ∃ (bK : List (gW)) (bU : Int), v17 = .int .i64 bU ∧ aj (scale_widen_uint64.l0 kq a1 bK l0 (l0.length : Int) bU = some (r1, r2)) ∧ aj (kq ≤ k) ∧ aj (Kd.R kV 192 w' w.heap.size (fun _ => True) v8 bK) ∧ aj (Below w.heap.size w w'))
 case atStart => exact ⟨(([] : List (gW))), (0), (by first | rfl | (simp; done) | (simp [*]; done)), H', ⟨Nat.le_refl _⟩, ⟨by first | exact Kd.dY _ _ _ _ _ | exact Kd.gI _ _ _ _ _ | exact Kd.gJ _ _ _ _ _ | exact Kd.gB _ _ _ _ _ | exact Kd.gG _ _ _ _ _⟩, ⟨by repeat (first | (with_reducible first | exact HB.out | apply ak | apply au | apply aC) | exact HB.out)⟩⟩
 case round =>
  clear H'
  try clear p2
  obtain ⟨bK, bU, rfl, HA, jf, HO_8, HB⟩ := hrel
  cases gk with
  | zero => exact absurd HA.out (by simp [scale_widen_uint64.l0])
  | succ k1 =>
   have H := HA.out
   clear HA
   simp only [scale_widen_uint64.l0] at H
   by_cases c4 : bU < (l0.length : Int)
   ·rw [if_pos c4] at H
    have c4b0 : decide (bU < (l0.length : Int)) = true := aiJ c4
    clear c4
    by_cases c5 : 0 ≤ bU
    ·rw [if_pos c5] at H
     have c5b0 : decide (0 ≤ bU) = true := aiJ c5
     clear c5
     by_cases c6 : bU < (l0.length : Int)
     ·rw [if_pos c6] at H
      have c6b0 : decide (bU < (l0.length : Int)) = true := aiJ c6
      clear c6
      replace H := Option.bind_eq_some_iff.mp H
      obtain ⟨eG, PO, H⟩ := H
      replace H : (if (bK.length : Int) > 0 then (if 0 ≤ (wrap64 ((bK.length : Int) - 1)) then (if (wrap64 ((bK.length : Int) - 1)) < (bK.length : Int) then (scale_widen_uint64.j1 k1 a1 bK eG (bK.length : Int) l0 (l0.length : Int) bU (((bg bK (wrap64 ((bK.length : Int) - 1))).f0) == eG) ((bg l0 bU).f0) ((bg l0 bU).f1)) else (none)) else (none)) else (scale_widen_uint64.j1 k1 a1 bK eG (bK.length : Int) l0 (l0.length : Int) bU false ((bg l0 bU).f0) ((bg l0 bU).f1))) = some (r1, r2) := H
      have A7 := ah PO
      clear PO
      have TW := ah H
      clear H
      have eX : 0 ≤ (bU : Int) := aiI (by assumption)
      have eY : bU < (l0.length : Int) := aiI (by assumption)
      obtain ⟨jU, jK, bP, dS⟩ := wZ HR0.out bU eX eY
      cases jK
      replace bP := (HB.out.cell (World.block_lt_of_cell? w _ bP)).trans bP
      replace dS := (HB.out.cell (World.block_lt_of_cell? w _ dS)).trans dS
      replace eX := eq_true eX
      replace eY := eq_true eY
      go_upto_region 7 with (first | ((with_reducible refine fJ (N := 10) rfl ?_); refine eU ?hg (N := 10) ?hd (cs := #[.int .i64 0, .int .u64 0]) (t := 192) ?hr ?_; (case hd => rfl); (case hg => rfl); (case hr => first | (go_simp; done) | (go_simp; rfl)); intro aJ hg w9 hbox hb; have aN := ah (hbox); have oM := ah ((by rw [hg]; exact (aI (aX HB.out)) : w.heap.size ≤ aJ)); have bT := ah ((by rw [hg]; exact (aI (aX HB.out)) : w.heap.size ≤ aJ)); replace HO_8 := ah (Kd.fC (Kd.wB (Kd.fB HO_8.out) aJ (Nat.le_of_eq hg.symm)) hb); replace HB := ah (aW (aX HB.out) hb); clear hb hbox hg; have vH := ay aN.out; have vI := aG aN.out) | (go_at_call 77; (with_reducible refine (scale_Place.calls k1 ((bg l0 bU).f0) a1 eG _ A7.out).mono ?_); rintro e w' ⟨rfl, ⟨nd, rfl⟩⟩; (try first | exact ⟨rfl, _, World.drewN_drewN _ _ _⟩ | exact ⟨rfl, _, Eq.trans (World.drewN_drewN _ _ _) (congrArg (World.drewN _) (Nat.add_assoc _ _ _))⟩); clear A7; obtain ⟨Aw, nY, Az⟩ := Kd.bY HO_8.out; subst Az))
      repeat (go_quiet (first | ((with_reducible refine fJ (N := 10) rfl ?_); refine eU ?hg (N := 10) ?hd (cs := #[.int .i64 0, .int .u64 0]) (t := 192) ?hr ?_; (case hd => rfl); (case hg => rfl); (case hr => first | (go_simp; done) | (go_simp; rfl)); intro aJ hg w9 hbox hb; have aN := ah (hbox); have oM := ah ((by rw [hg]; exact (aI (aX HB.out)) : w.heap.size ≤ aJ)); have bT := ah ((by rw [hg]; exact (aI (aX HB.out)) : w.heap.size ≤ aJ)); replace HO_8 := ah (Kd.fC (Kd.wB (Kd.fB HO_8.out) aJ (Nat.le_of_eq hg.symm)) hb); replace HB := ah (aW (aX HB.out) hb); clear hb hbox hg; have vH := ay aN.out; have vI := aG aN.out) | (go_at_call 77; (with_reducible refine (scale_Place.calls k1 ((bg l0 bU).f0) a1 eG _ A7.out).mono ?_); rintro e w' ⟨rfl, ⟨nd, rfl⟩⟩; (try first | exact ⟨rfl, _, World.drewN_drewN _ _ _⟩ | exact ⟨rfl, _, Eq.trans (World.drewN_drewN _ _ _) (congrArg (World.drewN _) (Nat.add_assoc _ _ _))⟩); clear A7; obtain ⟨Aw, nY, Az⟩ := Kd.bY HO_8.out; subst Az)); go_upto_region 7 with (first | ((with_reducible refine fJ (N := 10) rfl ?_); refine eU ?hg (N := 10) ?hd (cs := #[.int .i64 0, .int .u64 0]) (t := 192) ?hr ?_; (case hd => rfl); (case hg => rfl); (case hr => first | (go_simp; done) | (go_simp; rfl)); intro aJ hg w9 hbox hb; have aN := ah (hbox); have oM := ah ((by rw [hg]; exact (aI (aX HB.out)) : w.heap.size ≤ aJ)); have bT := ah ((by rw [hg]; exact (aI (aX HB.out)) : w.heap.size ≤ aJ)); replace HO_8 := ah (Kd.fC (Kd.wB (Kd.fB HO_8.out) aJ (Nat.le_of_eq hg.symm)) hb); replace HB := ah (aW (aX HB.out) hb); clear hb hbox hg; have vH := ay aN.out; have vI := aG aN.out) | (go_at_call 77; (with_reducible refine (scale_Place.calls k1 ((bg l0 bU).f0) a1 eG _ A7.out).mono ?_); rintro e w' ⟨rfl, ⟨nd, rfl⟩⟩; (try first | exact ⟨rfl, _, World.drewN_drewN _ _ _⟩ | exact ⟨rfl, _, Eq.trans (World.drewN_drewN _ _ _) (congrArg (World.drewN _) (Nat.add_assoc _ _ _))⟩); clear A7; obtain ⟨Aw, nY, Az⟩ := Kd.bY HO_8.out; subst Az)))
      (try simp only [Act.put, List.setIfInBounds_toArray, List.set_cons_zero, List.set_cons_succ])
      go_cut [38] (fun v38 wc => ∃ (kq : Nat) (Cc : Bool), v38 = .bool Cc ∧ aj (scale_widen_uint64.j1 kq a1 bK eG (bK.length : Int) l0 (l0.length : Int) bU Cc ((bg l0 bU).f0) ((bg l0 bU).f1) = some (r1, r2)) ∧ aj (kq ≤ k1) ∧ aj (Kd.R kV 192 wc w.heap.size (fun k_ => k_ ≠ aJ) (.slice Aw bK.length nY) bK) ∧ aj (wc.heap[aJ]? = some (.cells #[.int .i64 ((bg l0 bU).f0), .int .u64 ((bg l0 bU).f1)] 192 (0, 0))) ∧ aj (Below w.heap.size w wc))
      case first =>
       have H := TW.out
       clear TW
       by_cases c12 : (bK.length : Int) > 0
       ·rw [if_pos c12] at H
        have c12b0 : decide (0 < (bK.length : Int)) = true := aiJ c12
        have c12b1 : decide (0 < bK.length) = true := aiJ (by omega)
        clear c12
        (first | rw [c12b0] | (simp only [dh, dF]; rw [c12b0]) | skip)
        obtain ⟨sW, Ce⟩ : ∃ j_ : Int, (wrap64 ((bK.length : Int) - 1)) = j_ := ⟨_, rfl⟩
        replace H : (if 0 ≤ (sW) then (if (sW) < (bK.length : Int) then (scale_widen_uint64.j1 k1 a1 bK eG (bK.length : Int) l0 (l0.length : Int) bU (((bg bK (sW)).f0) == eG) ((bg l0 bU).f0) ((bg l0 bU).f1)) else (none)) else (none)) = some (r1, r2) := by first | (rw [Ce] at H; exact H) | (simp only [Ce] at H ⊢; exact H)
        have hji13w : (IntKind.i64.wrap ((bK.length : Int) - 1)) = sW := (dh _).trans Ce
        by_cases c14 : 0 ≤ (sW)
        ·rw [if_pos c14] at H
         have c14b0 : decide (0 ≤ (sW)) = true := aiJ c14
         clear c14
         by_cases c15 : (sW) < (bK.length : Int)
         ·rw [if_pos c15] at H
          have c15b0 : decide ((sW) < (bK.length : Int)) = true := aiJ c15
          clear c15
          have H' := ah H
          clear H
          have yT : 0 ≤ ((sW) : Int) := aiI (by assumption)
          have yU : (sW) < (bK.length : Int) := aiI (by assumption)
          obtain ⟨yV, Oi, ng, oK⟩ := wZ (Kd.bD HO_8.out).2.2 (sW) yT yU
          cases Oi
          have ni : yV.block ≠ aJ := Kd.Bf (by first | exact Kd.Dh HO_8.out aN.out (by decide) | exact Kd.o7 HO_8.out (fun _ hk => hk.2))
          have ny : yV.block ≠ aJ := Kd.Bf (by first | exact Kd.Dh HO_8.out aN.out (by decide) | exact Kd.o7 HO_8.out (fun _ hk => hk.2))
          replace ng := (cell_far (p := ⟨aJ, 0, none⟩) (by first | (rw [add_block]; exact ni) | (show (Addr.add _ _).block ≠ _; rw [add_block]; exact ni) | exact ni) (.int .i64 ((bg l0 bU).f0))).trans ng
          replace oK := (cell_far (p := ⟨aJ, 0, none⟩) (by first | (rw [add_block]; exact ni) | (show (Addr.add _ _).block ≠ _; rw [add_block]; exact ni) | exact ni) (.int .i64 ((bg l0 bU).f0))).trans oK
          replace ng := (cell_far (p := ⟨aJ, 1, none⟩) (by first | (rw [add_block]; exact ny) | (show (Addr.add _ _).block ≠ _; rw [add_block]; exact ny) | exact ny) (.int .u64 ((bg l0 bU).f1))).trans ng
          replace oK := (cell_far (p := ⟨aJ, 1, none⟩) (by first | (rw [add_block]; exact ny) | (show (Addr.add _ _).block ≠ _; rw [add_block]; exact ny) | exact ny) (.int .u64 ((bg l0 bU).f1))).trans oK
          (try have VT := fun (n_ : Nat) => (show ((((w9.drewN n_).setCell ⟨aJ, 0, none⟩ (.int .i64 ((bg l0 bU).f0))).setCell ⟨aJ, 1, none⟩ (.int .u64 ((bg l0 bU).f1)))).cell? _ = some _ from ng))
          (try have VU := fun (n_ : Nat) => (show ((((w9.drewN n_).setCell ⟨aJ, 0, none⟩ (.int .i64 ((bg l0 bU).f0))).setCell ⟨aJ, 1, none⟩ (.int .u64 ((bg l0 bU).f1)))).cell? _ = some _ from oK))
          clear ni
          clear ny
          replace yT := eq_true yT
          replace yU := eq_true yU
          go_wp2
          repeat (go_quiet (fail); try go_wp2)
          go_meet
          case rel => exact ⟨_, ((((bg bK (sW)).f0) == eG)), (by first | rfl | (simp; done) | (simp only [← Ce] <;> (first | rfl | simp)) | (simp [*]; done)), H', ⟨by have := jf.out; first | omega | exact Nat.le_refl _⟩, ⟨by (repeat with_reducible refine Kd.kJ ?_); exact Kd.cu (Kd.cZ (p := ⟨aJ, 1, none⟩) (Kd.cZ (p := ⟨aJ, 0, none⟩) (Kd.cu HO_8.out (fun k_ hk => (⟨hk, hk.2⟩ : _ ∧ k_ ≠ aJ))) (fun _ hk => hk.2) (.int .i64 ((bg l0 bU).f0))) (fun _ hk => hk.2) (.int .u64 ((bg l0 bU).f1))) (fun _ hk => hk.1.2)⟩, ⟨by (repeat with_reducible refine bQ ?_); refine bC (cs := #[.int .i64 ((bg l0 bU).f0), .int .u64 0]) ?_ 1 _ rfl; (repeat with_reducible refine bQ ?_); refine bC (cs := #[.int .i64 0, .int .u64 0]) ?_ 0 _ rfl; (repeat with_reducible refine bQ ?_); exact aN.out⟩, ⟨by repeat (first | (with_reducible first | exact HB.out | apply ak | apply au | apply aC | refine aA ?_ bT.out) | exact HB.out)⟩⟩
         rw [if_neg c15] at H
         exact absurd H (by simp)
        rw [if_neg c14] at H
        exact absurd H (by simp)
       rw [if_neg c12] at H
       have c12b0 : decide (0 < (bK.length : Int)) = false := aiK c12
       have c12b1 : decide (0 < bK.length) = false := aiK (by omega)
       clear c12
       (first | rw [c12b0] | (simp only [dh, dF]; rw [c12b0]) | skip)
       have H' := ah H
       clear H
       go_wp2
       repeat (go_quiet (fail); try go_wp2)
       go_meet
       case rel => exact ⟨_, (false), (by first | rfl | (simp; done) | (simp [*]; done)), H', ⟨by have := jf.out; first | omega | exact Nat.le_refl _⟩, ⟨by (repeat with_reducible refine Kd.kJ ?_); exact Kd.cu (Kd.cZ (p := ⟨aJ, 1, none⟩) (Kd.cZ (p := ⟨aJ, 0, none⟩) (Kd.cu HO_8.out (fun k_ hk => (⟨hk, hk.2⟩ : _ ∧ k_ ≠ aJ))) (fun _ hk => hk.2) (.int .i64 ((bg l0 bU).f0))) (fun _ hk => hk.2) (.int .u64 ((bg l0 bU).f1))) (fun _ hk => hk.1.2)⟩, ⟨by (repeat with_reducible refine bQ ?_); refine bC (cs := #[.int .i64 ((bg l0 bU).f0), .int .u64 0]) ?_ 1 _ rfl; (repeat with_reducible refine bQ ?_); refine bC (cs := #[.int .i64 0, .int .u64 0]) ?_ 0 _ rfl; (repeat with_reducible refine bQ ?_); exact aN.out⟩, ⟨by repeat (first | (with_reducible first | exact HB.out | apply ak | apply au | apply aC | refine aA ?_ bT.out) | exact HB.out)⟩⟩
      case rest =>
       clear TW
       try clear c1
       try clear p1
       try clear q1
       try clear hx1
       try clear p2
       try clear c4
       try clear c4b0
       try clear c5
       try clear c5b0
       try clear c6
       try clear c6b0
       try clear p6
       try clear c9
       try clear p10
       try clear q10
       try clear SA
       try clear c12
       try clear c12b0
       try clear c12b1
       try clear c14
       try clear c14b0
       try clear c15
       try clear c15b0
       try clear vH
       try clear vI
       try clear bP
       try clear dS
       try clear ng
       try clear oK
       try clear eX
       try clear yT
       try clear p2
       try clear eY
       try clear yU
       obtain ⟨kq, Cc, rfl, HA, PU, HO_8, aN, HB⟩ := hcut
       cases kq with
       | zero => exact absurd HA.out (by simp [scale_widen_uint64.j1])
       | succ Hl =>
        have H := HA.out
        clear HA
        simp only [scale_widen_uint64.j1] at H
        by_cases c16 : Cc = true
        ·subst c16
         have H1 : (if 0 ≤ (wrap64 ((bK.length : Int) - 1)) then (if (wrap64 ((bK.length : Int) - 1)) < (bK.length : Int) then ((scale_float.f ((bg bK (wrap64 ((bK.length : Int) - 1))).f1) ((bg l0 bU).f1)).bind fun oq => (if oq.2 = true then (scale_widen_uint64.l0 Hl a1 (bK.set ((wrap64 ((bK.length : Int) - 1)) : Int).toNat (⟨(bg bK (wrap64 ((bK.length : Int) - 1))).f0, oq.1⟩ : gW)) l0 (l0.length : Int) (wrap64 (bU + 1))) else (some (([] : List (gW)), false)))) else (none)) else (none)) = some (r1, r2) := by rw [if_pos rfl] at H; exact H
         clear H
         have H := H1
         clear H1
         obtain ⟨dL, Ci⟩ : ∃ j_ : Int, (wrap64 ((bK.length : Int) - 1)) = j_ := ⟨_, rfl⟩
         replace H : (if 0 ≤ (dL) then (if (dL) < (bK.length : Int) then ((scale_float.f ((bg bK (dL)).f1) ((bg l0 bU).f1)).bind fun oq => (if oq.2 = true then (scale_widen_uint64.l0 Hl a1 (bK.set ((dL) : Int).toNat (⟨(bg bK (dL)).f0, oq.1⟩ : gW)) l0 (l0.length : Int) (wrap64 (bU + 1))) else (some (([] : List (gW)), false)))) else (none)) else (none)) = some (r1, r2) := by first | (rw [Ci] at H; exact H) | (simp only [Ci] at H ⊢; exact H)
         have hji17w : (IntKind.i64.wrap ((bK.length : Int) - 1)) = dL := (dh _).trans Ci
         by_cases c18 : 0 ≤ (dL)
         ·rw [if_pos c18] at H
          have c18b0 : decide (0 ≤ (dL)) = true := aiJ c18
          clear c18
          by_cases c19 : (dL) < (bK.length : Int)
          ·rw [if_pos c19] at H
           have c19b0 : decide ((dL) < (bK.length : Int)) = true := aiJ c19
           clear c19
           replace H := Option.bind_eq_some_iff.mp H
           obtain ⟨⟨fU, t107⟩, L9, H⟩ := H
           replace H : (if t107 = true then (scale_widen_uint64.l0 Hl a1 (bK.set ((dL) : Int).toNat (⟨(bg bK (dL)).f0, fU⟩ : gW)) l0 (l0.length : Int) (wrap64 (bU + 1))) else (some (([] : List (gW)), false))) = some (r1, r2) := H
           have sV := ah L9
           clear L9
           by_cases c21 : t107 = true
           ·subst c21
            have H1 : (scale_widen_uint64.l0 Hl a1 (bK.set ((dL) : Int).toNat (⟨(bg bK (dL)).f0, fU⟩ : gW)) l0 (l0.length : Int) (wrap64 (bU + 1))) = some (r1, r2) := by rw [if_pos rfl] at H; exact H
            clear H
            have H := H1
            clear H1
            obtain ⟨jB, nS⟩ : ∃ y_ : List (gW), y_ = (bK.set ((dL) : Int).toNat (⟨(bg bK (dL)).f0, fU⟩ : gW)) := ⟨_, rfl⟩
            replace H : (scale_widen_uint64.l0 Hl a1 jB l0 (l0.length : Int) (wrap64 (bU + 1))) = some (r1, r2) := by first | (rw [nS]; with_reducible exact H) | (have jm := (Option.bind_some _ _).symm.trans H; rw [nS]; with_reducible exact jm) | (have jm := (Option.bind_some _ _).symm.trans H; with_reducible exact jm) | with_reducible exact H | (rw [nS]; exact H) | exact H
            have wI := ah nS
            clear nS
            have H' := ah H
            clear H
            have pX : 0 ≤ ((dL) : Int) := aiI (by assumption)
            have pY : (dL) < (bK.length : Int) := aiI (by assumption)
            obtain ⟨DU, Aq, lS, qN⟩ := wZ (Kd.bD HO_8.out).2.2 (dL) pX pY
            cases Aq
            replace pX := eq_true pX
            replace pY := eq_true pY
            have xG := ay aN.out
            have xH := aG aN.out
            go_wp2_with (first | (go_at_call 92; (with_reducible refine (scale_float.calls ((bg bK (dL)).f1) ((bg l0 bU).f1) fU true _ sV.out).mono ?_); rintro e w' ⟨rfl, ⟨nd, rfl⟩⟩; (try first | exact ⟨rfl, _, World.drewN_drewN _ _ _⟩ | exact ⟨rfl, _, Eq.trans (World.drewN_drewN _ _ _) (congrArg (World.drewN _) (Nat.add_assoc _ _ _))⟩); clear sV; have Gp : 0 ≤ ((dL) : Int) := aiI (by assumption); have q22 : ((dL) : Int) < ((bK.length : Int) : Int) := aiI (by assumption); obtain ⟨jY, BZ, uQ, zf, Gq, Uf, zh⟩ := Kd.qw HO_8.out (by omega); (first | cases uQ | (injection uQ with ea_ en_ ec_; (first | subst ea_ | (injection ea_ with ea_; subst ea_)); subst ec_; clear en_)); have Gs := ah zf; have Ug := ah zh; clear zf Gq zh; (first | simp only [add_plain] at lS | skip); (first | simp only [add_plain] at qN | skip); obtain ⟨Uh, zi, zk, ou, oz⟩ := Kd.jJ HO_8.out Ei ((dL) : Int) Gp q22; obtain rfl := lW zk; have Gt : wc.cell? ⟨jY, ((dL) : Int).toNat * 2, none⟩ = some (.int .i64 ((bg bK (dL)).f0)) := ou 0 _ rfl; have Gu : wc.cell? ⟨jY, ((dL) : Int).toNat * 2 + 1, none⟩ = some (.int .u64 ((bg bK (dL)).f1)) := ou 1 _ rfl; have Gv : wc.frozen? ⟨jY, ((dL) : Int).toNat * 2, none⟩ = false := oz 0; have Gw : wc.frozen? ⟨jY, ((dL) : Int).toNat * 2 + 1, none⟩ = false := oz 1; clear zi ou oz zk; replace Gp := eq_true Gp; replace q22 := eq_true q22; have oC := ah (show Kd.R kV 192 wc w.heap.size (fun k_ => k_ ≠ aJ) (.slice (some ⟨jY, 0, none⟩) bK.length nY) bK from (Kd.fB HO_8.out)); obtain ⟨Gx, kN, oD, jw, kP⟩ := Kd.jJ oC.out Ei ((dL) : Int) (aiI (by assumption)) (by have h_ : ((dL) : Int) < ((bK.length : Int) : Int) := aiI (by assumption); first | exact h_ | (have e_ := (Kd.bD HO_8.out).1; omega) | simpa using h_); obtain rfl := lW oD; have qO := Kd.qy oC.out ((dL) : Int) (aiI (by assumption)) (by have h_ : ((dL) : Int) < ((bK.length : Int) : Int) := aiI (by assumption); first | exact h_ | (have e_ := (Kd.bD HO_8.out).1; omega) | simpa using h_) (seg := [.int .u64 fU]) (j := 1) kN jw (show 2 ≤ 2 from by decide) (x' := (⟨(bg bK (dL)).f0, fU⟩ : gW)) (mF _ _ _ (⟨(bg bK (dL)).f0, fU⟩ : gW) ) (fun _ hk => hk); have lD := jw 1 _ rfl; (try simp only [show (kV).sz = 2 from rfl, Nat.mul_one, Nat.add_zero] at lD); have lF := kP 1; (try simp only [show (kV).sz = 2 from rfl, Nat.mul_one, Nat.add_zero] at lF); clear kN jw kP oD) | ((with_reducible refine kU (t := 25) (p := 59) rfl ?_); (try (rw [qZ wc]; generalize hq_ : World.drewN wc _ = wc; have gZ := ah (Kd.Qs hq_ HO_8.out); have iL := ah (Dn hq_ aN.out); have jC := ah (wE hq_ HB.out); clear hq_ HO_8 aN HB; have HO_8 := gZ; have aN := iL; have HB := jC; clear gZ iL jC; (try (have oC := ah (show Kd.R kV 192 wc w.heap.size (fun k_ => k_ ≠ aJ) (.slice (some ⟨jY, 0, none⟩) bK.length nY) bK from (Kd.fB HO_8.out)))); (try (obtain ⟨Gx, kN, oD, jw, kP⟩ := Kd.jJ oC.out Ei ((dL) : Int) (aiI (by assumption)) (by have h_ : ((dL) : Int) < ((bK.length : Int) : Int) := aiI (by assumption); first | exact h_ | (have e_ := (Kd.bD HO_8.out).1; omega) | simpa using h_))); (try (obtain rfl := lW oD)); (try (have qO := Kd.qy oC.out ((dL) : Int) (aiI (by assumption)) (by have h_ : ((dL) : Int) < ((bK.length : Int) : Int) := aiI (by assumption); first | exact h_ | (have e_ := (Kd.bD HO_8.out).1; omega) | simpa using h_) (seg := [.int .u64 fU]) (j := 1) kN jw (show 2 ≤ 2 from by decide) (x' := (⟨(bg bK (dL)).f0, fU⟩ : gW)) (mF _ _ _ (⟨(bg bK (dL)).f0, fU⟩ : gW) ) (fun _ hk => hk))); (try (have lD := jw 1 _ rfl)); (try (try simp only [show (kV).sz = 2 from rfl, Nat.mul_one, Nat.add_zero] at lD)); (try (have lF := kP 1)); (try (try simp only [show (kV).sz = 2 from rfl, Nat.mul_one, Nat.add_zero] at lF)); (try (clear kN jw kP oD)))); refine ku (t := 25) (p := 59) (v := ?vo_w25) (w1 := (wc.setCell ⟨jY, ((dL) : Int).toNat * 2 + 1, none⟩ (.int .u64 fU))) ?hg ?ho ?hn ?hr ?_; (case ho => rfl); (case hg => rfl); (case hn => rfl); (case hr => first | (go_simp; done) | (go_simp; rfl)); intro DV hw; have hg : wc.grownBy DV (some jY) := (by rw [hw]; exact qO.2); have hp_ : Kd.R kV 192 DV w.heap.size (fun k_ => k_ ≠ aJ) (.slice (some ⟨jY, 0, none⟩) bK.length nY) jB := (by rw [hw, wI.out]; exact qO.1); clear qO; have iL := ah (iZ (g := aJ) (o := .cells #[.int .i64 ((bg l0 bU).f0), .int .u64 ((bg l0 bU).f1)] 192 (0, 0)) (jP aN.out) hg (Kd.o7 HO_8.out (fun _ hk => hk))); replace HO_8 := ah (hp_); replace HB := ah ((by rw [hw]; exact aA (HB.out) Gs.out : Below w.heap.size w DV)); clear aN; have aN := iL; clear iL hg hw hp_))
            repeat (go_quiet (first | (go_at_call 92; (with_reducible refine (scale_float.calls ((bg bK (dL)).f1) ((bg l0 bU).f1) fU true _ sV.out).mono ?_); rintro e w' ⟨rfl, ⟨nd, rfl⟩⟩; (try first | exact ⟨rfl, _, World.drewN_drewN _ _ _⟩ | exact ⟨rfl, _, Eq.trans (World.drewN_drewN _ _ _) (congrArg (World.drewN _) (Nat.add_assoc _ _ _))⟩); clear sV; have Gp : 0 ≤ ((dL) : Int) := aiI (by assumption); have q22 : ((dL) : Int) < ((bK.length : Int) : Int) := aiI (by assumption); obtain ⟨jY, BZ, uQ, zf, Gq, Uf, zh⟩ := Kd.qw HO_8.out (by omega); (first | cases uQ | (injection uQ with ea_ en_ ec_; (first | subst ea_ | (injection ea_ with ea_; subst ea_)); subst ec_; clear en_)); have Gs := ah zf; have Ug := ah zh; clear zf Gq zh; (first | simp only [add_plain] at lS | skip); (first | simp only [add_plain] at qN | skip); obtain ⟨Uh, zi, zk, ou, oz⟩ := Kd.jJ HO_8.out Ei ((dL) : Int) Gp q22; obtain rfl := lW zk; have Gt : wc.cell? ⟨jY, ((dL) : Int).toNat * 2, none⟩ = some (.int .i64 ((bg bK (dL)).f0)) := ou 0 _ rfl; have Gu : wc.cell? ⟨jY, ((dL) : Int).toNat * 2 + 1, none⟩ = some (.int .u64 ((bg bK (dL)).f1)) := ou 1 _ rfl; have Gv : wc.frozen? ⟨jY, ((dL) : Int).toNat * 2, none⟩ = false := oz 0; have Gw : wc.frozen? ⟨jY, ((dL) : Int).toNat * 2 + 1, none⟩ = false := oz 1; clear zi ou oz zk; replace Gp := eq_true Gp; replace q22 := eq_true q22; have oC := ah (show Kd.R kV 192 wc w.heap.size (fun k_ => k_ ≠ aJ) (.slice (some ⟨jY, 0, none⟩) bK.length nY) bK from (Kd.fB HO_8.out)); obtain ⟨Gx, kN, oD, jw, kP⟩ := Kd.jJ oC.out Ei ((dL) : Int) (aiI (by assumption)) (by have h_ : ((dL) : Int) < ((bK.length : Int) : Int) := aiI (by assumption); first | exact h_ | (have e_ := (Kd.bD HO_8.out).1; omega) | simpa using h_); obtain rfl := lW oD; have qO := Kd.qy oC.out ((dL) : Int) (aiI (by assumption)) (by have h_ : ((dL) : Int) < ((bK.length : Int) : Int) := aiI (by assumption); first | exact h_ | (have e_ := (Kd.bD HO_8.out).1; omega) | simpa using h_) (seg := [.int .u64 fU]) (j := 1) kN jw (show 2 ≤ 2 from by decide) (x' := (⟨(bg bK (dL)).f0, fU⟩ : gW)) (mF _ _ _ (⟨(bg bK (dL)).f0, fU⟩ : gW) ) (fun _ hk => hk); have lD := jw 1 _ rfl; (try simp only [show (kV).sz = 2 from rfl, Nat.mul_one, Nat.add_zero] at lD); have lF := kP 1; (try simp only [show (kV).sz = 2 from rfl, Nat.mul_one, Nat.add_zero] at lF); clear kN jw kP oD) | ((with_reducible refine kU (t := 25) (p := 59) rfl ?_); (try (rw [qZ wc]; generalize hq_ : World.drewN wc _ = wc; have gZ := ah (Kd.Qs hq_ HO_8.out); have iL := ah (Dn hq_ aN.out); have jC := ah (wE hq_ HB.out); clear hq_ HO_8 aN HB; have HO_8 := gZ; have aN := iL; have HB := jC; clear gZ iL jC; (try (have oC := ah (show Kd.R kV 192 wc w.heap.size (fun k_ => k_ ≠ aJ) (.slice (some ⟨jY, 0, none⟩) bK.length nY) bK from (Kd.fB HO_8.out)))); (try (obtain ⟨Gx, kN, oD, jw, kP⟩ := Kd.jJ oC.out Ei ((dL) : Int) (aiI (by assumption)) (by have h_ : ((dL) : Int) < ((bK.length : Int) : Int) := aiI (by assumption); first | exact h_ | (have e_ := (Kd.bD HO_8.out).1; omega) | simpa using h_))); (try (obtain rfl := lW oD)); (try (have qO := Kd.qy oC.out ((dL) : Int) (aiI (by assumption)) (by have h_ : ((dL) : Int) < ((bK.length : Int) : Int) := aiI (by assumption); first | exact h_ | (have e_ := (Kd.bD HO_8.out).1; omega) | simpa using h_) (seg := [.int .u64 fU]) (j := 1) kN jw (show 2 ≤ 2 from by decide) (x' := (⟨(bg bK (dL)).f0, fU⟩ : gW)) (mF _ _ _ (⟨(bg bK (dL)).f0, fU⟩ : gW) ) (fun _ hk => hk))); (try (have lD := jw 1 _ rfl)); (try (try simp only [show (kV).sz = 2 from rfl, Nat.mul_one, Nat.add_zero] at lD)); (try (have lF := kP 1)); (try (try simp only [show (kV).sz = 2 from rfl, Nat.mul_one, Nat.add_zero] at lF)); (try (clear kN jw kP oD)))); refine ku (t := 25) (p := 59) (v := ?vo_w25) (w1 := (wc.setCell ⟨jY, ((dL) : Int).toNat * 2 + 1, none⟩ (.int .u64 fU))) ?hg ?ho ?hn ?hr ?_; (case ho => rfl); (case hg => rfl); (case hn => rfl); (case hr => first | (go_simp; done) | (go_simp; rfl)); intro DV hw; have hg : wc.grownBy DV (some jY) := (by rw [hw]; exact qO.2); have hp_ : Kd.R kV 192 DV w.heap.size (fun k_ => k_ ≠ aJ) (.slice (some ⟨jY, 0, none⟩) bK.length nY) jB := (by rw [hw, wI.out]; exact qO.1); clear qO; have iL := ah (iZ (g := aJ) (o := .cells #[.int .i64 ((bg l0 bU).f0), .int .u64 ((bg l0 bU).f1)] 192 (0, 0)) (jP aN.out) hg (Kd.o7 HO_8.out (fun _ hk => hk))); replace HO_8 := ah (hp_); replace HB := ah ((by rw [hw]; exact aA (HB.out) Gs.out : Below w.heap.size w DV)); clear aN; have aN := iL; clear iL hg hw hp_)); try go_wp2_with (first | (go_at_call 92; (with_reducible refine (scale_float.calls ((bg bK (dL)).f1) ((bg l0 bU).f1) fU true _ sV.out).mono ?_); rintro e w' ⟨rfl, ⟨nd, rfl⟩⟩; (try first | exact ⟨rfl, _, World.drewN_drewN _ _ _⟩ | exact ⟨rfl, _, Eq.trans (World.drewN_drewN _ _ _) (congrArg (World.drewN _) (Nat.add_assoc _ _ _))⟩); clear sV; have Gp : 0 ≤ ((dL) : Int) := aiI (by assumption); have q22 : ((dL) : Int) < ((bK.length : Int) : Int) := aiI (by assumption); obtain ⟨jY, BZ, uQ, zf, Gq, Uf, zh⟩ := Kd.qw HO_8.out (by omega); (first | cases uQ | (injection uQ with ea_ en_ ec_; (first | subst ea_ | (injection ea_ with ea_; subst ea_)); subst ec_; clear en_)); have Gs := ah zf; have Ug := ah zh; clear zf Gq zh; (first | simp only [add_plain] at lS | skip); (first | simp only [add_plain] at qN | skip); obtain ⟨Uh, zi, zk, ou, oz⟩ := Kd.jJ HO_8.out Ei ((dL) : Int) Gp q22; obtain rfl := lW zk; have Gt : wc.cell? ⟨jY, ((dL) : Int).toNat * 2, none⟩ = some (.int .i64 ((bg bK (dL)).f0)) := ou 0 _ rfl; have Gu : wc.cell? ⟨jY, ((dL) : Int).toNat * 2 + 1, none⟩ = some (.int .u64 ((bg bK (dL)).f1)) := ou 1 _ rfl; have Gv : wc.frozen? ⟨jY, ((dL) : Int).toNat * 2, none⟩ = false := oz 0; have Gw : wc.frozen? ⟨jY, ((dL) : Int).toNat * 2 + 1, none⟩ = false := oz 1; clear zi ou oz zk; replace Gp := eq_true Gp; replace q22 := eq_true q22; have oC := ah (show Kd.R kV 192 wc w.heap.size (fun k_ => k_ ≠ aJ) (.slice (some ⟨jY, 0, none⟩) bK.length nY) bK from (Kd.fB HO_8.out)); obtain ⟨Gx, kN, oD, jw, kP⟩ := Kd.jJ oC.out Ei ((dL) : Int) (aiI (by assumption)) (by have h_ : ((dL) : Int) < ((bK.length : Int) : Int) := aiI (by assumption); first | exact h_ | (have e_ := (Kd.bD HO_8.out).1; omega) | simpa using h_); obtain rfl := lW oD; have qO := Kd.qy oC.out ((dL) : Int) (aiI (by assumption)) (by have h_ : ((dL) : Int) < ((bK.length : Int) : Int) := aiI (by assumption); first | exact h_ | (have e_ := (Kd.bD HO_8.out).1; omega) | simpa using h_) (seg := [.int .u64 fU]) (j := 1) kN jw (show 2 ≤ 2 from by decide) (x' := (⟨(bg bK (dL)).f0, fU⟩ : gW)) (mF _ _ _ (⟨(bg bK (dL)).f0, fU⟩ : gW) ) (fun _ hk => hk); have lD := jw 1 _ rfl; (try simp only [show (kV).sz = 2 from rfl, Nat.mul_one, Nat.add_zero] at lD); have lF := kP 1; (try simp only [show (kV).sz = 2 from rfl, Nat.mul_one, Nat.add_zero] at lF); clear kN jw kP oD) | ((with_reducible refine kU (t := 25) (p := 59) rfl ?_); (try (rw [qZ wc]; generalize hq_ : World.drewN wc _ = wc; have gZ := ah (Kd.Qs hq_ HO_8.out); have iL := ah (Dn hq_ aN.out); have jC := ah (wE hq_ HB.out); clear hq_ HO_8 aN HB; have HO_8 := gZ; have aN := iL; have HB := jC; clear gZ iL jC; (try (have oC := ah (show Kd.R kV 192 wc w.heap.size (fun k_ => k_ ≠ aJ) (.slice (some ⟨jY, 0, none⟩) bK.length nY) bK from (Kd.fB HO_8.out)))); (try (obtain ⟨Gx, kN, oD, jw, kP⟩ := Kd.jJ oC.out Ei ((dL) : Int) (aiI (by assumption)) (by have h_ : ((dL) : Int) < ((bK.length : Int) : Int) := aiI (by assumption); first | exact h_ | (have e_ := (Kd.bD HO_8.out).1; omega) | simpa using h_))); (try (obtain rfl := lW oD)); (try (have qO := Kd.qy oC.out ((dL) : Int) (aiI (by assumption)) (by have h_ : ((dL) : Int) < ((bK.length : Int) : Int) := aiI (by assumption); first | exact h_ | (have e_ := (Kd.bD HO_8.out).1; omega) | simpa using h_) (seg := [.int .u64 fU]) (j := 1) kN jw (show 2 ≤ 2 from by decide) (x' := (⟨(bg bK (dL)).f0, fU⟩ : gW)) (mF _ _ _ (⟨(bg bK (dL)).f0, fU⟩ : gW) ) (fun _ hk => hk))); (try (have lD := jw 1 _ rfl)); (try (try simp only [show (kV).sz = 2 from rfl, Nat.mul_one, Nat.add_zero] at lD)); (try (have lF := kP 1)); (try (try simp only [show (kV).sz = 2 from rfl, Nat.mul_one, Nat.add_zero] at lF)); (try (clear kN jw kP oD)))); refine ku (t := 25) (p := 59) (v := ?vo_w25) (w1 := (wc.setCell ⟨jY, ((dL) : Int).toNat * 2 + 1, none⟩ (.int .u64 fU))) ?hg ?ho ?hn ?hr ?_; (case ho => rfl); (case hg => rfl); (case hn => rfl); (case hr => first | (go_simp; done) | (go_simp; rfl)); intro DV hw; have hg : wc.grownBy DV (some jY) := (by rw [hw]; exact qO.2); have hp_ : Kd.R kV 192 DV w.heap.size (fun k_ => k_ ≠ aJ) (.slice (some ⟨jY, 0, none⟩) bK.length nY) jB := (by rw [hw, wI.out]; exact qO.1); clear qO; have iL := ah (iZ (g := aJ) (o := .cells #[.int .i64 ((bg l0 bU).f0), .int .u64 ((bg l0 bU).f1)] 192 (0, 0)) (jP aN.out) hg (Kd.o7 HO_8.out (fun _ hk => hk))); replace HO_8 := ah (hp_); replace HB := ah ((by rw [hw]; exact aA (HB.out) Gs.out : Below w.heap.size w DV)); clear aN; have aN := iL; clear iL hg hw hp_)))
            go_roundg Hl
            case measure => have := jf.out; have := PU.out; omega
            case rel => exact ⟨(jB), (wrap64 (bU + 1)), (by first | rfl | (simp; done) | (simp [*]; done)), H', ⟨by have := jf.out; have := PU.out; omega⟩, ⟨by (repeat with_reducible refine Kd.kJ ?_); exact Kd.cu HO_8.out (fun _ hk => trivial)⟩, ⟨by repeat (first | (with_reducible first | exact HB.out | apply ak | apply au | apply aC | refine aA ?_ bT.out) | exact HB.out)⟩⟩
           replace c21 := Bool.eq_false_iff.mpr c21
           subst c21
           have H1 : (some (([] : List (gW)), false)) = some (r1, r2) := by rw [if_neg (show ¬ (false = true) by decide)] at H; exact H
           clear H
           have H := H1
           clear H1
           simp only [Option.some.injEq, Prod.mk.injEq] at H
           obtain ⟨rfl, rfl⟩ := H
           have pX : 0 ≤ ((dL) : Int) := aiI (by assumption)
           have pY : (dL) < (bK.length : Int) := aiI (by assumption)
           obtain ⟨DU, Aq, lS, qN⟩ := wZ (Kd.bD HO_8.out).2.2 (dL) pX pY
           cases Aq
           replace pX := eq_true pX
           replace pY := eq_true pY
           have BA := ay aN.out
           have BD := aG aN.out
           go_wp2_with (first | (go_at_call 92; (with_reducible refine (scale_float.calls ((bg bK (dL)).f1) ((bg l0 bU).f1) fU false _ sV.out).mono ?_); rintro e w' ⟨rfl, ⟨nd, rfl⟩⟩; (try first | exact ⟨rfl, _, World.drewN_drewN _ _ _⟩ | exact ⟨rfl, _, Eq.trans (World.drewN_drewN _ _ _) (congrArg (World.drewN _) (Nat.add_assoc _ _ _))⟩); clear sV))
           repeat (go_quiet (first | (go_at_call 92; (with_reducible refine (scale_float.calls ((bg bK (dL)).f1) ((bg l0 bU).f1) fU false _ sV.out).mono ?_); rintro e w' ⟨rfl, ⟨nd, rfl⟩⟩; (try first | exact ⟨rfl, _, World.drewN_drewN _ _ _⟩ | exact ⟨rfl, _, Eq.trans (World.drewN_drewN _ _ _) (congrArg (World.drewN _) (Nat.add_assoc _ _ _))⟩); clear sV)); try go_wp2_with (first | (go_at_call 92; (with_reducible refine (scale_float.calls ((bg bK (dL)).f1) ((bg l0 bU).f1) fU false _ sV.out).mono ?_); rintro e w' ⟨rfl, ⟨nd, rfl⟩⟩; (try first | exact ⟨rfl, _, World.drewN_drewN _ _ _⟩ | exact ⟨rfl, _, Eq.trans (World.drewN_drewN _ _ _) (congrArg (World.drewN _) (Nat.add_assoc _ _ _))⟩); clear sV)))
           go_ret2
           exact ⟨_, by first | rfl | (simp [aT, aU] <;> rfl) | (simp only [← Ci]; first | rfl | (simp [aT, aU] <;> rfl)) | (simp [*, aT, aU] <;> rfl), by first | exact Kd.dY _ _ _ _ _ | exact Kd.gI _ _ _ _ _ | exact Kd.gJ _ _ _ _ _ | exact Kd.gB _ _ _ _ _ | exact Kd.gG _ _ _ _ _, by repeat (first | (with_reducible first | exact HB.out | apply ak | apply au | apply aC | refine aA ?_ bT.out) | exact HB.out)⟩
          rw [if_neg c19] at H
          exact absurd H (by simp)
         rw [if_neg c18] at H
         exact absurd H (by simp)
        replace c16 := Bool.eq_false_iff.mpr c16
        subst c16
        have H1 : (if bK.length < 8796093022208 then (scale_widen_uint64.l0 Hl a1 (bK ++ [(⟨eG, ((bg l0 bU).f1)⟩ : gW)]) l0 (l0.length : Int) (wrap64 (bU + 1))) else (none)) = some (r1, r2) := by rw [if_neg (show ¬ (false = true) by decide)] at H; exact H
        clear H
        have H := H1
        clear H1
        by_cases JI : bK.length < 8796093022208
        ·rw [if_pos JI] at H
         have Gy := ah JI
         clear JI
         obtain ⟨mG, nX⟩ : ∃ y_ : List (gW), y_ = (bK ++ [(⟨eG, ((bg l0 bU).f1)⟩ : gW)]) := ⟨_, rfl⟩
         replace H : (scale_widen_uint64.l0 Hl a1 mG l0 (l0.length : Int) (wrap64 (bU + 1))) = some (r1, r2) := by first | (rw [nX]; with_reducible exact H) | (have jm := (Option.bind_some _ _).symm.trans H; rw [nX]; with_reducible exact jm) | (have jm := (Option.bind_some _ _).symm.trans H; with_reducible exact jm) | with_reducible exact H | (rw [nX]; exact H) | exact H
         have pz := ah nX
         clear nX
         have H' := ah H
         clear H
         have zN := ay aN.out
         have zO := aG aN.out
         go_wp2_with (first | ((with_reducible refine dZ (b := .append) (xs := #[.tmp 60, .tmp 65]) rfl ?_); at_builtin; refine Kd.iP kV (w0 := w) w.heap.size rfl (.tmp 60) (.tmp 65) 129 192 (.agg #[(.int .i64 0), (.int .u64 0)]) 16 rfl Try.underlying129 Bq rfl (by decide) (by omega) (.slice Aw bK.length nY) bK (⟨eG, ((bg l0 bU).f1)⟩ : gW) [.int .i64 eG, .int .u64 ((bg l0 bU).f1)] (fun k_ => k_ ≠ aJ) (fun _ => False) rfl rfl ?aP (fun _ hk => hk.elim) ?aF ?aO ?aB ?aS ?aL ?_; (case aP => exact mF _ _ _ (⟨eG, ((bg l0 bU).f1)⟩ : gW)); (case aB => exact (by repeat (first | (with_reducible first | exact HB.out | refine bJ ?_ | refine aA ?_ bT.out) | exact HB.out))); (case aF => exact (fun k_ hk => Kd.Di (g := aJ) (o := .cells #[.int .i64 ((bg l0 bU).f0), .int .u64 ((bg l0 bU).f1)] 192 (0, 0)) (jP aN.out) k_ hk)); (case aO => exact (Kd.fB HO_8.out)); (case aS => exact (aI (by repeat (first | (with_reducible first | exact HB.out | refine bJ ?_ | refine aA ?_ bT.out) | exact HB.out)))); (case aL => have := Gy.out; omega); intro sJ Vt ho hb hg hat; rw [← pz.out] at ho; have gZ := ah (iZ (g := aJ) (o := .cells #[.int .i64 ((bg l0 bU).f0), .int .u64 ((bg l0 bU).f1)] 192 (0, 0)) (jP aN.out) hg (Kd.o7 HO_8.out (fun _ hk => hk))); have gX := ah (ho); replace HB := ah (hb); clear HO_8 aN; have aN := gZ; clear gZ ho hb hg hat))
         repeat (go_quiet (first | ((with_reducible refine dZ (b := .append) (xs := #[.tmp 60, .tmp 65]) rfl ?_); at_builtin; refine Kd.iP kV (w0 := w) w.heap.size rfl (.tmp 60) (.tmp 65) 129 192 (.agg #[(.int .i64 0), (.int .u64 0)]) 16 rfl Try.underlying129 Bq rfl (by decide) (by omega) (.slice Aw bK.length nY) bK (⟨eG, ((bg l0 bU).f1)⟩ : gW) [.int .i64 eG, .int .u64 ((bg l0 bU).f1)] (fun k_ => k_ ≠ aJ) (fun _ => False) rfl rfl ?aP (fun _ hk => hk.elim) ?aF ?aO ?aB ?aS ?aL ?_; (case aP => exact mF _ _ _ (⟨eG, ((bg l0 bU).f1)⟩ : gW)); (case aB => exact (by repeat (first | (with_reducible first | exact HB.out | refine bJ ?_ | refine aA ?_ bT.out) | exact HB.out))); (case aF => exact (fun k_ hk => Kd.Di (g := aJ) (o := .cells #[.int .i64 ((bg l0 bU).f0), .int .u64 ((bg l0 bU).f1)] 192 (0, 0)) (jP aN.out) k_ hk)); (case aO => exact (Kd.fB HO_8.out)); (case aS => exact (aI (by repeat (first | (with_reducible first | exact HB.out | refine bJ ?_ | refine aA ?_ bT.out) | exact HB.out)))); (case aL => have := Gy.out; omega); intro sJ Vt ho hb hg hat; rw [← pz.out] at ho; have gZ := ah (iZ (g := aJ) (o := .cells #[.int .i64 ((bg l0 bU).f0), .int .u64 ((bg l0 bU).f1)] 192 (0, 0)) (jP aN.out) hg (Kd.o7 HO_8.out (fun _ hk => hk))); have gX := ah (ho); replace HB := ah (hb); clear HO_8 aN; have aN := gZ; clear gZ ho hb hg hat)); try go_wp2_with (first | ((with_reducible refine dZ (b := .append) (xs := #[.tmp 60, .tmp 65]) rfl ?_); at_builtin; refine Kd.iP kV (w0 := w) w.heap.size rfl (.tmp 60) (.tmp 65) 129 192 (.agg #[(.int .i64 0), (.int .u64 0)]) 16 rfl Try.underlying129 Bq rfl (by decide) (by omega) (.slice Aw bK.length nY) bK (⟨eG, ((bg l0 bU).f1)⟩ : gW) [.int .i64 eG, .int .u64 ((bg l0 bU).f1)] (fun k_ => k_ ≠ aJ) (fun _ => False) rfl rfl ?aP (fun _ hk => hk.elim) ?aF ?aO ?aB ?aS ?aL ?_; (case aP => exact mF _ _ _ (⟨eG, ((bg l0 bU).f1)⟩ : gW)); (case aB => exact (by repeat (first | (with_reducible first | exact HB.out | refine bJ ?_ | refine aA ?_ bT.out) | exact HB.out))); (case aF => exact (fun k_ hk => Kd.Di (g := aJ) (o := .cells #[.int .i64 ((bg l0 bU).f0), .int .u64 ((bg l0 bU).f1)] 192 (0, 0)) (jP aN.out) k_ hk)); (case aO => exact (Kd.fB HO_8.out)); (case aS => exact (aI (by repeat (first | (with_reducible first | exact HB.out | refine bJ ?_ | refine aA ?_ bT.out) | exact HB.out)))); (case aL => have := Gy.out; omega); intro sJ Vt ho hb hg hat; rw [← pz.out] at ho; have gZ := ah (iZ (g := aJ) (o := .cells #[.int .i64 ((bg l0 bU).f0), .int .u64 ((bg l0 bU).f1)] 192 (0, 0)) (jP aN.out) hg (Kd.o7 HO_8.out (fun _ hk => hk))); have gX := ah (ho); replace HB := ah (hb); clear HO_8 aN; have aN := gZ; clear gZ ho hb hg hat)))
         go_roundg Hl
         case measure => have := jf.out; have := PU.out; omega
         case rel => exact ⟨(mG), (wrap64 (bU + 1)), (by first | rfl | (simp; done) | (simp [*]; done)), H', ⟨by have := jf.out; have := PU.out; omega⟩, ⟨by (repeat with_reducible refine Kd.kJ ?_); exact Kd.cu gX.out (fun _ hk => trivial)⟩, ⟨by repeat (first | (with_reducible first | exact HB.out | apply ak | apply au | apply aC | refine aA ?_ bT.out) | exact HB.out)⟩⟩
        rw [if_neg JI] at H
        exact absurd H (by simp)
     rw [if_neg c6] at H
     exact absurd H (by simp)
    rw [if_neg c5] at H
    exact absurd H (by simp)
   rw [if_neg c4] at H
   have c4b0 : decide (bU < (l0.length : Int)) = false := aiK c4
   clear c4
   simp only [Option.some.injEq, Prod.mk.injEq] at H
   obtain ⟨rfl, rfl⟩ := H
   go_wp2
   repeat (go_quiet (fail); try go_wp2)
   go_ret2
   exact ⟨_, by first | rfl | (simp [aT, aU] <;> rfl) | (simp [*, aT, aU] <;> rfl), by (repeat with_reducible refine Kd.kJ ?_); exact HO_8.out, by repeat (first | (with_reducible first | exact HB.out | apply ak | apply au | apply aC) | exact HB.out)⟩
end Go.Proofs.Ytooiccpmngmapaa.P
namespace Go.Proofs.Ytooiccpmngmapaa.P
open Go.RowKit Go.Shelf Go.Proofs.YtooiccpmngmapaaW.PrintWords Go.Proofs.YtooiccpmngmapaaW.PrintLast Go.Proofs.YtooiccpmngmapaaW.PrintMore
def addN (a b : Int) : Nat := (Ov a b).getD 0
theorem GR {a : Int} (h0 : 0 ≤ a) (h : jy a = true) : ∃ m e, FloatKind.f64.format.read a.toNat = .number false m e := by
 unfold jy at h
 rw [decide_eq_true_eq] at h
 have hs : FloatKind.f64.format.signWeight = 9223372036854775808 := by kernel_rfl
 have hi : FloatKind.f64.format.infRung = 9218868437227405312 := by kernel_rfl
 unfold Ieee.Format.read
 rw [hs, hi]
 have h1 : a.toNat / 9223372036854775808 = 0 := Nat.div_eq_of_lt (by omega)
 have h2 : a.toNat % 9223372036854775808 = a.toNat := Nat.mod_eq_of_lt (by omega)
 simp only [h1, h2]
 split
 ·exact ⟨_, _, rfl⟩
 ·rw [if_pos (by omega)]; exact ⟨_, _, rfl⟩
theorem Ox {a b : Int} (ha : 0 ≤ a) (ra : jy a = true) (hb : 0 ≤ b) (rb : jy b = true) : Ov a b = some (addN a b) := by
 obtain ⟨m, e, h1⟩ := GR ha ra
 obtain ⟨n, g, h2⟩ := GR hb rb
 unfold addN Ov Ieee.Format.add
 rw [h1, h2]
 rfl
theorem Ig {a b : Int} (ha : 0 ≤ a) (ra : jy a = true) (hb : 0 ≤ b) (rb : jy b = true) : scale_float.f a b = some ((addN a b : Int), jy (addN a b)) := by
 unfold scale_float.f
 rw [Ox ha ra hb rb]
 rfl
def qQ (s : Int) : Pu → List Pu → Option (List Pu)
 | cur, [] => some [cur]
 | cur, p :: t => if fQ p.f0 s = cur.f0 then (if jy (addN cur.f1 p.f1) = true then qQ s ⟨cur.f0, addN cur.f1 p.f1⟩ t else none) else (qQ s ⟨fQ p.f0 s, p.f1⟩ t).map (cur :: ·)
def Aa (s : Int) : List Pu → Option (List Pu)
 | [] => some []
 | p :: t => qQ s ⟨fQ p.f0 s, p.f1⟩ t
def lJ (s : Int) (l : List Pu) : List Pu × Bool := match Aa s l with | some r => (r, true) | none => ([], false)
def Oy (l : List Pu) : Prop := ∀ p ∈ l, i64 p.f0 ∧ 0 ≤ p.f1 ∧ jy p.f1 = true
theorem MO (s : Int) (l : List Pu) (hl : l.length < 4398046511104) (hn : Oy l) : ∀ (d k i : Nat) (done : List Pu) (cur : Pu), l.length - i = d → 2 * d + 2 < k → i ≤ l.length → done.length < i → 0 ≤ cur.f1 → jy cur.f1 = true →
    scale_widen_uint64.l0 k s (done ++ [cur]) l (l.length : Int) (i : Int) = some (match qQ s cur (l.drop i) with | some r => (done ++ r, true) | none => ([], false)) := by
  intro d
  induction d with
  | zero =>
    intro k i done cur hd hk hi hdl h0 h1
    obtain ⟨k, rfl⟩ : ∃ m, k = m + 1 := ⟨k - 1, by omega⟩
    simp only [scale_widen_uint64.l0]
    rw [if_neg (by omega), List.drop_eq_nil_of_le (by omega)]
    rfl
  | succ d ih =>
    intro k i done cur hd hk hi hdl h0 h1
    obtain ⟨k, rfl⟩ : ∃ m, k = m + 1 + 1 + 1 := ⟨k - 3, by omega⟩
    have hlt : i < l.length := by omega
    obtain ⟨p0, p1, p2⟩ := hn l[i] (List.getElem_mem hlt)
    have hlast : bg (done ++ [cur]) (wrap64 (((done ++ [cur]).length : Nat) - 1 : Int)) = cur := by
      rw [eu (by simp <;> omega) (by simp <;> omega), show (((done ++ [cur]).length : Nat) - 1 : Int) = ((done.length : Nat) : Int) by simp, EM (by simp)]
      simp
    have hw : wrap64 (((done ++ [cur]).length : Nat) - 1 : Int) = (done.length : Int) := by rw [eu (by simp <;> omega) (by simp <;> omega)]; simp
    have hlen : (((done ++ [cur]).length : Nat) : Int) = (done.length : Int) + 1 := by simp
    rw [scale_widen_uint64.l0]
    rw [if_pos (by omega), if_pos (by omega), if_pos (by omega), EM hlt, rW _ _ _ p0]
    simp only [Option.bind_some]
    rw [if_pos (by rw [hlen]; omega), hlast, hw, if_pos (by omega), if_pos (by rw [hlen]; omega)]
    rw [List.drop_eq_getElem_cons hlt]
    generalize l[i] = p at *
    simp only [scale_widen_uint64.j1, qQ]
    by_cases he : fQ p.f0 s = cur.f0
    · rw [if_pos (by simp [he]), if_pos he, hw, if_pos (by omega), if_pos (by rw [hlen]; omega)]
      rw [show bg (done ++ [cur]) (done.length : Int) = cur from by rw [EM (by simp)]; simp]
      have hsf := Ig h0 h1 p1 p2
      generalize addN cur.f1 p.f1 = m at *
      rw [hsf]
      generalize hR : jy (m : Int) = R
      rw [Option.bind_some]
      cases R with
      | true =>
        rw [if_pos rfl, if_pos rfl, wrap_succ (by omega)]
        have hset : (done ++ [cur]).set ((done.length : Int)).toNat ⟨cur.f0, (m : Int)⟩ = done ++ [⟨cur.f0, (m : Int)⟩] := by rw [Int.toNat_natCast]; simp
        have hi := ih (k + 1) (i + 1) done ⟨cur.f0, (m : Int)⟩ (by omega) (by omega) (by omega) (by omega) (Int.natCast_nonneg _) hR
        rw [← hset] at hi
        exact hi
      | false => rw [if_neg (by simp), if_neg (by simp)]
    · rw [if_neg (by simp; intro h; exact he h.symm), if_neg he, if_pos (by simp <;> omega), wrap_succ (by omega)]
      rw [ih (k + 1) (i + 1) (done ++ [cur]) ⟨fQ p.f0 s, p.f1⟩ (by omega) (by omega) (by omega) (by simp <;> omega) p1 p2]
      cases qQ s ⟨fQ p.f0 s, p.f1⟩ (l.drop (i + 1)) with
      | none => rfl
      | some r => simp
theorem Ut (s : Int) (l : List Pu) (hl : l.length < 4398046511104) (hn : Oy l) (k : Nat) (hk : 2 * l.length + 4 < k) : scale_widen_uint64.f k l s = some (lJ s l) := by
  unfold scale_widen_uint64.f lJ
  obtain ⟨k, rfl⟩ : ∃ m, k = m + 1 + 1 + 1 := ⟨k - 3, by omega⟩
  cases l with
  | nil => simp only [scale_widen_uint64.l0]; rfl
  | cons p t =>
    rw [scale_widen_uint64.l0, if_pos (by simp <;> omega), if_pos (by omega), if_pos (by simp <;> omega)]
    obtain ⟨p0, p1, p2⟩ := hn p (by simp)
    have hr : bg (p :: t) 0 = p := rfl
    rw [hr, rW _ _ _ p0]
    simp only [Option.bind_some]
    rw [if_neg (by simp)]
    simp only [scale_widen_uint64.j1]
    rw [if_neg (by simp), if_pos (by simp), show wrap64 (0 + 1) = ((1 : Nat) : Int) from by unfold wrap64; omega]
    have := MO s (p :: t) hl hn t.length (k + 1) 1 [] ⟨fQ p.f0 s, p.f1⟩ (by simp) (by simp at hk; omega) (by simp) (by simp) p1 p2
    rw [List.nil_append] at this ⊢
    rw [this]
    rfl
theorem Ih (s : Int) : ∀ (l : List Pu) (cur : Pu) (r : List Pu), qQ s cur l = some r → (∀ p ∈ l, u64 p.f1 ∧ jy p.f1 = true) → u64 cur.f1 → jy cur.f1 = true →
    r.length ≤ l.length + 1 ∧ (∀ p ∈ r, u64 p.f1 ∧ jy p.f1 = true) ∧ (∀ p ∈ r, p.f0 = cur.f0 ∨ ∃ q ∈ l, p.f0 = fQ q.f0 s) := by
  intro l
  induction l with
  | nil =>
    intro cur r h hn h0 h1
    cases h
    refine ⟨by simp, fun p hp => ?_, fun p hp => ?_⟩
    · obtain rfl : p = cur := by simpa using hp
      exact ⟨h0, h1⟩
    · obtain rfl : p = cur := by simpa using hp
      exact .inl rfl
  | cons p t ih =>
    intro cur r h hn h0 h1
    have hp := hn p (by simp)
    have hn' : ∀ q ∈ t, u64 q.f1 ∧ jy q.f1 = true := fun q hq => hn q (List.mem_cons_of_mem _ hq)
    simp only [qQ] at h
    split at h
    · split at h
      · rename_i ho
        have hu : u64 (addN cur.f1 p.f1 : Int) := by
          have := ho
          unfold jy at this
          rw [decide_eq_true_eq] at this
          unfold u64
          omega
        obtain ⟨a, c, d⟩ := ih _ _ h hn' hu ho
        refine ⟨by simp; omega, c, fun q hq => ?_⟩
        rcases d q hq with d | ⟨q', hq', d⟩
        · exact .inl d
        · exact .inr ⟨q', List.mem_cons_of_mem _ hq', d⟩
      · cases h
    · cases hr : qQ s ⟨fQ p.f0 s, p.f1⟩ t with
      | none => rw [hr] at h; cases h
      | some r' =>
        rw [hr] at h
        cases h
        obtain ⟨a, c, d⟩ := ih _ _ hr hn' hp.1 hp.2
        refine ⟨by simp; omega, fun q hq => ?_, fun q hq => ?_⟩
        · rcases List.mem_cons.1 hq with rfl | hq
          · exact ⟨h0, h1⟩
          · exact c q hq
        · rcases List.mem_cons.1 hq with rfl | hq
          · exact .inl rfl
          · rcases d q hq with d | ⟨q', hq', d⟩
            · exact .inr ⟨p, by simp, d⟩
            · exact .inr ⟨q', List.mem_cons_of_mem _ hq', d⟩
theorem GU (s : Int) {l : List Pu} (h : RowOKU l) : sZ (lJ s l).1 ∧ (lJ s l).1.length ≤ 4096 := by
  unfold lJ
  cases hr : Aa s l with
  | none => exact ⟨RowOKU.nil.wf, by simp⟩
  | some r =>
    have hc : ∀ q ∈ l, u64 q.f1 ∧ jy q.f1 = true := fun q hq => ⟨(h.wf.1 q hq).2, h.cnt q hq⟩
    cases l with
    | nil => cases hr; exact ⟨RowOKU.nil.wf, by simp⟩
    | cons p t =>
      have hp := hc p (by simp)
      obtain ⟨a, c, d⟩ := Ih s t _ r hr (fun q hq => hc q (List.mem_cons_of_mem _ hq)) hp.1 hp.2
      have hl := h.len
      have hl2 : r.length ≤ 4096 := by simp at hl; omega
      refine ⟨⟨fun q hq => ⟨?_, (c q hq).1⟩, by simp only; omega⟩, hl2⟩
      rcases d q hq with d | ⟨q', hq', d⟩
      · rw [d]; exact xP (h.wf.1 p (by simp)).1
      · rw [d]; exact xP (h.wf.1 q' (List.mem_cons_of_mem _ hq')).1
theorem V6 {l : List Pu} (h : RowOKU l) : Oy l := fun p hp => ⟨(h.wf.1 p hp).1, by have := (h.wf.1 p hp).2; unfold u64 at this; omega, h.cnt p hp⟩
def Q8 (h : Fh) (tt : Int) : Fh := ⟨tt, h.f1, h.f2, h.f3, h.f4, h.f5, h.f6, h.f7, h.f8⟩
def EO (h : Fh) (tt : Int) : Fh × Int :=
 if rJ h ≠ 0 then (zo, rJ h) else if tt < -4 ∨ tt > h.f0 then (zo, 21)
 else match Aa (h.f0 - tt) (lT h).1, Aa (h.f0 - tt) (lT h).2.1 with
  | some p, some n => GN (Q8 h tt) (AU p) (AU n)
  | _, _ => (zo, 28)
theorem Ii {h : Fh} (hc : rJ h = 0) : -4 ≤ h.f0 ∧ h.f0 ≤ 8 := by
 unfold rJ lT at hc
 split at hc
 ·cases hc
 ·omega
theorem MP (base : Nat) (s : Int) (l : List Pu) (hr : RowOKU l) (w : World) (v : Value) (hv : SI kPu w v l) (hbase : base ≤ w.heap.size) : Calls Try.prog 91 #[v, .int .i64 s, .func (.func 92) #[] #[]] w fun e w' =>
  ∃ v0, e = .returned (.tuple #[v0, .bool (lJ s l).2]) ∧ FJ kPu base w' v0 (lJ s l).1 ∧ Below w.heap.size w w' := by
 obtain ⟨A, c, rfl, hc, hr'⟩ := hv
 have hl := hr.wf.2
 refine (scale_widen_uint64.calls (2 * l.length + 5) A c l s (lJ s l).1 (lJ s l).2 w hr' hc (Ut s l hl (V6 hr) _ (by omega))).mono ?_
 rintro e w1 ⟨v0, rfl, h0, hb⟩
 exact ⟨v0, rfl, FI.qR h0 hbase, hb⟩
set_option maxHeartbeats 16000000 in
set_option maxRecDepth 100000 in
theorem Uu (h : Fh) (hw : Q7 h) (tt : Int) (ht : i64 tt) (w : World) (v : Value) (hv : GI w v h) : Calls Try.prog 33 #[v, .int .i64 tt] w fun e w' =>
    ∃ v', e = .returned (.tuple #[v', .int .i64 (EO h tt).2]) ∧ GF w.heap.size w' v' (EO h tt).1 ∧ Below w.heap.size w w' := by
  have hu := Try.underlying55
  obtain ⟨A5, c5, A6, c6, A7, c7, A8, c8, e, s5, s6, s7, s8⟩ := hv.open_
  subst e
  have HV := ah hv
  have p0 := MI h hw 0
  have p1 := MI h hw 1
  have Oq := (IX hw).1
  have Ot := (IX hw).2
  rw [show AQ h 0 = ((lT h).1, rJ h) from by unfold AQ; rw [if_pos rfl]; rfl] at p0
  rw [show AQ h 1 = ((lT h).2.1, rJ h) from by unfold AQ; rw [if_neg (by decide), if_pos rfl]; rfl] at p1
  unfold EO
  generalize hce : rJ h = ce at *
  by_cases c0 : ce = 0
  rotate_left
  · rw [if_pos c0]
    have c0a : (ce != 0) = true := bne_iff_ne.2 c0
    simp only at p0
    have P0 := ah p0
    clear c0 hce p0 p1 Oq Ot hv hw
    have X := ah ((qU.new w #[.int .i64 h.f0, .int .u64 h.f1, .int .u64 h.f2, .int .u64 h.f3, .int .u64 h.f4, .slice A5 h.f5.length c5, .slice A6 h.f6.length c6, .slice A7 h.f7.length c7, .slice A8 h.f8.length c8] 55).alloc (.cells #[.int .i64 0, .int .u64 0, .int .u64 0, .int .u64 0, .int .u64 0, .slice none 0 0, .slice none 0 0, .slice none 0 0, .slice none 0 0] 55)); have hx := fun i => X.out.cell i; have zx := fun i => aG X.out i
    have Y := ah (qU.Ua (w := w) (.cells #[.int .i64 h.f0, .int .u64 h.f1, .int .u64 h.f2, .int .u64 h.f3, .int .u64 h.f4, .slice A5 h.f5.length c5, .slice A6 h.f6.length c6, .slice A7 h.f7.length c7, .slice A8 h.f8.length c8] 55) #[.int .i64 0, .int .u64 0, .int .u64 0, .int .u64 0, .int .u64 0, .slice none 0 0, .slice none 0 0, .slice none 0 0, .slice none 0 0] 55); have hy := fun i => Y.out.cell i; have zy := fun i => aG Y.out i
    have B := ah (ak (ak (Below.refl w.heap.size w) (.cells #[.int .i64 h.f0, .int .u64 h.f1, .int .u64 h.f2, .int .u64 h.f3, .int .u64 h.f4, .slice A5 h.f5.length c5, .slice A6 h.f6.length c6, .slice A7 h.f7.length c7, .slice A8 h.f8.length c8] 55)) (.cells #[.int .i64 0, .int .u64 0, .int .u64 0, .int .u64 0, .int .u64 0, .slice none 0 0, .slice none 0 0, .slice none 0 0, .slice none 0 0] 55))
    replace HV := ah ((HV.out.below (ak (Below.refl _ _) (.cells #[.int .i64 h.f0, .int .u64 h.f1, .int .u64 h.f2, .int .u64 h.f3, .int .u64 h.f4, .slice A5 h.f5.length c5, .slice A6 h.f6.length c6, .slice A7 h.f7.length c7, .slice A8 h.f8.length c8] 55))).below (ak (Below.refl _ _) (.cells #[.int .i64 0, .int .u64 0, .int .u64 0, .int .u64 0, .int .u64 0, .slice none 0 0, .slice none 0 0, .slice none 0 0, .slice none 0 0] 55)))
    go_enter Try.func33, Try.ntmps33
    go_wp2_with (first | (go_at_call 90; (with_reducible refine (P0.out _ _ HV.out).mono ?_); rintro e W1 ⟨v0, rfl, hs, hb⟩; replace B := ah (aH B.out B.out.size hb); replace HV := ah (HV.out.below hb); replace X := ah (X.out.below hb); replace hx := fun i => X.out.cell i; replace zx := fun i => aG X.out i; replace Y := ah (Y.out.below hb); replace hy := fun i => Y.out.cell i; replace zy := fun i => aG Y.out i; have S0 := ah hs; clear P0 hs hb))
    refine bodyPost_ret (gQ rfl _ _ (w.heap.size + 1) 55 #[.int .i64 0, .int .u64 0, .int .u64 0, .int .u64 0, .int .u64 0, .slice none 0 0, .slice none 0 0, .slice none 0 0, .slice none 0 0] (0, 0) _ rfl (nine Y.out _ _ _ _ _ _ _ _ _) Try.underlying55 rfl (by kernel_rfl)) rfl ?_
    exact ⟨_, rfl, GF.empty _ _, jd B.out (by omega) _ _ _ _ _ _ _ _ _⟩
  rw [if_neg (by simp [c0])]
  have hs := Ii (show rJ h = 0 by rw [hce]; exact c0)
  subst c0
  have sw : scale_wrong.f h.f0 tt = some (decide (tt < -4 ∨ tt > h.f0)) := by
    unfold scale_wrong.f
    by_cases c1 : tt < -4
    · rw [if_pos c1]; simp [c1]
    · rw [if_neg c1]; simp [c1]
  have wr : ∀ w : World, Calls Try.prog 79 #[.int .i64 h.f0, .int .i64 tt] w fun e w' => e = .returned (.bool (decide (tt < -4 ∨ tt > h.f0))) ∧ Below w.heap.size w w' := fun w => (scale_wrong.calls h.f0 tt _ w sw).mono fun e w1 h => ⟨h.1, h.2.below⟩
  have P0 := ah p0
  have P1 := ah p1
  clear hce p0 p1 hv
  by_cases c1 : tt < -4 ∨ tt > h.f0
  · rw [if_pos c1]
    rw [aiJ c1] at wr
    have WR := ah wr
    clear c1 wr sw hs hw Oq Ot ht
    have X := ah ((qU.new w #[.int .i64 h.f0, .int .u64 h.f1, .int .u64 h.f2, .int .u64 h.f3, .int .u64 h.f4, .slice A5 h.f5.length c5, .slice A6 h.f6.length c6, .slice A7 h.f7.length c7, .slice A8 h.f8.length c8] 55).alloc (.cells #[.int .i64 0, .int .u64 0, .int .u64 0, .int .u64 0, .int .u64 0, .slice none 0 0, .slice none 0 0, .slice none 0 0, .slice none 0 0] 55)); have hx := fun i => X.out.cell i; have zx := fun i => aG X.out i
    have Y := ah (qU.Ua (w := w) (.cells #[.int .i64 h.f0, .int .u64 h.f1, .int .u64 h.f2, .int .u64 h.f3, .int .u64 h.f4, .slice A5 h.f5.length c5, .slice A6 h.f6.length c6, .slice A7 h.f7.length c7, .slice A8 h.f8.length c8] 55) #[.int .i64 0, .int .u64 0, .int .u64 0, .int .u64 0, .int .u64 0, .slice none 0 0, .slice none 0 0, .slice none 0 0, .slice none 0 0] 55); have hy := fun i => Y.out.cell i; have zy := fun i => aG Y.out i
    have B := ah (ak (ak (Below.refl w.heap.size w) (.cells #[.int .i64 h.f0, .int .u64 h.f1, .int .u64 h.f2, .int .u64 h.f3, .int .u64 h.f4, .slice A5 h.f5.length c5, .slice A6 h.f6.length c6, .slice A7 h.f7.length c7, .slice A8 h.f8.length c8] 55)) (.cells #[.int .i64 0, .int .u64 0, .int .u64 0, .int .u64 0, .int .u64 0, .slice none 0 0, .slice none 0 0, .slice none 0 0, .slice none 0 0] 55))
    replace HV := ah ((HV.out.below (ak (Below.refl _ _) (.cells #[.int .i64 h.f0, .int .u64 h.f1, .int .u64 h.f2, .int .u64 h.f3, .int .u64 h.f4, .slice A5 h.f5.length c5, .slice A6 h.f6.length c6, .slice A7 h.f7.length c7, .slice A8 h.f8.length c8] 55))).below (ak (Below.refl _ _) (.cells #[.int .i64 0, .int .u64 0, .int .u64 0, .int .u64 0, .int .u64 0, .slice none 0 0, .slice none 0 0, .slice none 0 0, .slice none 0 0] 55)))
    go_enter Try.func33, Try.ntmps33
    go_wp2_with (first | (go_at_call 90; (with_reducible refine (P0.out _ _ HV.out).mono ?_); rintro e W1 ⟨v0, rfl, hs, hb⟩; replace B := ah (aH B.out B.out.size hb); replace HV := ah (HV.out.below hb); replace X := ah (X.out.below hb); replace hx := fun i => X.out.cell i; replace zx := fun i => aG X.out i; replace Y := ah (Y.out.below hb); replace hy := fun i => Y.out.cell i; replace zy := fun i => aG Y.out i; have S0 := ah hs; clear P0 hs hb) | (go_at_call 90; (with_reducible refine (P1.out _ _ HV.out).mono ?_); rintro e W2 ⟨v1, rfl, hs, hb⟩; replace B := ah (aH B.out B.out.size hb); replace HV := ah (HV.out.below hb); replace S0 := ah (S0.out.below hb); replace X := ah (X.out.below hb); replace hx := fun i => X.out.cell i; replace zx := fun i => aG X.out i; replace Y := ah (Y.out.below hb); replace hy := fun i => Y.out.cell i; replace zy := fun i => aG Y.out i; have S1 := ah hs; clear P1 hs hb) | (go_at_call 79; (with_reducible refine (WR.out _).mono ?_); rintro e W3 ⟨rfl, hb⟩; replace B := ah (aH B.out B.out.size hb); replace HV := ah (HV.out.below hb); replace S0 := ah (S0.out.below hb); replace S1 := ah (S1.out.below hb); replace X := ah (X.out.below hb); replace hx := fun i => X.out.cell i; replace zx := fun i => aG X.out i; replace Y := ah (Y.out.below hb); replace hy := fun i => Y.out.cell i; replace zy := fun i => aG Y.out i; clear  hb))
    refine bodyPost_ret (gQ rfl _ _ (w.heap.size + 1) 55 #[.int .i64 0, .int .u64 0, .int .u64 0, .int .u64 0, .int .u64 0, .slice none 0 0, .slice none 0 0, .slice none 0 0, .slice none 0 0] (0, 0) _ rfl (nine Y.out _ _ _ _ _ _ _ _ _) Try.underlying55 rfl (by kernel_rfl)) rfl ?_
    exact ⟨_, rfl, GF.empty _ _, jd B.out (by omega) _ _ _ _ _ _ _ _ _⟩
  rw [if_neg c1]
  rw [aiK c1] at wr
  have WR := ah wr
  obtain ⟨dd, hdd⟩ : ∃ dd, dd = h.f0 - tt := ⟨_, rfl⟩
  have hd : IntKind.i64.wrap (h.f0 - tt) = dd := by rw [dh, hdd]; exact eu (by omega) (by omega)
  rw [← hdd]
  have hwl : Q7 (Q8 h tt) := by
    obtain ⟨_, w⟩ := hw
    exact ⟨ht, w⟩
  have q0 := MP (w.heap.size + 1 + 1) dd (lT h).1 Oq
  have q1 := MP (w.heap.size + 1 + 1) dd (lT h).2.1 Ot
  have ok0 := GU dd Oq
  have ok1 := GU dd Ot
  clear wr sw hs hw
  cases hA : Aa dd (lT h).1 with
  | none =>
    rw [show lJ dd (lT h).1 = ([], false) from by unfold lJ; rw [hA]] at q0
    generalize lJ dd (lT h).2.1 = b1 at q1
    simp only at q0 ⊢
    have Q0 := ah q0
    have Q1 := ah q1
    clear q0 q1 ok0 ok1 Oq Ot hwl ht c1 hdd hA
    have X := ah ((qU.new w #[.int .i64 h.f0, .int .u64 h.f1, .int .u64 h.f2, .int .u64 h.f3, .int .u64 h.f4, .slice A5 h.f5.length c5, .slice A6 h.f6.length c6, .slice A7 h.f7.length c7, .slice A8 h.f8.length c8] 55).alloc (.cells #[.int .i64 0, .int .u64 0, .int .u64 0, .int .u64 0, .int .u64 0, .slice none 0 0, .slice none 0 0, .slice none 0 0, .slice none 0 0] 55)); have hx := fun i => X.out.cell i; have zx := fun i => aG X.out i
    have Y := ah (qU.Ua (w := w) (.cells #[.int .i64 h.f0, .int .u64 h.f1, .int .u64 h.f2, .int .u64 h.f3, .int .u64 h.f4, .slice A5 h.f5.length c5, .slice A6 h.f6.length c6, .slice A7 h.f7.length c7, .slice A8 h.f8.length c8] 55) #[.int .i64 0, .int .u64 0, .int .u64 0, .int .u64 0, .int .u64 0, .slice none 0 0, .slice none 0 0, .slice none 0 0, .slice none 0 0] 55); have hy := fun i => Y.out.cell i; have zy := fun i => aG Y.out i
    have B := ah (ak (ak (Below.refl w.heap.size w) (.cells #[.int .i64 h.f0, .int .u64 h.f1, .int .u64 h.f2, .int .u64 h.f3, .int .u64 h.f4, .slice A5 h.f5.length c5, .slice A6 h.f6.length c6, .slice A7 h.f7.length c7, .slice A8 h.f8.length c8] 55)) (.cells #[.int .i64 0, .int .u64 0, .int .u64 0, .int .u64 0, .int .u64 0, .slice none 0 0, .slice none 0 0, .slice none 0 0, .slice none 0 0] 55))
    replace HV := ah ((HV.out.below (ak (Below.refl _ _) (.cells #[.int .i64 h.f0, .int .u64 h.f1, .int .u64 h.f2, .int .u64 h.f3, .int .u64 h.f4, .slice A5 h.f5.length c5, .slice A6 h.f6.length c6, .slice A7 h.f7.length c7, .slice A8 h.f8.length c8] 55))).below (ak (Below.refl _ _) (.cells #[.int .i64 0, .int .u64 0, .int .u64 0, .int .u64 0, .int .u64 0, .slice none 0 0, .slice none 0 0, .slice none 0 0, .slice none 0 0] 55)))
    go_enter Try.func33, Try.ntmps33
    go_wp2_with (first | (go_at_call 90; (with_reducible refine (P0.out _ _ HV.out).mono ?_); rintro e W1 ⟨v0, rfl, hs, hb⟩; replace B := ah (aH B.out B.out.size hb); replace HV := ah (HV.out.below hb); replace X := ah (X.out.below hb); replace hx := fun i => X.out.cell i; replace zx := fun i => aG X.out i; replace Y := ah (Y.out.below hb); replace hy := fun i => Y.out.cell i; replace zy := fun i => aG Y.out i; have S0 := ah hs; clear P0 hs hb) | (go_at_call 90; (with_reducible refine (P1.out _ _ HV.out).mono ?_); rintro e W2 ⟨v1, rfl, hs, hb⟩; replace B := ah (aH B.out B.out.size hb); replace HV := ah (HV.out.below hb); replace S0 := ah (S0.out.below hb); replace X := ah (X.out.below hb); replace hx := fun i => X.out.cell i; replace zx := fun i => aG X.out i; replace Y := ah (Y.out.below hb); replace hy := fun i => Y.out.cell i; replace zy := fun i => aG Y.out i; have S1 := ah hs; clear P1 hs hb) | (go_at_call 79; (with_reducible refine (WR.out _).mono ?_); rintro e W3 ⟨rfl, hb⟩; replace B := ah (aH B.out B.out.size hb); replace HV := ah (HV.out.below hb); replace S0 := ah (S0.out.below hb); replace S1 := ah (S1.out.below hb); replace X := ah (X.out.below hb); replace hx := fun i => X.out.cell i; replace zx := fun i => aG X.out i; replace Y := ah (Y.out.below hb); replace hy := fun i => Y.out.cell i; replace zy := fun i => aG Y.out i; clear  hb) | (go_at_call 91; (with_reducible refine (Q0.out _ _ S0.out Y.out.Rz).mono ?_); rintro e W4 ⟨u0, rfl, hs, hb⟩; replace B := ah (aH B.out B.out.size hb); replace HV := ah (HV.out.below hb); replace S0 := ah (S0.out.below hb); replace S1 := ah (S1.out.below hb); replace X := ah (X.out.below hb); replace hx := fun i => X.out.cell i; replace zx := fun i => aG X.out i; replace Y := ah (Y.out.below hb); replace hy := fun i => Y.out.cell i; replace zy := fun i => aG Y.out i; have U0 := ah hs; clear Q0 hs hb) | (go_at_call 91; (with_reducible refine (Q1.out _ _ S1.out Y.out.Rz).mono ?_); rintro e W5 ⟨u1, rfl, hs, hb⟩; replace B := ah (aH B.out B.out.size hb); replace HV := ah (HV.out.below hb); replace S0 := ah (S0.out.below hb); replace S1 := ah (S1.out.below hb); replace U0 := ah (U0.out.below hb); replace X := ah (X.out.below hb); replace hx := fun i => X.out.cell i; replace zx := fun i => aG X.out i; replace Y := ah (Y.out.below hb); replace hy := fun i => Y.out.cell i; replace zy := fun i => aG Y.out i; have U1 := ah hs; clear Q1 hs hb))
    refine bodyPost_ret (gQ rfl _ _ (w.heap.size + 1) 55 #[.int .i64 0, .int .u64 0, .int .u64 0, .int .u64 0, .int .u64 0, .slice none 0 0, .slice none 0 0, .slice none 0 0, .slice none 0 0] (0, 0) _ rfl (nine Y.out _ _ _ _ _ _ _ _ _) Try.underlying55 rfl (by kernel_rfl)) rfl ?_
    exact ⟨_, rfl, GF.empty _ _, jd B.out (by omega) _ _ _ _ _ _ _ _ _⟩
  | some p =>
  rw [show lJ dd (lT h).1 = (p, true) from by unfold lJ; rw [hA]] at q0 ok0
  cases hB : Aa dd (lT h).2.1 with
  | none =>
    rw [show lJ dd (lT h).2.1 = ([], false) from by unfold lJ; rw [hB]] at q1
    simp only at q0 q1 ⊢
    have Q0 := ah q0
    have Q1 := ah q1
    clear q0 q1 ok0 ok1 Oq Ot hwl ht c1 hdd hA hB
    have X := ah ((qU.new w #[.int .i64 h.f0, .int .u64 h.f1, .int .u64 h.f2, .int .u64 h.f3, .int .u64 h.f4, .slice A5 h.f5.length c5, .slice A6 h.f6.length c6, .slice A7 h.f7.length c7, .slice A8 h.f8.length c8] 55).alloc (.cells #[.int .i64 0, .int .u64 0, .int .u64 0, .int .u64 0, .int .u64 0, .slice none 0 0, .slice none 0 0, .slice none 0 0, .slice none 0 0] 55)); have hx := fun i => X.out.cell i; have zx := fun i => aG X.out i
    have Y := ah (qU.Ua (w := w) (.cells #[.int .i64 h.f0, .int .u64 h.f1, .int .u64 h.f2, .int .u64 h.f3, .int .u64 h.f4, .slice A5 h.f5.length c5, .slice A6 h.f6.length c6, .slice A7 h.f7.length c7, .slice A8 h.f8.length c8] 55) #[.int .i64 0, .int .u64 0, .int .u64 0, .int .u64 0, .int .u64 0, .slice none 0 0, .slice none 0 0, .slice none 0 0, .slice none 0 0] 55); have hy := fun i => Y.out.cell i; have zy := fun i => aG Y.out i
    have B := ah (ak (ak (Below.refl w.heap.size w) (.cells #[.int .i64 h.f0, .int .u64 h.f1, .int .u64 h.f2, .int .u64 h.f3, .int .u64 h.f4, .slice A5 h.f5.length c5, .slice A6 h.f6.length c6, .slice A7 h.f7.length c7, .slice A8 h.f8.length c8] 55)) (.cells #[.int .i64 0, .int .u64 0, .int .u64 0, .int .u64 0, .int .u64 0, .slice none 0 0, .slice none 0 0, .slice none 0 0, .slice none 0 0] 55))
    replace HV := ah ((HV.out.below (ak (Below.refl _ _) (.cells #[.int .i64 h.f0, .int .u64 h.f1, .int .u64 h.f2, .int .u64 h.f3, .int .u64 h.f4, .slice A5 h.f5.length c5, .slice A6 h.f6.length c6, .slice A7 h.f7.length c7, .slice A8 h.f8.length c8] 55))).below (ak (Below.refl _ _) (.cells #[.int .i64 0, .int .u64 0, .int .u64 0, .int .u64 0, .int .u64 0, .slice none 0 0, .slice none 0 0, .slice none 0 0, .slice none 0 0] 55)))
    go_enter Try.func33, Try.ntmps33
    go_wp2_with (first | (go_at_call 90; (with_reducible refine (P0.out _ _ HV.out).mono ?_); rintro e W1 ⟨v0, rfl, hs, hb⟩; replace B := ah (aH B.out B.out.size hb); replace HV := ah (HV.out.below hb); replace X := ah (X.out.below hb); replace hx := fun i => X.out.cell i; replace zx := fun i => aG X.out i; replace Y := ah (Y.out.below hb); replace hy := fun i => Y.out.cell i; replace zy := fun i => aG Y.out i; have S0 := ah hs; clear P0 hs hb) | (go_at_call 90; (with_reducible refine (P1.out _ _ HV.out).mono ?_); rintro e W2 ⟨v1, rfl, hs, hb⟩; replace B := ah (aH B.out B.out.size hb); replace HV := ah (HV.out.below hb); replace S0 := ah (S0.out.below hb); replace X := ah (X.out.below hb); replace hx := fun i => X.out.cell i; replace zx := fun i => aG X.out i; replace Y := ah (Y.out.below hb); replace hy := fun i => Y.out.cell i; replace zy := fun i => aG Y.out i; have S1 := ah hs; clear P1 hs hb) | (go_at_call 79; (with_reducible refine (WR.out _).mono ?_); rintro e W3 ⟨rfl, hb⟩; replace B := ah (aH B.out B.out.size hb); replace HV := ah (HV.out.below hb); replace S0 := ah (S0.out.below hb); replace S1 := ah (S1.out.below hb); replace X := ah (X.out.below hb); replace hx := fun i => X.out.cell i; replace zx := fun i => aG X.out i; replace Y := ah (Y.out.below hb); replace hy := fun i => Y.out.cell i; replace zy := fun i => aG Y.out i; clear  hb) | (go_at_call 91; (with_reducible refine (Q0.out _ _ S0.out Y.out.Rz).mono ?_); rintro e W4 ⟨u0, rfl, hs, hb⟩; replace B := ah (aH B.out B.out.size hb); replace HV := ah (HV.out.below hb); replace S0 := ah (S0.out.below hb); replace S1 := ah (S1.out.below hb); replace X := ah (X.out.below hb); replace hx := fun i => X.out.cell i; replace zx := fun i => aG X.out i; replace Y := ah (Y.out.below hb); replace hy := fun i => Y.out.cell i; replace zy := fun i => aG Y.out i; have U0 := ah hs; clear Q0 hs hb) | (go_at_call 91; (with_reducible refine (Q1.out _ _ S1.out Y.out.Rz).mono ?_); rintro e W5 ⟨u1, rfl, hs, hb⟩; replace B := ah (aH B.out B.out.size hb); replace HV := ah (HV.out.below hb); replace S0 := ah (S0.out.below hb); replace S1 := ah (S1.out.below hb); replace U0 := ah (U0.out.below hb); replace X := ah (X.out.below hb); replace hx := fun i => X.out.cell i; replace zx := fun i => aG X.out i; replace Y := ah (Y.out.below hb); replace hy := fun i => Y.out.cell i; replace zy := fun i => aG Y.out i; have U1 := ah hs; clear Q1 hs hb))
    refine bodyPost_ret (gQ rfl _ _ (w.heap.size + 1) 55 #[.int .i64 0, .int .u64 0, .int .u64 0, .int .u64 0, .int .u64 0, .slice none 0 0, .slice none 0 0, .slice none 0 0, .slice none 0 0] (0, 0) _ rfl (nine Y.out _ _ _ _ _ _ _ _ _) Try.underlying55 rfl (by kernel_rfl)) rfl ?_
    exact ⟨_, rfl, GF.empty _ _, jd B.out (by omega) _ _ _ _ _ _ _ _ _⟩
  | some n =>
  rw [show lJ dd (lT h).2.1 = (n, true) from by unfold lJ; rw [hB]] at q1 ok1
  simp only at q0 q1 ok0 ok1 ⊢
  have h1 := GL p (by have := ok0.2; omega)
  have h2 := GL n (by have := ok1.2; omega)
  have hm := fun w v vp vn => V4 (Q8 h tt) hwl _ _ (IY ok0.1) (IY ok1.1) w v vp vn
  generalize GN (Q8 h tt) (AU p) (AU n) = mr at *
  obtain ⟨mh, me⟩ := mr
  simp only at hm ⊢
  have Q0 := ah q0
  have Q1 := ah q1
  have H1 := ah h1
  have H2 := ah h2
  have HM := ah hm
  clear q0 q1 ok0 ok1 Oq Ot hwl ht c1 h1 h2 hm hdd hA hB
  have X := ah ((qU.new w #[.int .i64 h.f0, .int .u64 h.f1, .int .u64 h.f2, .int .u64 h.f3, .int .u64 h.f4, .slice A5 h.f5.length c5, .slice A6 h.f6.length c6, .slice A7 h.f7.length c7, .slice A8 h.f8.length c8] 55).alloc (.cells #[.int .i64 0, .int .u64 0, .int .u64 0, .int .u64 0, .int .u64 0, .slice none 0 0, .slice none 0 0, .slice none 0 0, .slice none 0 0] 55)); have hx := fun i => X.out.cell i; have zx := fun i => aG X.out i
  have Y := ah (qU.Ua (w := w) (.cells #[.int .i64 h.f0, .int .u64 h.f1, .int .u64 h.f2, .int .u64 h.f3, .int .u64 h.f4, .slice A5 h.f5.length c5, .slice A6 h.f6.length c6, .slice A7 h.f7.length c7, .slice A8 h.f8.length c8] 55) #[.int .i64 0, .int .u64 0, .int .u64 0, .int .u64 0, .int .u64 0, .slice none 0 0, .slice none 0 0, .slice none 0 0, .slice none 0 0] 55); have hy := fun i => Y.out.cell i; have zy := fun i => aG Y.out i
  have B := ah (ak (ak (Below.refl w.heap.size w) (.cells #[.int .i64 h.f0, .int .u64 h.f1, .int .u64 h.f2, .int .u64 h.f3, .int .u64 h.f4, .slice A5 h.f5.length c5, .slice A6 h.f6.length c6, .slice A7 h.f7.length c7, .slice A8 h.f8.length c8] 55)) (.cells #[.int .i64 0, .int .u64 0, .int .u64 0, .int .u64 0, .int .u64 0, .slice none 0 0, .slice none 0 0, .slice none 0 0, .slice none 0 0] 55))
  replace HV := ah ((HV.out.below (ak (Below.refl _ _) (.cells #[.int .i64 h.f0, .int .u64 h.f1, .int .u64 h.f2, .int .u64 h.f3, .int .u64 h.f4, .slice A5 h.f5.length c5, .slice A6 h.f6.length c6, .slice A7 h.f7.length c7, .slice A8 h.f8.length c8] 55))).below (ak (Below.refl _ _) (.cells #[.int .i64 0, .int .u64 0, .int .u64 0, .int .u64 0, .int .u64 0, .slice none 0 0, .slice none 0 0, .slice none 0 0, .slice none 0 0] 55)))
  go_enter Try.func33, Try.ntmps33
  go_upto_region 12 with (first | (go_at_call 90; (with_reducible refine (P0.out _ _ HV.out).mono ?_); rintro e W1 ⟨v0, rfl, hs, hb⟩; replace B := ah (aH B.out B.out.size hb); replace HV := ah (HV.out.below hb); replace X := ah (X.out.below hb); replace hx := fun i => X.out.cell i; replace zx := fun i => aG X.out i; replace Y := ah (Y.out.below hb); replace hy := fun i => Y.out.cell i; replace zy := fun i => aG Y.out i; have S0 := ah hs; clear P0 hs hb) | (go_at_call 90; (with_reducible refine (P1.out _ _ HV.out).mono ?_); rintro e W2 ⟨v1, rfl, hs, hb⟩; replace B := ah (aH B.out B.out.size hb); replace HV := ah (HV.out.below hb); replace S0 := ah (S0.out.below hb); replace X := ah (X.out.below hb); replace hx := fun i => X.out.cell i; replace zx := fun i => aG X.out i; replace Y := ah (Y.out.below hb); replace hy := fun i => Y.out.cell i; replace zy := fun i => aG Y.out i; have S1 := ah hs; clear P1 hs hb) | (go_at_call 79; (with_reducible refine (WR.out _).mono ?_); rintro e W3 ⟨rfl, hb⟩; replace B := ah (aH B.out B.out.size hb); replace HV := ah (HV.out.below hb); replace S0 := ah (S0.out.below hb); replace S1 := ah (S1.out.below hb); replace X := ah (X.out.below hb); replace hx := fun i => X.out.cell i; replace zx := fun i => aG X.out i; replace Y := ah (Y.out.below hb); replace hy := fun i => Y.out.cell i; replace zy := fun i => aG Y.out i; clear  hb) | (go_at_call 91; (with_reducible refine (Q0.out _ _ S0.out Y.out.Rz).mono ?_); rintro e W4 ⟨u0, rfl, hs, hb⟩; replace B := ah (aH B.out B.out.size hb); replace HV := ah (HV.out.below hb); replace S0 := ah (S0.out.below hb); replace S1 := ah (S1.out.below hb); replace X := ah (X.out.below hb); replace hx := fun i => X.out.cell i; replace zx := fun i => aG X.out i; replace Y := ah (Y.out.below hb); replace hy := fun i => Y.out.cell i; replace zy := fun i => aG Y.out i; have U0 := ah hs; clear Q0 hs hb) | (go_at_call 91; (with_reducible refine (Q1.out _ _ S1.out Y.out.Rz).mono ?_); rintro e W5 ⟨u1, rfl, hs, hb⟩; replace B := ah (aH B.out B.out.size hb); replace HV := ah (HV.out.below hb); replace S0 := ah (S0.out.below hb); replace S1 := ah (S1.out.below hb); replace U0 := ah (U0.out.below hb); replace X := ah (X.out.below hb); replace hx := fun i => X.out.cell i; replace zx := fun i => aG X.out i; replace Y := ah (Y.out.below hb); replace hy := fun i => Y.out.cell i; replace zy := fun i => aG Y.out i; have U1 := ah hs; clear Q1 hs hb))
  have hW2 := kL Y.out
  have HX0 := bC X.out 0 (.int .i64 tt) rfl
  have HY0 := Ea Y.out (show w.heap.size + 1 ≠ w.heap.size by omega) 0 (.int .i64 tt)
  have HB0 := B.out.setCell (p := ⟨w.heap.size, 0, none⟩) (Nat.le_refl _) (.int .i64 tt)
  have HO0 := And.intro ((U0.out.step (KA.set _ (by omega : w.heap.size < w.heap.size + 1 + 1) (i := 0) (.int .i64 tt))).now) ((U1.out.step (KA.set _ (by omega : w.heap.size < w.heap.size + 1 + 1) (i := 0) (.int .i64 tt))).now)
  clear hx zx hy zy X Y B HV S0 S1 U0 U1
  generalize (World.setCell _ ⟨w.heap.size, 0, none⟩ (.int .i64 tt)) = w1 at *
  have oN := ah HX0
  have qg := ah HY0
  have HB := ah HB0
  have HO := ah HO0
  have HVL := ah (show GI w1 (.agg #[.int .i64 tt, .int .u64 h.f1, .int .u64 h.f2, .int .u64 h.f3, .int .u64 h.f4, .slice A5 h.f5.length c5, .slice A6 h.f6.length c6, .slice A7 h.f7.length c7, .slice A8 h.f8.length c8]) (Q8 h tt) from GI.mk (h := Q8 h tt) (s5.below HB0) (s6.below HB0) (s7.below HB0) (s8.below HB0))
  clear HX0 HY0 HB0 HO0 s5 s6 s7 s8
  have hfx := fun i => ay oN.out i; have hzx := fun i => aG oN.out i; have hfy := fun i => ay qg.out i; have hzy := fun i => aG qg.out i
  go_region_with (first | (go_at_call 94; (with_reducible refine (H1.out _ u0 (HO.out.1.below (ig (Below.refl _ _)))).mono ?_); rintro e w2 ⟨vp, rfl, hs, hb⟩; have HS2 := ah hs; have HB2 := ah (aH (ig (Below.refl w1.heap.size w1)) (Nat.le_refl _) hb); have hX2 := fun i => ay (bG oN.out HB2.out) i; have hY2 := fun i => ay (bG qg.out HB2.out) i; have hZ2 := fun i => aG (bG qg.out HB2.out) i; clear hs hb) | (go_at_call 94; (with_reducible refine (H2.out _ u1 (HO.out.2.below (ig (Below.refl _ _)))).mono ?_); rintro e w3 ⟨vn, rfl, hs, hb⟩; have HS3 := ah hs; have HB3 := ah (aH (ig (Below.refl w1.heap.size w1)) (Nat.le_refl _) hb); have hX3 := fun i => ay (bG oN.out HB3.out) i; have hY3 := fun i => ay (bG qg.out HB3.out) i; have hZ3 := fun i => aG (bG qg.out HB3.out) i; clear hs hb) | (go_at_call 94; (with_reducible refine (H2.out w2 u1 (HO.out.2.below HB2.out)).mono ?_); rintro e w4 ⟨vn, rfl, hs, hb⟩; have Ym := ah (And.intro (HS2.out.below hb) hs); have HB4 := ah (aH HB2.out HB2.out.size hb); have hX4 := fun i => ay (bG oN.out HB4.out) i; have hY4 := fun i => ay (bG qg.out HB4.out) i; have hZ4 := fun i => aG (bG qg.out HB4.out) i; clear hs hb) | (go_at_call 94; (with_reducible refine (H1.out w3 u0 (HO.out.1.below HB3.out)).mono ?_); rintro e w4 ⟨vp, rfl, hs, hb⟩; have Ym := ah (And.intro hs (HS3.out.below hb)); have HB4 := ah (aH HB3.out HB3.out.size hb); have hX4 := fun i => ay (bG oN.out HB4.out) i; have hY4 := fun i => ay (bG qg.out HB4.out) i; have hZ4 := fun i => aG (bG qg.out HB4.out) i; clear hs hb) | (go_at_call 93; (with_reducible refine (HM.out w4 _ vp vn (HVL.out.below HB4.out) Ym.out.1 Ym.out.2).mono ?_); rintro e w5 ⟨v5, rfl, hs, hb⟩; have LW := ah (aH (aH HB.out HB.out.size HB4.out) (aH HB.out HB.out.size HB4.out).size hb); have HI5 := ah hs; obtain ⟨D5, g5, D6, g6, D7, g7, D8, g8, e5⟩ := hs.open_; subst e5; have hX5 := fun i => ay (bG (bG oN.out HB4.out) hb) i; have F7 := ah (bG (bG qg.out HB4.out) hb); have hY5 := fun i => ay F7.out i; have hZ5 := fun i => aG F7.out i; clear hs hb))
  all_goals (go_wp2; have hsz := kL qg.out; have adK := HB4.out.size; refine bodyPost_ret (gQ rfl _ _ (w.heap.size + 1) 55 #[.int .i64 mh.f0, .int .u64 mh.f1, .int .u64 mh.f2, .int .u64 mh.f3, .int .u64 mh.f4, .slice D5 mh.f5.length g5, .slice D6 mh.f6.length g6, .slice D7 mh.f7.length g7, .slice D8 mh.f8.length g8] (0, 0) _ rfl (nine F7.out _ _ _ _ _ _ _ _ _) Try.underlying55 rfl (by kernel_rfl)) rfl ?_; exact ⟨_, rfl, (HI5.out.step (rV (KA.refl _ _) (by omega) _ _ _ _ _ _ _ _ _)).lower (by omega), jd LW.out (by omega) _ _ _ _ _ _ _ _ _⟩)
attribute [local go_sem] jh ji jR jS iI iJ jk jl
def scale_many.l0 : Nat → Int → Int → Int → List (gy) → Int → Int → Option (Int)
 | 0, _, _, _, _, _, _ => none
 | k + 1, x1, x5, x6, x10, x11, x12 => if x12 < x11 then (if 0 ≤ x12 then (if x12 < (x10.length : Int) then ((scale_Place.f k ((aZ x10 x12).f0) x1).bind fun eG => (if x5 = 0 then (scale_many.l0 k x1 (wrap64 (x5 + 1)) eG x10 x11 (wrap64 (x12 + 1))) else (if eG = x6 then (scale_many.l0 k x1 x5 x6 x10 x11 (wrap64 (x12 + 1))) else (scale_many.l0 k x1 (wrap64 (x5 + 1)) eG x10 x11 (wrap64 (x12 + 1)))))) else (none)) else (none)) else (some x5)
def scale_many.f (k : Nat) (l0 : List (gy)) (a1 : Int) : Option (Int) := scale_many.l0 k a1 0 0 l0 (l0.length : Int) 0
set_option maxHeartbeats 8000000 in
set_option maxRecDepth 100000 in
theorem scale_many.calls (k : Nat) (A0 : Option Addr) (c0 : Nat) (l0 : List (gy)) (a1 : Int) (r : Int) (w : World) (hr0 : Kd.C jI w A0 l0.length l0) (hc0 : l0.length ≤ c0) (h : scale_many.f k l0 a1 = some r) :
  Calls Try.prog 100 #[.slice A0 l0.length c0, .int .i64 a1] w fun e w' => e = .returned (.int .i64 r) ∧ Below w.heap.size w w' := by
 have Tv := Try.underlying173
 have HR0 := ah hr0
 have tK := ah hc0
 clear hr0 hc0
 have HB := ah (Below.refl w.heap.size w)
 have H : (scale_many.l0 k a1 0 0 l0 (l0.length : Int) 0) = some r := h
 clear h
 have H' := ah H
 clear H
 go_enter Try.func100, Try.ntmps100
 go_wp2
 go_loopg [5, 6, 12] k (fun kq v5 v6 v12 w' => ∃ (bF : Int) (fH : Int) (dB : Int), v5 = .int .i64 bF ∧ v6 = .int .i64 fH ∧ v12 = .int .i64 dB ∧ aj (scale_many.l0 kq a1 bF fH l0 (l0.length : Int) dB = some r) ∧ aj (kq ≤ k) ∧ aj (Below w.heap.size w w'))
 case atStart => exact ⟨(0), (0), (0), (by first | rfl | (simp; done) | (simp [*]; done)), (by first | rfl | (simp; done) | (simp [*]; done)), (by first | rfl | (simp; done) | (simp [*]; done)), H', ⟨Nat.le_refl _⟩, ⟨by repeat (first | (with_reducible first | exact HB.out | apply ak | apply au | apply aC) | exact HB.out)⟩⟩
 case round =>
  clear H'
  try clear c1
  try clear p2
  obtain ⟨bF, fH, dB, rfl, rfl, rfl, HA, jf, HB⟩ := hrel
  cases gk with
  | zero => exact absurd HA.out (by simp [scale_many.l0])
  | succ k1 =>
   have H := HA.out
   clear HA
   simp only [scale_many.l0] at H
   by_cases c3 : dB < (l0.length : Int)
   ·rw [if_pos c3] at H
    have c3b0 : decide (dB < (l0.length : Int)) = true := aiJ c3
    clear c3
    by_cases c4 : 0 ≤ dB
    ·rw [if_pos c4] at H
     have c4b0 : decide (0 ≤ dB) = true := aiJ c4
     clear c4
     by_cases c5 : dB < (l0.length : Int)
     ·rw [if_pos c5] at H
      have c5b0 : decide (dB < (l0.length : Int)) = true := aiJ c5
      clear c5
      replace H := Option.bind_eq_some_iff.mp H
      obtain ⟨eG, Pq, H⟩ := H
      replace H : (if bF = 0 then (scale_many.l0 k1 a1 (wrap64 (bF + 1)) eG l0 (l0.length : Int) (wrap64 (dB + 1))) else (if eG = fH then (scale_many.l0 k1 a1 bF fH l0 (l0.length : Int) (wrap64 (dB + 1))) else (scale_many.l0 k1 a1 (wrap64 (bF + 1)) eG l0 (l0.length : Int) (wrap64 (dB + 1))))) = some r := H
      have A6 := ah Pq
      clear Pq
      by_cases c7 : bF = 0
      ·rw [if_pos c7] at H
       have c7b0 : (bF == 0) = true := beq_iff_eq.mpr c7
       have c7b1 : (bF != 0) = false := bne_eq_false_iff_eq.mpr c7
       clear c7
       have H' := ah H
       clear H
       have eX : 0 ≤ (dB : Int) := aiI (by assumption)
       have eY : dB < (l0.length : Int) := aiI (by assumption)
       obtain ⟨jU, jK, bP, dS⟩ := qA HR0.out dB eX eY
       cases jK
       replace bP := (HB.out.cell (World.block_lt_of_cell? w _ bP)).trans bP
       replace dS := (HB.out.cell (World.block_lt_of_cell? w _ dS)).trans dS
       replace eX := eq_true eX
       replace eY := eq_true eY
       go_wp2_with (first | ((with_reducible refine fJ (N := 8) rfl ?_); refine eU ?hg (N := 8) ?hd (cs := #[.int .i64 0, .int .i64 0]) (t := 173) ?hr ?_; (case hd => rfl); (case hg => rfl); (case hr => first | (go_simp; done) | (go_simp; rfl)); intro aJ hg w8 hbox hb; have aN := ah (hbox); have oM := ah ((by rw [hg]; exact (aI (aX HB.out)) : w.heap.size ≤ aJ)); have bT := ah ((by rw [hg]; exact (aI (aX HB.out)) : w.heap.size ≤ aJ)); replace HB := ah (aW (aX HB.out) hb); clear hb hbox hg; have sS := ay aN.out; have sU := aG aN.out) | ((with_reducible refine bH (f := 77) rfl ?_); refine pV (some 19) rfl rfl Try.func77 (by kernel_rfl) rfl #[.int .i64 ((aZ l0 dB).f0), .int .i64 a1] rfl (by (try simp only [List.map_toArray, List.map_cons, List.map_nil]); first | done | rfl | (simp only [List.length_drop, List.length_take]; rfl)) ?_; (with_reducible refine (scale_Place.calls k1 ((aZ l0 dB).f0) a1 eG _ A6.out).mono ?_); rintro e w' ⟨rfl, ⟨nd, rfl⟩⟩; refine ⟨_, rfl, ?_⟩; clear A6))
       go_roundg k1
       case measure => have := jf.out; omega
       case rel => exact ⟨(wrap64 (bF + 1)), (eG), (wrap64 (dB + 1)), (by first | rfl | (simp; done) | (simp [*]; done)), (by first | rfl | (simp; done) | (simp [*]; done)), (by first | rfl | (simp; done) | (simp [*]; done)), H', ⟨by have := jf.out; omega⟩, ⟨by repeat (first | (with_reducible first | exact HB.out | apply ak | apply au | apply aC | refine aA ?_ bT.out) | exact HB.out)⟩⟩
      rw [if_neg c7] at H
      have c7b0 : (bF == 0) = false := beq_eq_false_iff_ne.mpr c7
      have c7b1 : (bF != 0) = true := bne_iff_ne.mpr c7
      by_cases c10 : eG = fH
      ·rw [if_pos c10] at H
       have c10b0 : (eG == fH) = true := beq_iff_eq.mpr c10
       have c10b1 : (eG != fH) = false := bne_eq_false_iff_eq.mpr c10
       clear c10
       have H' := ah H
       clear H
       have eX : 0 ≤ (dB : Int) := aiI (by assumption)
       have eY : dB < (l0.length : Int) := aiI (by assumption)
       obtain ⟨jU, jK, bP, dS⟩ := qA HR0.out dB eX eY
       cases jK
       replace bP := (HB.out.cell (World.block_lt_of_cell? w _ bP)).trans bP
       replace dS := (HB.out.cell (World.block_lt_of_cell? w _ dS)).trans dS
       replace eX := eq_true eX
       replace eY := eq_true eY
       go_wp2_with (first | ((with_reducible refine fJ (N := 8) rfl ?_); refine eU ?hg (N := 8) ?hd (cs := #[.int .i64 0, .int .i64 0]) (t := 173) ?hr ?_; (case hd => rfl); (case hg => rfl); (case hr => first | (go_simp; done) | (go_simp; rfl)); intro aJ hg VE hbox hb; have aN := ah (hbox); have oM := ah ((by rw [hg]; exact (aI (aX HB.out)) : w.heap.size ≤ aJ)); have bT := ah ((by rw [hg]; exact (aI (aX HB.out)) : w.heap.size ≤ aJ)); replace HB := ah (aW (aX HB.out) hb); clear hb hbox hg; have VO := ay aN.out; have VP := aG aN.out) | ((with_reducible refine bH (f := 77) rfl ?_); refine pV (some 19) rfl rfl Try.func77 (by kernel_rfl) rfl #[.int .i64 ((aZ l0 dB).f0), .int .i64 a1] rfl (by (try simp only [List.map_toArray, List.map_cons, List.map_nil]); first | done | rfl | (simp only [List.length_drop, List.length_take]; rfl)) ?_; (with_reducible refine (scale_Place.calls k1 ((aZ l0 dB).f0) a1 eG _ A6.out).mono ?_); rintro e w' ⟨rfl, ⟨nd, rfl⟩⟩; refine ⟨_, rfl, ?_⟩; clear A6))
       go_roundg k1
       case measure => have := jf.out; omega
       case rel => exact ⟨(bF), (fH), (wrap64 (dB + 1)), (by first | rfl | (simp; done) | (simp [*]; done)), (by first | rfl | (simp; done) | (simp [*]; done)), (by first | rfl | (simp; done) | (simp [*]; done)), H', ⟨by have := jf.out; omega⟩, ⟨by repeat (first | (with_reducible first | exact HB.out | apply ak | apply au | apply aC | refine aA ?_ bT.out) | exact HB.out)⟩⟩
      rw [if_neg c10] at H
      have c10b0 : (eG == fH) = false := beq_eq_false_iff_ne.mpr c10
      have c10b1 : (eG != fH) = true := bne_iff_ne.mpr c10
      have H' := ah H
      clear H
      have eX : 0 ≤ (dB : Int) := aiI (by assumption)
      have eY : dB < (l0.length : Int) := aiI (by assumption)
      obtain ⟨jU, jK, bP, dS⟩ := qA HR0.out dB eX eY
      cases jK
      replace bP := (HB.out.cell (World.block_lt_of_cell? w _ bP)).trans bP
      replace dS := (HB.out.cell (World.block_lt_of_cell? w _ dS)).trans dS
      replace eX := eq_true eX
      replace eY := eq_true eY
      go_wp2_with (first | ((with_reducible refine fJ (N := 8) rfl ?_); refine eU ?hg (N := 8) ?hd (cs := #[.int .i64 0, .int .i64 0]) (t := 173) ?hr ?_; (case hd => rfl); (case hg => rfl); (case hr => first | (go_simp; done) | (go_simp; rfl)); intro aJ hg QA hbox hb; have aN := ah (hbox); have oM := ah ((by rw [hg]; exact (aI (aX HB.out)) : w.heap.size ≤ aJ)); have bT := ah ((by rw [hg]; exact (aI (aX HB.out)) : w.heap.size ≤ aJ)); replace HB := ah (aW (aX HB.out) hb); clear hb hbox hg; have zQ := ay aN.out; have zS := aG aN.out) | ((with_reducible refine bH (f := 77) rfl ?_); refine pV (some 19) rfl rfl Try.func77 (by kernel_rfl) rfl #[.int .i64 ((aZ l0 dB).f0), .int .i64 a1] rfl (by (try simp only [List.map_toArray, List.map_cons, List.map_nil]); first | done | rfl | (simp only [List.length_drop, List.length_take]; rfl)) ?_; (with_reducible refine (scale_Place.calls k1 ((aZ l0 dB).f0) a1 eG _ A6.out).mono ?_); rintro e w' ⟨rfl, ⟨nd, rfl⟩⟩; refine ⟨_, rfl, ?_⟩; clear A6))
      go_roundg k1
      case measure => have := jf.out; omega
      case rel => exact ⟨(wrap64 (bF + 1)), (eG), (wrap64 (dB + 1)), (by first | rfl | (simp; done) | (simp [*]; done)), (by first | rfl | (simp; done) | (simp [*]; done)), (by first | rfl | (simp; done) | (simp [*]; done)), H', ⟨by have := jf.out; omega⟩, ⟨by repeat (first | (with_reducible first | exact HB.out | apply ak | apply au | apply aC | refine aA ?_ bT.out) | exact HB.out)⟩⟩
     rw [if_neg c5] at H
     exact absurd H (by simp)
    rw [if_neg c4] at H
    exact absurd H (by simp)
   rw [if_neg c3] at H
   have c3b0 : decide (dB < (l0.length : Int)) = false := aiK c3
   clear c3
   obtain rfl := Option.some.inj H
   go_wp2
   go_ret
   exact ⟨by first | rfl | (simp [aT, aU] <;> rfl) | (simp [*, aT, aU] <;> rfl), by repeat (first | (with_reducible first | exact HB.out | apply ak | apply au | apply aC) | exact HB.out)⟩
end Go.Proofs.Ytooiccpmngmapaa.P