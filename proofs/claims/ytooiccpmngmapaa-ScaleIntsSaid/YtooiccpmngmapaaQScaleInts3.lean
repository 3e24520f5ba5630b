/- ScaleInts: the part that this text bears of the proof that the statement answers true for every input. No condition. -/
import Derived.Test.YtooiccpmngmapaaQScaleInts2
import Derived.Outline
import Derived.Laws.Tables
import Derived.Deep.WholeRow
import Derived.Laws.CopyOwn
import Derived.Laws.ResultCell
set_option linter.unusedVariables false
set_option linter.unusedSimpArgs false
namespace Go.Proofs.Ytooiccpmngmapaa.P
open Go.RowKit Go.Proofs.YtooiccpmngmapaaW.PrintWords Go.Proofs.YtooiccpmngmapaaW.PrintLast Go.Proofs.YtooiccpmngmapaaW.PrintMore
attribute [local go_sem] jh ji jR jS iI iJ jk jl
mutual
def scale_widen_int64.l0 : Nat → Int → List (gy) → List (gy) → Int → Int → Option ((List (gy)) × Bool)
 | 0, _, _, _, _, _ => none
 | k + 1, x1, x8, x15, x16, x17 => if x17 < x16 then (if 0 ≤ x17 then (if x17 < (x15.length : Int) then ((scale_Place.f k ((aZ x15 x17).f0) x1).bind fun eG => (if (x8.length : Int) > 0 then (if 0 ≤ (wrap64 ((x8.length : Int) - 1)) then (if (wrap64 ((x8.length : Int) - 1)) < (x8.length : Int) then (scale_widen_int64.j1 k x1 x8 eG (x8.length : Int) x15 x16 x17 (((aZ x8 (wrap64 ((x8.length : Int) - 1))).f0) == eG) ((aZ x15 x17).f0) ((aZ x15 x17).f1)) else (none)) else (none)) else (scale_widen_int64.j1 k x1 x8 eG (x8.length : Int) x15 x16 x17 false ((aZ x15 x17).f0) ((aZ x15 x17).f1)))) else (none)) else (none)) else (some (x8, true))
def scale_widen_int64.j1 : Nat → Int → List (gy) → Int → Int → List (gy) → Int → Int → Bool → Int → Int → Option ((List (gy)) × Bool)
 | 0, _, _, _, _, _, _, _, _, _, _ => none
 | k + 1, x1, x8, x11, x12, x15, x16, x17, x38, lZ, lI => if x38 = true then (if 0 ≤ (wrap64 (x12 - 1)) then (if (wrap64 (x12 - 1)) < (x8.length : Int) then ((scale_whole.f ((aZ x8 (wrap64 (x12 - 1))).f1) lI).bind fun oq => (if oq.2 = true then (scale_widen_int64.l0 k x1 (x8.set ((wrap64 (x12 - 1)) : Int).toNat (⟨(aZ x8 (wrap64 (x12 - 1))).f0, oq.1⟩ : gy)) x15 x16 (wrap64 (x17 + 1))) else (some (([] : List (gy)), false)))) else (none)) else (none)) else (if x8.length < 8796093022208 then (scale_widen_int64.l0 k x1 (x8 ++ [(⟨x11, lI⟩ : gy)]) x15 x16 (wrap64 (x17 + 1))) else (none))
end
def scale_widen_int64.f (k : Nat) (l0 : List (gy)) (a1 : Int) : Option ((List (gy)) × Bool) := scale_widen_int64.l0 k a1 ([] : List (gy)) l0 (l0.length : Int) 0
set_option maxHeartbeats 8000000 in
set_option maxRecDepth 100000 in
theorem scale_widen_int64.calls (k : Nat) (A0 : Option Addr) (c0 : Nat) (l0 : List (gy)) (a1 : Int) (r1 : List (gy)) (r2 : Bool) (w : World) (hr0 : Kd.C jI w A0 l0.length l0) (hc0 : l0.length ≤ c0) (h : scale_widen_int64.f k l0 a1 = some (r1, r2)) :
  Calls Try.prog 80 #[.slice A0 l0.length c0, .int .i64 a1, .func (.func 81) #[] #[]] w fun e w' => ∃ lY : Value, e = .returned (.tuple #[lY, .bool r2]) ∧ Kd.R jI 173 w' w.heap.size (fun _ => True) lY r1 ∧ Below w.heap.size w w' := by
 have Tv := Try.underlying173
 have HR0 := ah hr0
 have tK := ah hc0
 clear hr0 hc0
 have HB := ah (Below.refl w.heap.size w)
 have H : (scale_widen_int64.l0 k a1 ([] : List (gy)) l0 (l0.length : Int) 0) = some (r1, r2) := h
 clear h
 have H' := ah H
 clear H
 go_enter Try.func80, Try.ntmps80
 go_wp2
 repeat (go_quiet (fail); try go_wp2)
 go_loopg [8, 17] k (fun kq v8 v17 w' => ∃ (bK : List (gy)) (bU : Int), v17 = .int .i64 bU ∧ aj (scale_widen_int64.l0 kq a1 bK l0 (l0.length : Int) bU = some (r1, r2)) ∧ aj (kq ≤ k) ∧ aj (Kd.R jI 173 w' w.heap.size (fun _ => True) v8 bK) ∧ aj (Below w.heap.size w w'))
 case atStart => exact ⟨(([] : List (gy))), (0), (by first | rfl | (simp; done) | (simp [*]; done)), H', ⟨Nat.le_refl _⟩, ⟨by first | exact Kd.dY _ _ _ _ _ | exact Kd.gI _ _ _ _ _ | exact Kd.gJ _ _ _ _ _ | exact Kd.gB _ _ _ _ _ | exact Kd.gG _ _ _ _ _⟩, ⟨by repeat (first | (with_reducible first | exact HB.out | apply ak | apply au | apply aC) | exact HB.out)⟩⟩
 case round =>
  clear H'
  try clear p2
  obtain ⟨bK, bU, rfl, HA, jf, HO_8, HB⟩ := hrel
  cases gk with
  | zero => exact absurd HA.out (by simp [scale_widen_int64.l0])
  | succ k1 =>
   have H := HA.out
   clear HA
   simp only [scale_widen_int64.l0] at H
   by_cases c4 : bU < (l0.length : Int)
   ·rw [if_pos c4] at H
    have c4b0 : decide (bU < (l0.length : Int)) = true := aiJ c4
    clear c4
    by_cases c5 : 0 ≤ bU
    ·rw [if_pos c5] at H
     have c5b0 : decide (0 ≤ bU) = true := aiJ c5
     clear c5
     by_cases c6 : bU < (l0.length : Int)
     ·rw [if_pos c6] at H
      have c6b0 : decide (bU < (l0.length : Int)) = true := aiJ c6
      clear c6
      replace H := Option.bind_eq_some_iff.mp H
      obtain ⟨eG, PO, H⟩ := H
      replace H : (if (bK.length : Int) > 0 then (if 0 ≤ (wrap64 ((bK.length : Int) - 1)) then (if (wrap64 ((bK.length : Int) - 1)) < (bK.length : Int) then (scale_widen_int64.j1 k1 a1 bK eG (bK.length : Int) l0 (l0.length : Int) bU (((aZ bK (wrap64 ((bK.length : Int) - 1))).f0) == eG) ((aZ l0 bU).f0) ((aZ l0 bU).f1)) else (none)) else (none)) else (scale_widen_int64.j1 k1 a1 bK eG (bK.length : Int) l0 (l0.length : Int) bU false ((aZ l0 bU).f0) ((aZ l0 bU).f1))) = some (r1, r2) := H
      have A7 := ah PO
      clear PO
      have TW := ah H
      clear H
      have eX : 0 ≤ (bU : Int) := aiI (by assumption)
      have eY : bU < (l0.length : Int) := aiI (by assumption)
      obtain ⟨jU, jK, bP, dS⟩ := qA HR0.out bU eX eY
      cases jK
      replace bP := (HB.out.cell (World.block_lt_of_cell? w _ bP)).trans bP
      replace dS := (HB.out.cell (World.block_lt_of_cell? w _ dS)).trans dS
      replace eX := eq_true eX
      replace eY := eq_true eY
      go_upto_region 7 with (first | ((with_reducible refine fJ (N := 10) rfl ?_); refine eU ?hg (N := 10) ?hd (cs := #[.int .i64 0, .int .i64 0]) (t := 173) ?hr ?_; (case hd => rfl); (case hg => rfl); (case hr => first | (go_simp; done) | (go_simp; rfl)); intro aJ hg w9 hbox hb; have aN := ah (hbox); have oM := ah ((by rw [hg]; exact (aI (aX HB.out)) : w.heap.size ≤ aJ)); have bT := ah ((by rw [hg]; exact (aI (aX HB.out)) : w.heap.size ≤ aJ)); replace HO_8 := ah (Kd.fC (Kd.wB (Kd.fB HO_8.out) aJ (Nat.le_of_eq hg.symm)) hb); replace HB := ah (aW (aX HB.out) hb); clear hb hbox hg; have vH := ay aN.out; have vI := aG aN.out) | (go_at_call 77; (with_reducible refine (scale_Place.calls k1 ((aZ l0 bU).f0) a1 eG _ A7.out).mono ?_); rintro e w' ⟨rfl, ⟨nd, rfl⟩⟩; (try first | exact ⟨rfl, _, World.drewN_drewN _ _ _⟩ | exact ⟨rfl, _, Eq.trans (World.drewN_drewN _ _ _) (congrArg (World.drewN _) (Nat.add_assoc _ _ _))⟩); clear A7; obtain ⟨Aw, nY, Az⟩ := Kd.bY HO_8.out; subst Az))
      repeat (go_quiet (first | ((with_reducible refine fJ (N := 10) rfl ?_); refine eU ?hg (N := 10) ?hd (cs := #[.int .i64 0, .int .i64 0]) (t := 173) ?hr ?_; (case hd => rfl); (case hg => rfl); (case hr => first | (go_simp; done) | (go_simp; rfl)); intro aJ hg w9 hbox hb; have aN := ah (hbox); have oM := ah ((by rw [hg]; exact (aI (aX HB.out)) : w.heap.size ≤ aJ)); have bT := ah ((by rw [hg]; exact (aI (aX HB.out)) : w.heap.size ≤ aJ)); replace HO_8 := ah (Kd.fC (Kd.wB (Kd.fB HO_8.out) aJ (Nat.le_of_eq hg.symm)) hb); replace HB := ah (aW (aX HB.out) hb); clear hb hbox hg; have vH := ay aN.out; have vI := aG aN.out) | (go_at_call 77; (with_reducible refine (scale_Place.calls k1 ((aZ l0 bU).f0) a1 eG _ A7.out).mono ?_); rintro e w' ⟨rfl, ⟨nd, rfl⟩⟩; (try first | exact ⟨rfl, _, World.drewN_drewN _ _ _⟩ | exact ⟨rfl, _, Eq.trans (World.drewN_drewN _ _ _) (congrArg (World.drewN _) (Nat.add_assoc _ _ _))⟩); clear A7; obtain ⟨Aw, nY, Az⟩ := Kd.bY HO_8.out; subst Az)); go_upto_region 7 with (first | ((with_reducible refine fJ (N := 10) rfl ?_); refine eU ?hg (N := 10) ?hd (cs := #[.int .i64 0, .int .i64 0]) (t := 173) ?hr ?_; (case hd => rfl); (case hg => rfl); (case hr => first | (go_simp; done) | (go_simp; rfl)); intro aJ hg w9 hbox hb; have aN := ah (hbox); have oM := ah ((by rw [hg]; exact (aI (aX HB.out)) : w.heap.size ≤ aJ)); have bT := ah ((by rw [hg]; exact (aI (aX HB.out)) : w.heap.size ≤ aJ)); replace HO_8 := ah (Kd.fC (Kd.wB (Kd.fB HO_8.out) aJ (Nat.le_of_eq hg.symm)) hb); replace HB := ah (aW (aX HB.out) hb); clear hb hbox hg; have vH := ay aN.out; have vI := aG aN.out) | (go_at_call 77; (with_reducible refine (scale_Place.calls k1 ((aZ l0 bU).f0) a1 eG _ A7.out).mono ?_); rintro e w' ⟨rfl, ⟨nd, rfl⟩⟩; (try first | exact ⟨rfl, _, World.drewN_drewN _ _ _⟩ | exact ⟨rfl, _, Eq.trans (World.drewN_drewN _ _ _) (congrArg (World.drewN _) (Nat.add_assoc _ _ _))⟩); clear A7; obtain ⟨Aw, nY, Az⟩ := Kd.bY HO_8.out; subst Az)))
      (try simp only [Act.put, List.setIfInBounds_toArray, List.set_cons_zero, List.set_cons_succ])
      go_cut [38] (fun v38 wc => ∃ (kq : Nat) (Cc : Bool), v38 = .bool Cc ∧ aj (scale_widen_int64.j1 kq a1 bK eG (bK.length : Int) l0 (l0.length : Int) bU Cc ((aZ l0 bU).f0) ((aZ l0 bU).f1) = some (r1, r2)) ∧ aj (kq ≤ k1) ∧ aj (Kd.R jI 173 wc w.heap.size (fun k_ => k_ ≠ aJ) (.slice Aw bK.length nY) bK) ∧ aj (wc.heap[aJ]? = some (.cells #[.int .i64 ((aZ l0 bU).f0), .int .i64 ((aZ l0 bU).f1)] 173 (0, 0))) ∧ aj (Below w.heap.size w wc))
      case first =>
       have H := TW.out
       clear TW
       by_cases c12 : (bK.length : Int) > 0
       ·rw [if_pos c12] at H
        have c12b0 : decide (0 < (bK.length : Int)) = true := aiJ c12
        have c12b1 : decide (0 < bK.length) = true := aiJ (by omega)
        clear c12
        (first | rw [c12b0] | (simp only [dh, dF]; rw [c12b0]) | skip)
        obtain ⟨sW, Ce⟩ : ∃ j_ : Int, (wrap64 ((bK.length : Int) - 1)) = j_ := ⟨_, rfl⟩
        replace H : (if 0 ≤ (sW) then (if (sW) < (bK.length : Int) then (scale_widen_int64.j1 k1 a1 bK eG (bK.length : Int) l0 (l0.length : Int) bU (((aZ bK (sW)).f0) == eG) ((aZ l0 bU).f0) ((aZ l0 bU).f1)) else (none)) else (none)) = some (r1, r2) := by first | (rw [Ce] at H; exact H) | (simp only [Ce] at H ⊢; exact H)
        have hji13w : (IntKind.i64.wrap ((bK.length : Int) - 1)) = sW := (dh _).trans Ce
        by_cases c14 : 0 ≤ (sW)
        ·rw [if_pos c14] at H
         have c14b0 : decide (0 ≤ (sW)) = true := aiJ c14
         clear c14
         by_cases c15 : (sW) < (bK.length : Int)
         ·rw [if_pos c15] at H
          have c15b0 : decide ((sW) < (bK.length : Int)) = true := aiJ c15
          clear c15
          have H' := ah H
          clear H
          have yT : 0 ≤ ((sW) : Int) := aiI (by assumption)
          have yU : (sW) < (bK.length : Int) := aiI (by assumption)
          obtain ⟨yV, Oi, ng, oK⟩ := qA (Kd.bD HO_8.out).2.2 (sW) yT yU
          cases Oi
          have ni : yV.block ≠ aJ := Kd.Bf (by first | exact Kd.Dh HO_8.out aN.out (by decide) | exact Kd.o7 HO_8.out (fun _ hk => hk.2))
          have ny : yV.block ≠ aJ := Kd.Bf (by first | exact Kd.Dh HO_8.out aN.out (by decide) | exact Kd.o7 HO_8.out (fun _ hk => hk.2))
          replace ng := (cell_far (p := ⟨aJ, 0, none⟩) (by first | (rw [add_block]; exact ni) | (show (Addr.add _ _).block ≠ _; rw [add_block]; exact ni) | exact ni) (.int .i64 ((aZ l0 bU).f0))).trans ng
          replace oK := (cell_far (p := ⟨aJ, 0, none⟩) (by first | (rw [add_block]; exact ni) | (show (Addr.add _ _).block ≠ _; rw [add_block]; exact ni) | exact ni) (.int .i64 ((aZ l0 bU).f0))).trans oK
          replace ng := (cell_far (p := ⟨aJ, 1, none⟩) (by first | (rw [add_block]; exact ny) | (show (Addr.add _ _).block ≠ _; rw [add_block]; exact ny) | exact ny) (.int .i64 ((aZ l0 bU).f1))).trans ng
          replace oK := (cell_far (p := ⟨aJ, 1, none⟩) (by first | (rw [add_block]; exact ny) | (show (Addr.add _ _).block ≠ _; rw [add_block]; exact ny) | exact ny) (.int .i64 ((aZ l0 bU).f1))).trans oK
          (try have VT := fun (n_ : Nat) => (show ((((w9.drewN n_).setCell ⟨aJ, 0, none⟩ (.int .i64 ((aZ l0 bU).f0))).setCell ⟨aJ, 1, none⟩ (.int .i64 ((aZ l0 bU).f1)))).cell? _ = some _ from ng))
          (try have VU := fun (n_ : Nat) => (show ((((w9.drewN n_).setCell ⟨aJ, 0, none⟩ (.int .i64 ((aZ l0 bU).f0))).setCell ⟨aJ, 1, none⟩ (.int .i64 ((aZ l0 bU).f1)))).cell? _ = some _ from oK))
          clear ni
          clear ny
          replace yT := eq_true yT
          replace yU := eq_true yU
          go_wp2
          repeat (go_quiet (fail); try go_wp2)
          go_meet
          case rel => exact ⟨_, ((((aZ bK (sW)).f0) == eG)), (by first | rfl | (simp; done) | (simp only [← Ce] <;> (first | rfl | simp)) | (simp [*]; done)), H', ⟨by have := jf.out; first | omega | exact Nat.le_refl _⟩, ⟨by (repeat with_reducible refine Kd.kJ ?_); exact Kd.cu (Kd.cZ (p := ⟨aJ, 1, none⟩) (Kd.cZ (p := ⟨aJ, 0, none⟩) (Kd.cu HO_8.out (fun k_ hk => (⟨hk, hk.2⟩ : _ ∧ k_ ≠ aJ))) (fun _ hk => hk.2) (.int .i64 ((aZ l0 bU).f0))) (fun _ hk => hk.2) (.int .i64 ((aZ l0 bU).f1))) (fun _ hk => hk.1.2)⟩, ⟨by (repeat with_reducible refine bQ ?_); refine bC (cs := #[.int .i64 ((aZ l0 bU).f0), .int .i64 0]) ?_ 1 _ rfl; (repeat with_reducible refine bQ ?_); refine bC (cs := #[.int .i64 0, .int .i64 0]) ?_ 0 _ rfl; (repeat with_reducible refine bQ ?_); exact aN.out⟩, ⟨by repeat (first | (with_reducible first | exact HB.out | apply ak | apply au | apply aC | refine aA ?_ bT.out) | exact HB.out)⟩⟩
         rw [if_neg c15] at H
         exact absurd H (by simp)
        rw [if_neg c14] at H
        exact absurd H (by simp)
       rw [if_neg c12] at H
       have c12b0 : decide (0 < (bK.length : Int)) = false := aiK c12
       have c12b1 : decide (0 < bK.length) = false := aiK (by omega)
       clear c12
       (first | rw [c12b0] | (simp only [dh, dF]; rw [c12b0]) | skip)
       have H' := ah H
       clear H
       go_wp2
       repeat (go_quiet (fail); try go_wp2)
       go_meet
       case rel => exact ⟨_, (false), (by first | rfl | (simp; done) | (simp [*]; done)), H', ⟨by have := jf.out; first | omega | exact Nat.le_refl _⟩, ⟨by (repeat with_reducible refine Kd.kJ ?_); exact Kd.cu (Kd.cZ (p := ⟨aJ, 1, none⟩) (Kd.cZ (p := ⟨aJ, 0, none⟩) (Kd.cu HO_8.out (fun k_ hk => (⟨hk, hk.2⟩ : _ ∧ k_ ≠ aJ))) (fun _ hk => hk.2) (.int .i64 ((aZ l0 bU).f0))) (fun _ hk => hk.2) (.int .i64 ((aZ l0 bU).f1))) (fun _ hk => hk.1.2)⟩, ⟨by (repeat with_reducible refine bQ ?_); refine bC (cs := #[.int .i64 ((aZ l0 bU).f0), .int .i64 0]) ?_ 1 _ rfl; (repeat with_reducible refine bQ ?_); refine bC (cs := #[.int .i64 0, .int .i64 0]) ?_ 0 _ rfl; (repeat with_reducible refine bQ ?_); exact aN.out⟩, ⟨by repeat (first | (with_reducible first | exact HB.out | apply ak | apply au | apply aC | refine aA ?_ bT.out) | exact HB.out)⟩⟩
      case rest =>
       clear TW
       try clear c1
       try clear p1
       try clear q1
       try clear hx1
       try clear p2
       try clear c4
       try clear c4b0
       try clear c5
       try clear c5b0
       try clear c6
       try clear c6b0
       try clear p6
       try clear c8
       try clear p10
       try clear q10
       try clear SA
       try clear c12
       try clear c12b0
       try clear c12b1
       try clear c14
       try clear c14b0
       try clear c15
       try clear c15b0
       try clear vH
       try clear vI
       try clear bP
       try clear dS
       try clear ng
       try clear oK
       try clear eX
       try clear yT
       try clear p2
       try clear eY
       try clear yU
       obtain ⟨kq, Cc, rfl, HA, PU, HO_8, aN, HB⟩ := hcut
       cases kq with
       | zero => exact absurd HA.out (by simp [scale_widen_int64.j1])
       | succ Hl =>
        have H := HA.out
        clear HA
        simp only [scale_widen_int64.j1] at H
        by_cases c16 : Cc = true
        ·subst c16
         have H1 : (if 0 ≤ (wrap64 ((bK.length : Int) - 1)) then (if (wrap64 ((bK.length : Int) - 1)) < (bK.length : Int) then ((scale_whole.f ((aZ bK (wrap64 ((bK.length : Int) - 1))).f1) ((aZ l0 bU).f1)).bind fun oq => (if oq.2 = true then (scale_widen_int64.l0 Hl a1 (bK.set ((wrap64 ((bK.length : Int) - 1)) : Int).toNat (⟨(aZ bK (wrap64 ((bK.length : Int) - 1))).f0, oq.1⟩ : gy)) l0 (l0.length : Int) (wrap64 (bU + 1))) else (some (([] : List (gy)), false)))) else (none)) else (none)) = some (r1, r2) := by rw [if_pos rfl] at H; exact H
         clear H
         have H := H1
         clear H1
         obtain ⟨dL, Ci⟩ : ∃ j_ : Int, (wrap64 ((bK.length : Int) - 1)) = j_ := ⟨_, rfl⟩
         replace H : (if 0 ≤ (dL) then (if (dL) < (bK.length : Int) then ((scale_whole.f ((aZ bK (dL)).f1) ((aZ l0 bU).f1)).bind fun oq => (if oq.2 = true then (scale_widen_int64.l0 Hl a1 (bK.set ((dL) : Int).toNat (⟨(aZ bK (dL)).f0, oq.1⟩ : gy)) l0 (l0.length : Int) (wrap64 (bU + 1))) else (some (([] : List (gy)), false)))) else (none)) else (none)) = some (r1, r2) := by first | (rw [Ci] at H; exact H) | (simp only [Ci] at H ⊢; exact H)
         have hji17w : (IntKind.i64.wrap ((bK.length : Int) - 1)) = dL := (dh _).trans Ci
         by_cases c18 : 0 ≤ (dL)
         ·rw [if_pos c18] at H
          have c18b0 : decide (0 ≤ (dL)) = true := aiJ c18
          clear c18
          by_cases c19 : (dL) < (bK.length : Int)
          ·rw [if_pos c19] at H
           have c19b0 : decide ((dL) < (bK.length : Int)) = true := aiJ c19
           clear c19
           replace H := Option.bind_eq_some_iff.mp H
           obtain ⟨⟨fU, t107⟩, L9, H⟩ := H
           replace H : (if t107 = true then (scale_widen_int64.l0 Hl a1 (bK.set ((dL) : Int).toNat (⟨(aZ bK (dL)).f0, fU⟩ : gy)) l0 (l0.length : Int) (wrap64 (bU + 1))) else (some (([] : List (gy)), false))) = some (r1, r2) := H
           have sV := ah L9
           clear L9
           by_cases c21 : t107 = true
           ·subst c21
            have H1 : (scale_widen_int64.l0 Hl a1 (bK.set ((dL) : Int).toNat (⟨(aZ bK (dL)).f0, fU⟩ : gy)) l0 (l0.length : Int) (wrap64 (bU + 1))) = some (r1, r2) := by rw [if_pos rfl] at H; exact H
            clear H
            have H := H1
            clear H1
            obtain ⟨jB, nS⟩ : ∃ y_ : List (gy), y_ = (bK.set ((dL) : Int).toNat (⟨(aZ bK (dL)).f0, fU⟩ : gy)) := ⟨_, rfl⟩
            replace H : (scale_widen_int64.l0 Hl a1 jB l0 (l0.length : Int) (wrap64 (bU + 1))) = some (r1, r2) := by first | (rw [nS]; with_reducible exact H) | (have jm := (Option.bind_some _ _).symm.trans H; rw [nS]; with_reducible exact jm) | (have jm := (Option.bind_some _ _).symm.trans H; with_reducible exact jm) | with_reducible exact H | (rw [nS]; exact H) | exact H
            have wI := ah nS
            clear nS
            have H' := ah H
            clear H
            have pX : 0 ≤ ((dL) : Int) := aiI (by assumption)
            have pY : (dL) < (bK.length : Int) := aiI (by assumption)
            obtain ⟨DU, Aq, lS, qN⟩ := qA (Kd.bD HO_8.out).2.2 (dL) pX pY
            cases Aq
            replace pX := eq_true pX
            replace pY := eq_true pY
            have xG := ay aN.out
            have xH := aG aN.out
            go_wp2_with (first | (go_at_call 81; (with_reducible refine (scale_whole.calls ((aZ bK (dL)).f1) ((aZ l0 bU).f1) fU true _ sV.out).mono ?_); rintro e w' ⟨rfl, ⟨nd, rfl⟩⟩; (try first | exact ⟨rfl, _, World.drewN_drewN _ _ _⟩ | exact ⟨rfl, _, Eq.trans (World.drewN_drewN _ _ _) (congrArg (World.drewN _) (Nat.add_assoc _ _ _))⟩); clear sV; have Gp : 0 ≤ ((dL) : Int) := aiI (by assumption); have q22 : ((dL) : Int) < ((bK.length : Int) : Int) := aiI (by assumption); obtain ⟨jY, BZ, uQ, zf, Gq, Uf, zh⟩ := Kd.qw HO_8.out (by omega); (first | cases uQ | (injection uQ with ea_ en_ ec_; (first | subst ea_ | (injection ea_ with ea_; subst ea_)); subst ec_; clear en_)); have Gs := ah zf; have Ug := ah zh; clear zf Gq zh; (first | simp only [add_plain] at lS | skip); (first | simp only [add_plain] at qN | skip); obtain ⟨Uh, zi, zk, ou, oz⟩ := Kd.jJ HO_8.out z173 ((dL) : Int) Gp q22; obtain rfl := lV zk; have Gt : wc.cell? ⟨jY, ((dL) : Int).toNat * 2, none⟩ = some (.int .i64 ((aZ bK (dL)).f0)) := ou 0 _ rfl; have Gu : wc.cell? ⟨jY, ((dL) : Int).toNat * 2 + 1, none⟩ = some (.int .i64 ((aZ bK (dL)).f1)) := ou 1 _ rfl; have Gv : wc.frozen? ⟨jY, ((dL) : Int).toNat * 2, none⟩ = false := oz 0; have Gw : wc.frozen? ⟨jY, ((dL) : Int).toNat * 2 + 1, none⟩ = false := oz 1; clear zi ou oz zk; replace Gp := eq_true Gp; replace q22 := eq_true q22; have oC := ah (show Kd.R jI 173 wc w.heap.size (fun k_ => k_ ≠ aJ) (.slice (some ⟨jY, 0, none⟩) bK.length nY) bK from (Kd.fB HO_8.out)); obtain ⟨Gx, kN, oD, jw, kP⟩ := Kd.jJ oC.out z173 ((dL) : Int) (aiI (by assumption)) (by have h_ : ((dL) : Int) < ((bK.length : Int) : Int) := aiI (by assumption); first | exact h_ | (have e_ := (Kd.bD HO_8.out).1; omega) | simpa using h_); obtain rfl := lV oD; have qO := Kd.qy oC.out ((dL) : Int) (aiI (by assumption)) (by have h_ : ((dL) : Int) < ((bK.length : Int) : Int) := aiI (by assumption); first | exact h_ | (have e_ := (Kd.bD HO_8.out).1; omega) | simpa using h_) (seg := [.int .i64 fU]) (j := 1) kN jw (show 2 ≤ 2 from by decide) (x' := (⟨(aZ bK (dL)).f0, fU⟩ : gy)) (mD _ _ _ (⟨(aZ bK (dL)).f0, fU⟩ : gy) ) (fun _ hk => hk); have lD := jw 1 _ rfl; (try simp only [show (jI).sz = 2 from rfl, Nat.mul_one, Nat.add_zero] at lD); have lF := kP 1; (try simp only [show (jI).sz = 2 from rfl, Nat.mul_one, Nat.add_zero] at lF); clear kN jw kP oD) | ((with_reducible refine kU (t := 2) (p := 59) rfl ?_); (try (rw [qZ wc]; generalize hq_ : World.drewN wc _ = wc; have gZ := ah (Kd.Qs hq_ HO_8.out); have iL := ah (Dn hq_ aN.out); have jC := ah (wE hq_ HB.out); clear hq_ HO_8 aN HB; have HO_8 := gZ; have aN := iL; have HB := jC; clear gZ iL jC; (try (have oC := ah (show Kd.R jI 173 wc w.heap.size (fun k_ => k_ ≠ aJ) (.slice (some ⟨jY, 0, none⟩) bK.length nY) bK from (Kd.fB HO_8.out)))); (try (obtain ⟨Gx, kN, oD, jw, kP⟩ := Kd.jJ oC.out z173 ((dL) : Int) (aiI (by assumption)) (by have h_ : ((dL) : Int) < ((bK.length : Int) : Int) := aiI (by assumption); first | exact h_ | (have e_ := (Kd.bD HO_8.out).1; omega) | simpa using h_))); (try (obtain rfl := lV oD)); (try (have qO := Kd.qy oC.out ((dL) : Int) (aiI (by assumption)) (by have h_ : ((dL) : Int) < ((bK.length : Int) : Int) := aiI (by assumption); first | exact h_ | (have e_ := (Kd.bD HO_8.out).1; omega) | simpa using h_) (seg := [.int .i64 fU]) (j := 1) kN jw (show 2 ≤ 2 from by decide) (x' := (⟨(aZ bK (dL)).f0, fU⟩ : gy)) (mD _ _ _ (⟨(aZ bK (dL)).f0, fU⟩ : gy) ) (fun _ hk => hk))); (try (have lD := jw 1 _ rfl)); (try (try simp only [show (jI).sz = 2 from rfl, Nat.mul_one, Nat.add_zero] at lD)); (try (have lF := kP 1)); (try (try simp only [show (jI).sz = 2 from rfl, Nat.mul_one, Nat.add_zero] at lF)); (try (clear kN jw kP oD)))); refine ku (t := 2) (p := 59) (v := ?vo_w25) (w1 := (wc.setCell ⟨jY, ((dL) : Int).toNat * 2 + 1, none⟩ (.int .i64 fU))) ?hg ?ho ?hn ?hr ?_; (case ho => rfl); (case hg => rfl); (case hn => rfl); (case hr => first | (go_simp; done) | (go_simp; rfl)); intro DV hw; have hg : wc.grownBy DV (some jY) := (by rw [hw]; exact qO.2); have hp_ : Kd.R jI 173 DV w.heap.size (fun k_ => k_ ≠ aJ) (.slice (some ⟨jY, 0, none⟩) bK.length nY) jB := (by rw [hw, wI.out]; exact qO.1); clear qO; have iL := ah (iZ (g := aJ) (o := .cells #[.int .i64 ((aZ l0 bU).f0), .int .i64 ((aZ l0 bU).f1)] 173 (0, 0)) (jP aN.out) hg (Kd.o7 HO_8.out (fun _ hk => hk))); replace HO_8 := ah (hp_); replace HB := ah ((by rw [hw]; exact aA (HB.out) Gs.out : Below w.heap.size w DV)); clear aN; have aN := iL; clear iL hg hw hp_))
            repeat (go_quiet (first | (go_at_call 81; (with_reducible refine (scale_whole.calls ((aZ bK (dL)).f1) ((aZ l0 bU).f1) fU true _ sV.out).mono ?_); rintro e w' ⟨rfl, ⟨nd, rfl⟩⟩; (try first | exact ⟨rfl, _, World.drewN_drewN _ _ _⟩ | exact ⟨rfl, _, Eq.trans (World.drewN_drewN _ _ _) (congrArg (World.drewN _) (Nat.add_assoc _ _ _))⟩); clear sV; have Gp : 0 ≤ ((dL) : Int) := aiI (by assumption); have q22 : ((dL) : Int) < ((bK.length : Int) : Int) := aiI (by assumption); obtain ⟨jY, BZ, uQ, zf, Gq, Uf, zh⟩ := Kd.qw HO_8.out (by omega); (first | cases uQ | (injection uQ with ea_ en_ ec_; (first | subst ea_ | (injection ea_ with ea_; subst ea_)); subst ec_; clear en_)); have Gs := ah zf; have Ug := ah zh; clear zf Gq zh; (first | simp only [add_plain] at lS | skip); (first | simp only [add_plain] at qN | skip); obtain ⟨Uh, zi, zk, ou, oz⟩ := Kd.jJ HO_8.out z173 ((dL) : Int) Gp q22; obtain rfl := lV zk; have Gt : wc.cell? ⟨jY, ((dL) : Int).toNat * 2, none⟩ = some (.int .i64 ((aZ bK (dL)).f0)) := ou 0 _ rfl; have Gu : wc.cell? ⟨jY, ((dL) : Int).toNat * 2 + 1, none⟩ = some (.int .i64 ((aZ bK (dL)).f1)) := ou 1 _ rfl; have Gv : wc.frozen? ⟨jY, ((dL) : Int).toNat * 2, none⟩ = false := oz 0; have Gw : wc.frozen? ⟨jY, ((dL) : Int).toNat * 2 + 1, none⟩ = false := oz 1; clear zi ou oz zk; replace Gp := eq_true Gp; replace q22 := eq_true q22; have oC := ah (show Kd.R jI 173 wc w.heap.size (fun k_ => k_ ≠ aJ) (.slice (some ⟨jY, 0, none⟩) bK.length nY) bK from (Kd.fB HO_8.out)); obtain ⟨Gx, kN, oD, jw, kP⟩ := Kd.jJ oC.out z173 ((dL) : Int) (aiI (by assumption)) (by have h_ : ((dL) : Int) < ((bK.length : Int) : Int) := aiI (by assumption); first | exact h_ | (have e_ := (Kd.bD HO_8.out).1; omega) | simpa using h_); obtain rfl := lV oD; have qO := Kd.qy oC.out ((dL) : Int) (aiI (by assumption)) (by have h_ : ((dL) : Int) < ((bK.length : Int) : Int) := aiI (by assumption); first | exact h_ | (have e_ := (Kd.bD HO_8.out).1; omega) | simpa using h_) (seg := [.int .i64 fU]) (j := 1) kN jw (show 2 ≤ 2 from by decide) (x' := (⟨(aZ bK (dL)).f0, fU⟩ : gy)) (mD _ _ _ (⟨(aZ bK (dL)).f0, fU⟩ : gy) ) (fun _ hk => hk); have lD := jw 1 _ rfl; (try simp only [show (jI).sz = 2 from rfl, Nat.mul_one, Nat.add_zero] at lD); have lF := kP 1; (try simp only [show (jI).sz = 2 from rfl, Nat.mul_one, Nat.add_zero] at lF); clear kN jw kP oD) | ((with_reducible refine kU (t := 2) (p := 59) rfl ?_); (try (rw [qZ wc]; generalize hq_ : World.drewN wc _ = wc; have gZ := ah (Kd.Qs hq_ HO_8.out); have iL := ah (Dn hq_ aN.out); have jC := ah (wE hq_ HB.out); clear hq_ HO_8 aN HB; have HO_8 := gZ; have aN := iL; have HB := jC; clear gZ iL jC; (try (have oC := ah (show Kd.R jI 173 wc w.heap.size (fun k_ => k_ ≠ aJ) (.slice (some ⟨jY, 0, none⟩) bK.length nY) bK from (Kd.fB HO_8.out)))); (try (obtain ⟨Gx, kN, oD, jw, kP⟩ := Kd.jJ oC.out z173 ((dL) : Int) (aiI (by assumption)) (by have h_ : ((dL) : Int) < ((bK.length : Int) : Int) := aiI (by assumption); first | exact h_ | (have e_ := (Kd.bD HO_8.out).1; omega) | simpa using h_))); (try (obtain rfl := lV oD)); (try (have qO := Kd.qy oC.out ((dL) : Int) (aiI (by assumption)) (by have h_ : ((dL) : Int) < ((bK.length : Int) : Int) := aiI (by assumption); first | exact h_ | (have e_ := (Kd.bD HO_8.out).1; omega) | simpa using h_) (seg := [.int .i64 fU]) (j := 1) kN jw (show 2 ≤ 2 from by decide) (x' := (⟨(aZ bK (dL)).f0, fU⟩ : gy)) (mD _ _ _ (⟨(aZ bK (dL)).f0, fU⟩ : gy) ) (fun _ hk => hk))); (try (have lD := jw 1 _ rfl)); (try (try simp only [show (jI).sz = 2 from rfl, Nat.mul_one, Nat.add_zero] at lD)); (try (have lF := kP 1)); (try (try simp only [show (jI).sz = 2 from rfl, Nat.mul_one, Nat.add_zero] at lF)); (try (clear kN jw kP oD)))); refine ku (t := 2) (p := 59) (v := ?vo_w25) (w1 := (wc.setCell ⟨jY, ((dL) : Int).toNat * 2 + 1, none⟩ (.int .i64 fU))) ?hg ?ho ?hn ?hr ?_; (case ho => rfl); (case hg => rfl); (case hn => rfl); (case hr => first | (go_simp; done) | (go_simp; rfl)); intro DV hw; have hg : wc.grownBy DV (some jY) := (by rw [hw]; exact qO.2); have hp_ : Kd.R jI 173 DV w.heap.size (fun k_ => k_ ≠ aJ) (.slice (some ⟨jY, 0, none⟩) bK.length nY) jB := (by rw [hw, wI.out]; exact qO.1); clear qO; have iL := ah (iZ (g := aJ) (o := .cells #[.int .i64 ((aZ l0 bU).f0), .int .i64 ((aZ l0 bU).f1)] 173 (0, 0)) (jP aN.out) hg (Kd.o7 HO_8.out (fun _ hk => hk))); replace HO_8 := ah (hp_); replace HB := ah ((by rw [hw]; exact aA (HB.out) Gs.out : Below w.heap.size w DV)); clear aN; have aN := iL; clear iL hg hw hp_)); try go_wp2_with (first | (go_at_call 81; (with_reducible refine (scale_whole.calls ((aZ bK (dL)).f1) ((aZ l0 bU).f1) fU true _ sV.out).mono ?_); rintro e w' ⟨rfl, ⟨nd, rfl⟩⟩; (try first | exact ⟨rfl, _, World.drewN_drewN _ _ _⟩ | exact ⟨rfl, _, Eq.trans (World.drewN_drewN _ _ _) (congrArg (World.drewN _) (Nat.add_assoc _ _ _))⟩); clear sV; have Gp : 0 ≤ ((dL) : Int) := aiI (by assumption); have q22 : ((dL) : Int) < ((bK.length : Int) : Int) := aiI (by assumption); obtain ⟨jY, BZ, uQ, zf, Gq, Uf, zh⟩ := Kd.qw HO_8.out (by omega); (first | cases uQ | (injection uQ with ea_ en_ ec_; (first | subst ea_ | (injection ea_ with ea_; subst ea_)); subst ec_; clear en_)); have Gs := ah zf; have Ug := ah zh; clear zf Gq zh; (first | simp only [add_plain] at lS | skip); (first | simp only [add_plain] at qN | skip); obtain ⟨Uh, zi, zk, ou, oz⟩ := Kd.jJ HO_8.out z173 ((dL) : Int) Gp q22; obtain rfl := lV zk; have Gt : wc.cell? ⟨jY, ((dL) : Int).toNat * 2, none⟩ = some (.int .i64 ((aZ bK (dL)).f0)) := ou 0 _ rfl; have Gu : wc.cell? ⟨jY, ((dL) : Int).toNat * 2 + 1, none⟩ = some (.int .i64 ((aZ bK (dL)).f1)) := ou 1 _ rfl; have Gv : wc.frozen? ⟨jY, ((dL) : Int).toNat * 2, none⟩ = false := oz 0; have Gw : wc.frozen? ⟨jY, ((dL) : Int).toNat * 2 + 1, none⟩ = false := oz 1; clear zi ou oz zk; replace Gp := eq_true Gp; replace q22 := eq_true q22; have oC := ah (show Kd.R jI 173 wc w.heap.size (fun k_ => k_ ≠ aJ) (.slice (some ⟨jY, 0, none⟩) bK.length nY) bK from (Kd.fB HO_8.out)); obtain ⟨Gx, kN, oD, jw, kP⟩ := Kd.jJ oC.out z173 ((dL) : Int) (aiI (by assumption)) (by have h_ : ((dL) : Int) < ((bK.length : Int) : Int) := aiI (by assumption); first | exact h_ | (have e_ := (Kd.bD HO_8.out).1; omega) | simpa using h_); obtain rfl := lV oD; have qO := Kd.qy oC.out ((dL) : Int) (aiI (by assumption)) (by have h_ : ((dL) : Int) < ((bK.length : Int) : Int) := aiI (by assumption); first | exact h_ | (have e_ := (Kd.bD HO_8.out).1; omega) | simpa using h_) (seg := [.int .i64 fU]) (j := 1) kN jw (show 2 ≤ 2 from by decide) (x' := (⟨(aZ bK (dL)).f0, fU⟩ : gy)) (mD _ _ _ (⟨(aZ bK (dL)).f0, fU⟩ : gy) ) (fun _ hk => hk); have lD := jw 1 _ rfl; (try simp only [show (jI).sz = 2 from rfl, Nat.mul_one, Nat.add_zero] at lD); have lF := kP 1; (try simp only [show (jI).sz = 2 from rfl, Nat.mul_one, Nat.add_zero] at lF); clear kN jw kP oD) | ((with_reducible refine kU (t := 2) (p := 59) rfl ?_); (try (rw [qZ wc]; generalize hq_ : World.drewN wc _ = wc; have gZ := ah (Kd.Qs hq_ HO_8.out); have iL := ah (Dn hq_ aN.out); have jC := ah (wE hq_ HB.out); clear hq_ HO_8 aN HB; have HO_8 := gZ; have aN := iL; have HB := jC; clear gZ iL jC; (try (have oC := ah (show Kd.R jI 173 wc w.heap.size (fun k_ => k_ ≠ aJ) (.slice (some ⟨jY, 0, none⟩) bK.length nY) bK from (Kd.fB HO_8.out)))); (try (obtain ⟨Gx, kN, oD, jw, kP⟩ := Kd.jJ oC.out z173 ((dL) : Int) (aiI (by assumption)) (by have h_ : ((dL) : Int) < ((bK.length : Int) : Int) := aiI (by assumption); first | exact h_ | (have e_ := (Kd.bD HO_8.out).1; omega) | simpa using h_))); (try (obtain rfl := lV oD)); (try (have qO := Kd.qy oC.out ((dL) : Int) (aiI (by assumption)) (by have h_ : ((dL) : Int) < ((bK.length : Int) : Int) := aiI (by assumption); first | exact h_ | (have e_ := (Kd.bD HO_8.out).1; omega) | simpa using h_) (seg := [.int .i64 fU]) (j := 1) kN jw (show 2 ≤ 2 from by decide) (x' := (⟨(aZ bK (dL)).f0, fU⟩ : gy)) (mD _ _ _ (⟨(aZ bK (dL)).f0, fU⟩ : gy) ) (fun _ hk => hk))); (try (have lD := jw 1 _ rfl)); (try (try simp only [show (jI).sz = 2 from rfl, Nat.mul_one, Nat.add_zero] at lD)); (try (have lF := kP 1)); (try (try simp only [show (jI).sz = 2 from rfl, Nat.mul_one, Nat.add_zero] at lF)); (try (clear kN jw kP oD)))); refine ku (t := 2) (p := 59) (v := ?vo_w25) (w1 := (wc.setCell ⟨jY, ((dL) : Int).toNat * 2 + 1, none⟩ (.int .i64 fU))) ?hg ?ho ?hn ?hr ?_; (case ho => rfl); (case hg => rfl); (case hn => rfl); (case hr => first | (go_simp; done) | (go_simp; rfl)); intro DV hw; have hg : wc.grownBy DV (some jY) := (by rw [hw]; exact qO.2); have hp_ : Kd.R jI 173 DV w.heap.size (fun k_ => k_ ≠ aJ) (.slice (some ⟨jY, 0, none⟩) bK.length nY) jB := (by rw [hw, wI.out]; exact qO.1); clear qO; have iL := ah (iZ (g := aJ) (o := .cells #[.int .i64 ((aZ l0 bU).f0), .int .i64 ((aZ l0 bU).f1)] 173 (0, 0)) (jP aN.out) hg (Kd.o7 HO_8.out (fun _ hk => hk))); replace HO_8 := ah (hp_); replace HB := ah ((by rw [hw]; exact aA (HB.out) Gs.out : Below w.heap.size w DV)); clear aN; have aN := iL; clear iL hg hw hp_)))
            go_roundg Hl
            case measure => have := jf.out; have := PU.out; omega
            case rel => exact ⟨(jB), (wrap64 (bU + 1)), (by first | rfl | (simp; done) | (simp [*]; done)), H', ⟨by have := jf.out; have := PU.out; omega⟩, ⟨by (repeat with_reducible refine Kd.kJ ?_); exact Kd.cu HO_8.out (fun _ hk => trivial)⟩, ⟨by repeat (first | (with_reducible first | exact HB.out | apply ak | apply au | apply aC | refine aA ?_ bT.out) | exact HB.out)⟩⟩
           replace c21 := Bool.eq_false_iff.mpr c21
           subst c21
           have H1 : (some (([] : List (gy)), false)) = some (r1, r2) := by rw [if_neg (show ¬ (false = true) by decide)] at H; exact H
           clear H
           have H := H1
           clear H1
           simp only [Option.some.injEq, Prod.mk.injEq] at H
           obtain ⟨rfl, rfl⟩ := H
           have pX : 0 ≤ ((dL) : Int) := aiI (by assumption)
           have pY : (dL) < (bK.length : Int) := aiI (by assumption)
           obtain ⟨DU, Aq, lS, qN⟩ := qA (Kd.bD HO_8.out).2.2 (dL) pX pY
           cases Aq
           replace pX := eq_true pX
           replace pY := eq_true pY
           have BA := ay aN.out
           have BD := aG aN.out
           go_wp2_with (first | (go_at_call 81; (with_reducible refine (scale_whole.calls ((aZ bK (dL)).f1) ((aZ l0 bU).f1) fU false _ sV.out).mono ?_); rintro e w' ⟨rfl, ⟨nd, rfl⟩⟩; (try first | exact ⟨rfl, _, World.drewN_drewN _ _ _⟩ | exact ⟨rfl, _, Eq.trans (World.drewN_drewN _ _ _) (congrArg (World.drewN _) (Nat.add_assoc _ _ _))⟩); clear sV))
           repeat (go_quiet (first | (go_at_call 81; (with_reducible refine (scale_whole.calls ((aZ bK (dL)).f1) ((aZ l0 bU).f1) fU false _ sV.out).mono ?_); rintro e w' ⟨rfl, ⟨nd, rfl⟩⟩; (try first | exact ⟨rfl, _, World.drewN_drewN _ _ _⟩ | exact ⟨rfl, _, Eq.trans (World.drewN_drewN _ _ _) (congrArg (World.drewN _) (Nat.add_assoc _ _ _))⟩); clear sV)); try go_wp2_with (first | (go_at_call 81; (with_reducible refine (scale_whole.calls ((aZ bK (dL)).f1) ((aZ l0 bU).f1) fU false _ sV.out).mono ?_); rintro e w' ⟨rfl, ⟨nd, rfl⟩⟩; (try first | exact ⟨rfl, _, World.drewN_drewN _ _ _⟩ | exact ⟨rfl, _, Eq.trans (World.drewN_drewN _ _ _) (congrArg (World.drewN _) (Nat.add_assoc _ _ _))⟩); clear sV)))
           go_ret2
           exact ⟨_, by first | rfl | (simp [aT, aU] <;> rfl) | (simp only [← Ci]; first | rfl | (simp [aT, aU] <;> rfl)) | (simp [*, aT, aU] <;> rfl), by first | exact Kd.dY _ _ _ _ _ | exact Kd.gI _ _ _ _ _ | exact Kd.gJ _ _ _ _ _ | exact Kd.gB _ _ _ _ _ | exact Kd.gG _ _ _ _ _, by repeat (first | (with_reducible first | exact HB.out | apply ak | apply au | apply aC | refine aA ?_ bT.out) | exact HB.out)⟩
          rw [if_neg c19] at H
          exact absurd H (by simp)
         rw [if_neg c18] at H
         exact absurd H (by simp)
        replace c16 := Bool.eq_false_iff.mpr c16
        subst c16
        have H1 : (if bK.length < 8796093022208 then (scale_widen_int64.l0 Hl a1 (bK ++ [(⟨eG, ((aZ l0 bU).f1)⟩ : gy)]) l0 (l0.length : Int) (wrap64 (bU + 1))) else (none)) = some (r1, r2) := by rw [if_neg (show ¬ (false = true) by decide)] at H; exact H
        clear H
        have H := H1
        clear H1
        by_cases JI : bK.length < 8796093022208
        ·rw [if_pos JI] at H
         have Gy := ah JI
         clear JI
         obtain ⟨mG, nX⟩ : ∃ y_ : List (gy), y_ = (bK ++ [(⟨eG, ((aZ l0 bU).f1)⟩ : gy)]) := ⟨_, rfl⟩
         replace H : (scale_widen_int64.l0 Hl a1 mG l0 (l0.length : Int) (wrap64 (bU + 1))) = some (r1, r2) := by first | (rw [nX]; with_reducible exact H) | (have jm := (Option.bind_some _ _).symm.trans H; rw [nX]; with_reducible exact jm) | (have jm := (Option.bind_some _ _).symm.trans H; with_reducible exact jm) | with_reducible exact H | (rw [nX]; exact H) | exact H
         have pz := ah nX
         clear nX
         have H' := ah H
         clear H
         have zN := ay aN.out
         have zO := aG aN.out
         go_wp2_with (first | ((with_reducible refine dZ (b := .append) (xs := #[.tmp 60, .tmp 65]) rfl ?_); at_builtin; refine Kd.iP jI (w0 := w) w.heap.size rfl (.tmp 60) (.tmp 65) 91 173 (.agg #[(.int .i64 0), (.int .i64 0)]) 16 rfl Try.underlying91 Bo rfl (by decide) (by omega) (.slice Aw bK.length nY) bK (⟨eG, ((aZ l0 bU).f1)⟩ : gy) [.int .i64 eG, .int .i64 ((aZ l0 bU).f1)] (fun k_ => k_ ≠ aJ) (fun _ => False) rfl rfl ?aP (fun _ hk => hk.elim) ?aF ?aO ?aB ?aS ?aL ?_; (case aP => exact mD _ _ _ (⟨eG, ((aZ l0 bU).f1)⟩ : gy)); (case aB => exact (by repeat (first | (with_reducible first | exact HB.out | refine bJ ?_ | refine aA ?_ bT.out) | exact HB.out))); (case aF => exact (fun k_ hk => Kd.Di (g := aJ) (o := .cells #[.int .i64 ((aZ l0 bU).f0), .int .i64 ((aZ l0 bU).f1)] 173 (0, 0)) (jP aN.out) k_ hk)); (case aO => exact (Kd.fB HO_8.out)); (case aS => exact (aI (by repeat (first | (with_reducible first | exact HB.out | refine bJ ?_ | refine aA ?_ bT.out) | exact HB.out)))); (case aL => have := Gy.out; omega); intro sJ Vt ho hb hg hat; rw [← pz.out] at ho; have gZ := ah (iZ (g := aJ) (o := .cells #[.int .i64 ((aZ l0 bU).f0), .int .i64 ((aZ l0 bU).f1)] 173 (0, 0)) (jP aN.out) hg (Kd.o7 HO_8.out (fun _ hk => hk))); have gX := ah (ho); replace HB := ah (hb); clear HO_8 aN; have aN := gZ; clear gZ ho hb hg hat))
         repeat (go_quiet (first | ((with_reducible refine dZ (b := .append) (xs := #[.tmp 60, .tmp 65]) rfl ?_); at_builtin; refine Kd.iP jI (w0 := w) w.heap.size rfl (.tmp 60) (.tmp 65) 91 173 (.agg #[(.int .i64 0), (.int .i64 0)]) 16 rfl Try.underlying91 Bo rfl (by decide) (by omega) (.slice Aw bK.length nY) bK (⟨eG, ((aZ l0 bU).f1)⟩ : gy) [.int .i64 eG, .int .i64 ((aZ l0 bU).f1)] (fun k_ => k_ ≠ aJ) (fun _ => False) rfl rfl ?aP (fun _ hk => hk.elim) ?aF ?aO ?aB ?aS ?aL ?_; (case aP => exact mD _ _ _ (⟨eG, ((aZ l0 bU).f1)⟩ : gy)); (case aB => exact (by repeat (first | (with_reducible first | exact HB.out | refine bJ ?_ | refine aA ?_ bT.out) | exact HB.out))); (case aF => exact (fun k_ hk => Kd.Di (g := aJ) (o := .cells #[.int .i64 ((aZ l0 bU).f0), .int .i64 ((aZ l0 bU).f1)] 173 (0, 0)) (jP aN.out) k_ hk)); (case aO => exact (Kd.fB HO_8.out)); (case aS => exact (aI (by repeat (first | (with_reducible first | exact HB.out | refine bJ ?_ | refine aA ?_ bT.out) | exact HB.out)))); (case aL => have := Gy.out; omega); intro sJ Vt ho hb hg hat; rw [← pz.out] at ho; have gZ := ah (iZ (g := aJ) (o := .cells #[.int .i64 ((aZ l0 bU).f0), .int .i64 ((aZ l0 bU).f1)] 173 (0, 0)) (jP aN.out) hg (Kd.o7 HO_8.out (fun _ hk => hk))); have gX := ah (ho); replace HB := ah (hb); clear HO_8 aN; have aN := gZ; clear gZ ho hb hg hat)); try go_wp2_with (first | ((with_reducible refine dZ (b := .append) (xs := #[.tmp 60, .tmp 65]) rfl ?_); at_builtin; refine Kd.iP jI (w0 := w) w.heap.size rfl (.tmp 60) (.tmp 65) 91 173 (.agg #[(.int .i64 0), (.int .i64 0)]) 16 rfl Try.underlying91 Bo rfl (by decide) (by omega) (.slice Aw bK.length nY) bK (⟨eG, ((aZ l0 bU).f1)⟩ : gy) [.int .i64 eG, .int .i64 ((aZ l0 bU).f1)] (fun k_ => k_ ≠ aJ) (fun _ => False) rfl rfl ?aP (fun _ hk => hk.elim) ?aF ?aO ?aB ?aS ?aL ?_; (case aP => exact mD _ _ _ (⟨eG, ((aZ l0 bU).f1)⟩ : gy)); (case aB => exact (by repeat (first | (with_reducible first | exact HB.out | refine bJ ?_ | refine aA ?_ bT.out) | exact HB.out))); (case aF => exact (fun k_ hk => Kd.Di (g := aJ) (o := .cells #[.int .i64 ((aZ l0 bU).f0), .int .i64 ((aZ l0 bU).f1)] 173 (0, 0)) (jP aN.out) k_ hk)); (case aO => exact (Kd.fB HO_8.out)); (case aS => exact (aI (by repeat (first | (with_reducible first | exact HB.out | refine bJ ?_ | refine aA ?_ bT.out) | exact HB.out)))); (case aL => have := Gy.out; omega); intro sJ Vt ho hb hg hat; rw [← pz.out] at ho; have gZ := ah (iZ (g := aJ) (o := .cells #[.int .i64 ((aZ l0 bU).f0), .int .i64 ((aZ l0 bU).f1)] 173 (0, 0)) (jP aN.out) hg (Kd.o7 HO_8.out (fun _ hk => hk))); have gX := ah (ho); replace HB := ah (hb); clear HO_8 aN; have aN := gZ; clear gZ ho hb hg hat)))
         go_roundg Hl
         case measure => have := jf.out; have := PU.out; omega
         case rel => exact ⟨(mG), (wrap64 (bU + 1)), (by first | rfl | (simp; done) | (simp [*]; done)), H', ⟨by have := jf.out; have := PU.out; omega⟩, ⟨by (repeat with_reducible refine Kd.kJ ?_); exact Kd.cu gX.out (fun _ hk => trivial)⟩, ⟨by repeat (first | (with_reducible first | exact HB.out | apply ak | apply au | apply aC | refine aA ?_ bT.out) | exact HB.out)⟩⟩
        rw [if_neg JI] at H
        exact absurd H (by simp)
     rw [if_neg c6] at H
     exact absurd H (by simp)
    rw [if_neg c5] at H
    exact absurd H (by simp)
   rw [if_neg c4] at H
   have c4b0 : decide (bU < (l0.length : Int)) = false := aiK c4
   clear c4
   simp only [Option.some.injEq, Prod.mk.injEq] at H
   obtain ⟨rfl, rfl⟩ := H
   go_wp2
   repeat (go_quiet (fail); try go_wp2)
   go_ret2
   exact ⟨_, by first | rfl | (simp [aT, aU] <;> rfl) | (simp [*, aT, aU] <;> rfl), by (repeat with_reducible refine Kd.kJ ?_); exact HO_8.out, by repeat (first | (with_reducible first | exact HB.out | apply ak | apply au | apply aC) | exact HB.out)⟩
end Go.Proofs.Ytooiccpmngmapaa.P
namespace Go.Proofs.Ytooiccpmngmapaa.P
open Go.RowKit Go.Proofs.YtooiccpmngmapaaW.PrintWords Go.Proofs.YtooiccpmngmapaaW.PrintLast Go.Proofs.YtooiccpmngmapaaW.PrintMore
attribute [local go_sem] jh ji jR jS iI iJ jk jl
def hist_Check.f (dD : Int) (dH : Int) (dQ : Int) (dR : Int) (dO : Int) (dN : List (dP)) (dK : List (dP)) (dJ : List Int) (dI : List Int) : Option (Int) := (hist_open.f dD dH dQ dR dO dN dK dJ dI).bind fun lX => (some lX.2.2)
set_option maxHeartbeats 8000000 in
set_option maxRecDepth 100000 in
theorem hist_Check.calls (dD : Int) (dH : Int) (dQ : Int) (dR : Int) (dO : Int) (iV : Option Addr) (iW : Nat) (dN : List (dP)) (iR : Option Addr) (iT : Nat) (dK : List (dP)) (iC : Option Addr) (iD : Nat) (dJ : List Int) (iE : Option Addr) (iF : Nat) (dI : List Int) (r : Int) (w : World) (oO : Kd.C jE w iV dN.length dN) (oP : dN.length ≤ iW) (oQ : Kd.C jE w iR dK.length dK) (oU : dK.length ≤ iT) (qI : Kd.C (Kd.int .i64) w iC dJ.length dJ) (qJ : dJ.length ≤ iD) (qK : Kd.C (Kd.int .i64) w iE dI.length dI) (qL : dI.length ≤ iF) (h : hist_Check.f dD dH dQ dR dO dN dK dJ dI = some r) :
  Calls Try.prog 31 #[.agg #[.int .i64 dD, .int .u64 dH, .int .u64 dQ, .int .u64 dR, .int .u64 dO, .slice iV dN.length iW, .slice iR dK.length iT, .slice iC dJ.length iD, .slice iE dI.length iF]] w fun e w' => e = .returned (.int .i64 r) ∧ Below w.heap.size w w' := by
 have Ui := Try.underlying29
 have nH := ah oO
 have nI := ah oP
 clear oO oP
 have nZ := ah oQ
 have oh := ah oU
 clear oQ oU
 have oV := ah qI
 have oW := ah qJ
 clear qI qJ
 have pG := ah qK
 have pI := ah qL
 clear qK qL
 have HB := ah (Below.refl w.heap.size w)
 have H : ((hist_open.f dD dH dQ dR dO dN dK dJ dI).bind fun lX => (some lX.2.2)) = some r := h
 clear h
 replace H := Option.bind_eq_some_iff.mp H
 obtain ⟨⟨eP, t105, FY⟩, sV, H⟩ := H
 replace H : (some FY) = some r := H
 have A2 := ah sV
 clear sV
 obtain rfl := Option.some.inj H
 go_enter Try.func31, Try.ntmps31
 go_wp2_with (first | ((with_reducible refine fJ (N := 1) rfl ?_); refine eU ?hg (N := 1) ?hd (cs := #[.int .i64 dD, .int .u64 dH, .int .u64 dQ, .int .u64 dR, .int .u64 dO, .slice iV dN.length iW, .slice iR dK.length iT, .slice iC dJ.length iD, .slice iE dI.length iF]) (t := 29) ?hr ?_; (case hd => rfl); (case hg => rfl); (case hr => first | (go_simp; done) | (go_simp; rfl)); intro cO hg w3 hbox hb; have aV := ah (hbox); have vG := ah ((by rw [hg]; exact (aI (aX HB.out)) : w.heap.size ≤ cO)); have bZ := ah ((by rw [hg]; exact (aI (aX HB.out)) : w.heap.size ≤ cO)); replace HB := ah (aW (aX HB.out) hb); clear hb hbox hg; have adE := ay aV.out; have adF := aG aV.out) | ((with_reducible refine bH (f := 70) rfl ?_); refine pV (some 8) rfl rfl Try.func70 (by kernel_rfl) rfl #[.agg #[.int .i64 dD, .int .u64 dH, .int .u64 dQ, .int .u64 dR, .int .u64 dO, .slice iV dN.length iW, .slice iR dK.length iT, .slice iC dJ.length iD, .slice iE dI.length iF]] rfl (by (try simp only [List.map_toArray, List.map_cons, List.map_nil]); first | done | rfl | (simp only [List.length_drop, List.length_take]; rfl)) ?_; (with_reducible refine (hist_open.calls dD dH dQ dR dO _ _ dN _ _ dK _ _ dJ _ _ dI eP t105 FY _ ?dw ?dA ?jr ?jv ?pJ ?pK ?pO ?pR A2.out).mono ?_); (case dw => exact Kd.jT (Kd.bM nH.out HB.out)); (case dA => exact nI.out); (case jr => exact Kd.jT (Kd.bM nZ.out HB.out)); (case jv => exact oh.out); (case pJ => exact Kd.jT (Kd.bM oV.out HB.out)); (case pK => exact oW.out); (case pO => exact Kd.jT (Kd.bM pG.out HB.out)); (case pR => exact pI.out); rintro e w5 ⟨yK, Ep, rfl, ho0, ho1, hb⟩; refine ⟨_, rfl, ?_⟩; have iq := ah (Kd.bV ho0 (aI (by repeat (first | (with_reducible first | exact HB.out | refine bJ ?_ | refine aA ?_ bZ.out) | exact HB.out)))); have jo := ah (Kd.bV ho1 (aI (by repeat (first | (with_reducible first | exact HB.out | refine bJ ?_ | refine aA ?_ bZ.out) | exact HB.out)))); replace aV := ah (dX aV.out hb); replace HB := ah (aW (by repeat (first | (with_reducible first | exact HB.out | refine bJ ?_ | refine aA ?_ bZ.out) | exact HB.out)) hb); (try clear hb); (try clear hb2); (try clear hk); (try clear hi); (try clear ho0); (try clear ho1); clear A2))
 go_ret
 exact ⟨by first | rfl | (simp [aT, aU] <;> rfl) | (simp [*, aT, aU] <;> rfl), by repeat (first | (with_reducible first | exact HB.out | apply ak | apply au | apply aC | refine aA ?_ bZ.out) | exact HB.out)⟩
def hist_Pairs.j0 : Nat → Int → Bool → Int → Int → Int → Int → Int → List (dP) → List (dP) → List Int → List Int → Option ((List (gy)) × Int)
 | 0, _, _, _, _, _, _, _, _, _, _, _ => none
 | k + 1, x1, x14, qP, vK, vM, vN, vO, vP, vS, vT, vU => if x14 = true then (some (([] : List (gy)), 11)) else ((hist_open.f qP vK vM vN vO vP vS vT vU).bind fun lX => (if x1 = 0 then (some (lX.1, lX.2.2)) else (some (lX.2.1, lX.2.2))))
def hist_Pairs.f (k : Nat) (dD : Int) (dH : Int) (dQ : Int) (dR : Int) (dO : Int) (dN : List (dP)) (dK : List (dP)) (dJ : List Int) (dI : List Int) (a1 : Int) : Option ((List (gy)) × Int) := if a1 = 0 then (hist_Pairs.j0 k a1 false dD dH dQ dR dO dN dK dJ dI) else (hist_Pairs.j0 k a1 (a1 != 1) dD dH dQ dR dO dN dK dJ dI)
set_option maxHeartbeats 8000000 in
set_option maxRecDepth 100000 in
theorem hist_Pairs.calls (k : Nat) (dD : Int) (dH : Int) (dQ : Int) (dR : Int) (dO : Int) (iV : Option Addr) (iW : Nat) (dN : List (dP)) (iR : Option Addr) (iT : Nat) (dK : List (dP)) (iC : Option Addr) (iD : Nat) (dJ : List Int) (iE : Option Addr) (iF : Nat) (dI : List Int) (a1 : Int) (r1 : List (gy)) (r2 : Int) (w : World) (oO : Kd.C jE w iV dN.length dN) (oP : dN.length ≤ iW) (oQ : Kd.C jE w iR dK.length dK) (oU : dK.length ≤ iT) (qI : Kd.C (Kd.int .i64) w iC dJ.length dJ) (qJ : dJ.length ≤ iD) (qK : Kd.C (Kd.int .i64) w iE dI.length dI) (qL : dI.length ≤ iF) (h : hist_Pairs.f k dD dH dQ dR dO dN dK dJ dI a1 = some (r1, r2)) :
  Calls Try.prog 78 #[.agg #[.int .i64 dD, .int .u64 dH, .int .u64 dQ, .int .u64 dR, .int .u64 dO, .slice iV dN.length iW, .slice iR dK.length iT, .slice iC dJ.length iD, .slice iE dI.length iF], .int .i64 a1] w fun e w' => ∃ lY : Value, e = .returned (.tuple #[lY, .int .i64 r2]) ∧ Kd.R jI 173 w' w.heap.size (fun _ => True) lY r1 ∧ Below w.heap.size w w' := by
 have Ui := Try.underlying29
 have nH := ah oO
 have nI := ah oP
 clear oO oP
 have nZ := ah oQ
 have oh := ah oU
 clear oQ oU
 have oV := ah qI
 have oW := ah qJ
 clear qI qJ
 have pG := ah qK
 have pI := ah qL
 clear qK qL
 have HB := ah (Below.refl w.heap.size w)
 have H : (if a1 = 0 then (hist_Pairs.j0 k a1 false dD dH dQ dR dO dN dK dJ dI) else (hist_Pairs.j0 k a1 (a1 != 1) dD dH dQ dR dO dN dK dJ dI)) = some (r1, r2) := h
 clear h
 have Eo := ah H
 clear H
 go_enter Try.func78, Try.ntmps78
 go_upto_region 1 with (first | ((with_reducible refine fJ (N := 2) rfl ?_); refine eU ?hg (N := 2) ?hd (cs := #[.int .i64 dD, .int .u64 dH, .int .u64 dQ, .int .u64 dR, .int .u64 dO, .slice iV dN.length iW, .slice iR dK.length iT, .slice iC dJ.length iD, .slice iE dI.length iF]) (t := 29) ?hr ?_; (case hd => rfl); (case hg => rfl); (case hr => first | (go_simp; done) | (go_simp; rfl)); intro cO hg w4 hbox hb; have aV := ah (hbox); have vG := ah ((by rw [hg]; exact (aI (aX HB.out)) : w.heap.size ≤ cO)); have bZ := ah ((by rw [hg]; exact (aI (aX HB.out)) : w.heap.size ≤ cO)); replace HB := ah (aW (aX HB.out) hb); clear hb hbox hg))
 (try simp only [Act.put, List.setIfInBounds_toArray, List.set_cons_zero, List.set_cons_succ])
 go_cut [14] (fun v14 wc => ∃ (kq : Nat) (gK : Bool), v14 = .bool gK ∧ aj (hist_Pairs.j0 kq a1 gK dD dH dQ dR dO dN dK dJ dI = some (r1, r2)) ∧ aj (kq ≤ k) ∧ aj (wc.heap[cO]? = some (.cells #[.int .i64 dD, .int .u64 dH, .int .u64 dQ, .int .u64 dR, .int .u64 dO, (.slice iV dN.length iW), (.slice iR dK.length iT), (.slice iC dJ.length iD), (.slice iE dI.length iF)] 29 (0, 0))) ∧ aj (Below w.heap.size w wc))
 case first =>
  have H := Eo.out
  clear Eo
  by_cases c5 : a1 = 0
  ·rw [if_pos c5] at H
   have c5b0 : (a1 == 0) = true := beq_iff_eq.mpr c5
   have c5b1 : (a1 != 0) = false := bne_eq_false_iff_eq.mpr c5
   clear c5
   (first | rw [c5b0] | (simp only [dh, dF]; rw [c5b0]) | skip)
   have H' := ah H
   clear H
   go_wp2
   go_meet
   case rel => exact ⟨_, (false), (by first | rfl | (simp; done) | (simp [*]; done)), H', ⟨by first | omega | exact Nat.le_refl _⟩, ⟨by (repeat with_reducible refine bQ ?_); exact aV.out⟩, ⟨by repeat (first | (with_reducible first | exact HB.out | apply ak | apply au | apply aC | refine aA ?_ bZ.out) | exact HB.out)⟩⟩
  rw [if_neg c5] at H
  have c5b0 : (a1 == 0) = false := beq_eq_false_iff_ne.mpr c5
  have c5b1 : (a1 != 0) = true := bne_iff_ne.mpr c5
  (first | rw [c5b0] | (simp only [dh, dF]; rw [c5b0]) | skip)
  have H' := ah H
  clear H
  go_wp2
  go_meet
  case rel => exact ⟨_, ((a1 != 1)), (by first | rfl | (simp; done) | (simp [*]; done)), H', ⟨by first | omega | exact Nat.le_refl _⟩, ⟨by (repeat with_reducible refine bQ ?_); exact aV.out⟩, ⟨by repeat (first | (with_reducible first | exact HB.out | apply ak | apply au | apply aC | refine aA ?_ bZ.out) | exact HB.out)⟩⟩
 case rest =>
  clear Eo
  try clear p2
  try clear c5
  try clear c5b0
  try clear c5b1
  obtain ⟨kq, gK, rfl, HA, HJ2, aV, HB⟩ := hcut
  cases kq with
  | zero => exact absurd HA.out (by simp [hist_Pairs.j0])
  | succ Zr =>
   have H := HA.out
   clear HA
   simp only [hist_Pairs.j0] at H
   by_cases c6 : gK = true
   ·subst c6
    have H1 : (some (([] : List (gy)), 11)) = some (r1, r2) := by rw [if_pos rfl] at H; exact H
    clear H
    have H := H1
    clear H1
    simp only [Option.some.injEq, Prod.mk.injEq] at H
    obtain ⟨rfl, rfl⟩ := H
    go_wp2
    go_ret2
    exact ⟨_, by first | rfl | (simp [aT, aU] <;> rfl) | (simp [*, aT, aU] <;> rfl), by first | exact Kd.dY _ _ _ _ _ | exact Kd.gI _ _ _ _ _ | exact Kd.gJ _ _ _ _ _ | exact Kd.gB _ _ _ _ _ | exact Kd.gG _ _ _ _ _, by repeat (first | (with_reducible first | exact HB.out | apply ak | apply au | apply aC | refine aA ?_ bZ.out) | exact HB.out)⟩
   replace c6 := Bool.eq_false_iff.mpr c6
   subst c6
   have H1 : ((hist_open.f dD dH dQ dR dO dN dK dJ dI).bind fun lX => (if a1 = 0 then (some (lX.1, lX.2.2)) else (some (lX.2.1, lX.2.2)))) = some (r1, r2) := by rw [if_neg (show ¬ (false = true) by decide)] at H; exact H
   clear H
   have H := H1
   clear H1
   replace H := Option.bind_eq_some_iff.mp H
   obtain ⟨⟨eP, t105, FY⟩, PO, H⟩ := H
   replace H : (if a1 = 0 then (some (eP, FY)) else (some (t105, FY))) = some (r1, r2) := H
   have A7 := ah PO
   clear PO
   by_cases c8 : a1 = 0
   ·rw [if_pos c8] at H
    have c8b0 : (a1 == 0) = true := beq_iff_eq.mpr c8
    have c8b1 : (a1 != 0) = false := bne_eq_false_iff_eq.mpr c8
    clear c8
    simp only [Option.some.injEq, Prod.mk.injEq] at H
    obtain ⟨rfl, rfl⟩ := H
    have sS := ay aV.out
    have sU := aG aV.out
    go_wp2_with (first | ((with_reducible refine bH (f := 70) rfl ?_); refine pV (some 17) rfl rfl Try.func70 (by kernel_rfl) rfl #[.agg #[.int .i64 dD, .int .u64 dH, .int .u64 dQ, .int .u64 dR, .int .u64 dO, .slice iV dN.length iW, .slice iR dK.length iT, .slice iC dJ.length iD, .slice iE dI.length iF]] rfl (by (try simp only [List.map_toArray, List.map_cons, List.map_nil]); first | done | rfl | (simp only [List.length_drop, List.length_take]; rfl)) ?_; (with_reducible refine (hist_open.calls dD dH dQ dR dO _ _ dN _ _ dK _ _ dJ _ _ dI eP t105 FY _ ?dw ?dA ?jr ?jv ?pJ ?pK ?pO ?pR A7.out).mono ?_); (case dw => exact Kd.jT (Kd.bM nH.out HB.out)); (case dA => exact nI.out); (case jr => exact Kd.jT (Kd.bM nZ.out HB.out)); (case jv => exact oh.out); (case pJ => exact Kd.jT (Kd.bM oV.out HB.out)); (case pK => exact oW.out); (case pO => exact Kd.jT (Kd.bM pG.out HB.out)); (case pR => exact pI.out); rintro e w10 ⟨yK, Ep, rfl, ho0, ho1, hb⟩; refine ⟨_, rfl, ?_⟩; have iq := ah (Kd.bV ho0 (aI (by repeat (first | (with_reducible first | exact HB.out | refine bJ ?_ | refine aA ?_ bZ.out) | exact HB.out)))); have jo := ah (Kd.bV ho1 (aI (by repeat (first | (with_reducible first | exact HB.out | refine bJ ?_ | refine aA ?_ bZ.out) | exact HB.out)))); replace aV := ah (dX aV.out hb); replace HB := ah (aW (by repeat (first | (with_reducible first | exact HB.out | refine bJ ?_ | refine aA ?_ bZ.out) | exact HB.out)) hb); (try clear hb); (try clear hb2); (try clear hk); (try clear hi); (try clear ho0); (try clear ho1); clear A7))
    go_ret2
    exact ⟨_, by first | rfl | (simp [aT, aU] <;> rfl) | (simp [*, aT, aU] <;> rfl), by (repeat with_reducible refine Kd.kJ ?_); exact Kd.cu iq.out (fun _ hk => trivial), by repeat (first | (with_reducible first | exact HB.out | apply ak | apply au | apply aC | refine aA ?_ bZ.out) | exact HB.out)⟩
   rw [if_neg c8] at H
   have c8b0 : (a1 == 0) = false := beq_eq_false_iff_ne.mpr c8
   have c8b1 : (a1 != 0) = true := bne_iff_ne.mpr c8
   simp only [Option.some.injEq, Prod.mk.injEq] at H
   obtain ⟨rfl, rfl⟩ := H
   have xg := ay aV.out
   have xk := aG aV.out
   go_wp2_with (first | ((with_reducible refine bH (f := 70) rfl ?_); refine pV (some 17) rfl rfl Try.func70 (by kernel_rfl) rfl #[.agg #[.int .i64 dD, .int .u64 dH, .int .u64 dQ, .int .u64 dR, .int .u64 dO, .slice iV dN.length iW, .slice iR dK.length iT, .slice iC dJ.length iD, .slice iE dI.length iF]] rfl (by (try simp only [List.map_toArray, List.map_cons, List.map_nil]); first | done | rfl | (simp only [List.length_drop, List.length_take]; rfl)) ?_; (with_reducible refine (hist_open.calls dD dH dQ dR dO _ _ dN _ _ dK _ _ dJ _ _ dI eP t105 FY _ ?dw ?dA ?jr ?jv ?pJ ?pK ?pO ?pR A7.out).mono ?_); (case dw => exact Kd.jT (Kd.bM nH.out HB.out)); (case dA => exact nI.out); (case jr => exact Kd.jT (Kd.bM nZ.out HB.out)); (case jv => exact oh.out); (case pJ => exact Kd.jT (Kd.bM oV.out HB.out)); (case pK => exact oW.out); (case pO => exact Kd.jT (Kd.bM pG.out HB.out)); (case pR => exact pI.out); rintro e w12 ⟨yK, Ep, rfl, ho0, ho1, hb⟩; refine ⟨_, rfl, ?_⟩; have iq := ah (Kd.bV ho0 (aI (by repeat (first | (with_reducible first | exact HB.out | refine bJ ?_ | refine aA ?_ bZ.out) | exact HB.out)))); have jo := ah (Kd.bV ho1 (aI (by repeat (first | (with_reducible first | exact HB.out | refine bJ ?_ | refine aA ?_ bZ.out) | exact HB.out)))); replace aV := ah (dX aV.out hb); replace HB := ah (aW (by repeat (first | (with_reducible first | exact HB.out | refine bJ ?_ | refine aA ?_ bZ.out) | exact HB.out)) hb); (try clear hb); (try clear hb2); (try clear hk); (try clear hi); (try clear ho0); (try clear ho1); clear A7))
   go_ret2
   exact ⟨_, by first | rfl | (simp [aT, aU] <;> rfl) | (simp [*, aT, aU] <;> rfl), by (repeat with_reducible refine Kd.kJ ?_); exact Kd.cu jo.out (fun _ hk => trivial), by repeat (first | (with_reducible first | exact HB.out | apply ak | apply au | apply aC | refine aA ?_ bZ.out) | exact HB.out)⟩
end Go.Proofs.Ytooiccpmngmapaa.P
namespace Go.Proofs.Ytooiccpmngmapaa.P
open Go.RowKit Go.Shelf Go.Proofs.YtooiccpmngmapaaW.PrintWords Go.Proofs.YtooiccpmngmapaaW.PrintLast Go.Proofs.YtooiccpmngmapaaW.PrintMore
def kK (s : Int) : Pr → List Pr → Option (List Pr)
 | cur, [] => some [cur]
 | cur, p :: t => if fQ p.f0 s = cur.f0 then (if cur.f1 + p.f1 ≤ 9223372036854775807 then kK s ⟨cur.f0, cur.f1 + p.f1⟩ t else none) else (kK s ⟨fQ p.f0 s, p.f1⟩ t).map (cur :: ·)
def kG (s : Int) : List Pr → Option (List Pr)
 | [] => some []
 | p :: t => kK s ⟨fQ p.f0 s, p.f1⟩ t
def nG (s : Int) (l : List Pr) : List Pr × Bool := match kG s l with | some r => (r, true) | none => ([], false)
def Uj (l : List Pr) : Prop := ∀ p ∈ l, i64 p.f0 ∧ 0 ≤ p.f1 ∧ p.f1 ≤ 9223372036854775807
theorem Oo (s : Int) (l : List Pr) (hl : l.length < 4398046511104) (hn : Uj l) : ∀ (d k i : Nat) (done : List Pr) (cur : Pr), l.length - i = d → 2 * d + 2 < k → i ≤ l.length → done.length < i → 0 ≤ cur.f1 → cur.f1 ≤ 9223372036854775807 →
    scale_widen_int64.l0 k s (done ++ [cur]) l (l.length : Int) (i : Int) = some (match kK s cur (l.drop i) with | some r => (done ++ r, true) | none => ([], false)) := by
  intro d
  induction d with
  | zero =>
    intro k i done cur hd hk hi hdl h0 h1
    obtain ⟨k, rfl⟩ : ∃ m, k = m + 1 := ⟨k - 1, by omega⟩
    simp only [scale_widen_int64.l0]
    rw [if_neg (by omega), List.drop_eq_nil_of_le (by omega)]
    rfl
  | succ d ih =>
    intro k i done cur hd hk hi hdl h0 h1
    obtain ⟨k, rfl⟩ : ∃ m, k = m + 1 + 1 + 1 := ⟨k - 3, by omega⟩
    have hlt : i < l.length := by omega
    obtain ⟨p0, p1, p2⟩ := hn l[i] (List.getElem_mem hlt)
    have hlast : aZ (done ++ [cur]) (wrap64 (((done ++ [cur]).length : Nat) - 1 : Int)) = cur := by
      rw [eu (by simp <;> omega) (by simp <;> omega), show (((done ++ [cur]).length : Nat) - 1 : Int) = ((done.length : Nat) : Int) by simp, BO (by simp)]
      simp
    have hw : wrap64 (((done ++ [cur]).length : Nat) - 1 : Int) = (done.length : Int) := by rw [eu (by simp <;> omega) (by simp <;> omega)]; simp
    have hlen : (((done ++ [cur]).length : Nat) : Int) = (done.length : Int) + 1 := by simp
    rw [scale_widen_int64.l0]
    rw [if_pos (by omega), if_pos (by omega), if_pos (by omega), BO hlt, rW _ _ _ p0]
    simp only [Option.bind_some]
    rw [if_pos (by rw [hlen]; omega), hlast, hw, if_pos (by omega), if_pos (by rw [hlen]; omega)]
    rw [List.drop_eq_getElem_cons hlt]
    generalize l[i] = p at *
    simp only [scale_widen_int64.j1, kK]
    by_cases he : fQ p.f0 s = cur.f0
    · rw [if_pos (by simp [he]), if_pos he, hw, if_pos (by omega), if_pos (by rw [hlen]; omega)]
      rw [show aZ (done ++ [cur]) (done.length : Int) = cur from by rw [BO (by simp)]; simp]
      simp only [scale_whole.f, Option.bind_some]
      by_cases ho : cur.f1 + p.f1 ≤ 9223372036854775807
      · rw [eu (x := 9223372036854775807 - p.f1) (by omega) (by omega), if_pos (by simp <;> omega), eu (x := cur.f1 + p.f1) (by omega) (by omega), if_pos ho, wrap_succ (by omega)]
        rw [show (done ++ [cur]).set ((done.length : Int)).toNat ⟨cur.f0, cur.f1 + p.f1⟩ = done ++ [⟨cur.f0, cur.f1 + p.f1⟩] from by rw [Int.toNat_natCast]; simp]
        exact ih (k + 1) (i + 1) done _ (by omega) (by omega) (by omega) (by omega) (by show 0 ≤ cur.f1 + p.f1; omega) ho
      · rw [eu (x := 9223372036854775807 - p.f1) (by omega) (by omega), if_neg (by simp <;> omega), if_neg ho]
    · rw [if_neg (by simp; intro h; exact he h.symm), if_neg he, if_pos (by simp <;> omega), wrap_succ (by omega)]
      rw [ih (k + 1) (i + 1) (done ++ [cur]) ⟨fQ p.f0 s, p.f1⟩ (by omega) (by omega) (by omega) (by simp <;> omega) p1 p2]
      cases kK s ⟨fQ p.f0 s, p.f1⟩ (l.drop (i + 1)) with
      | none => rfl
      | some r => simp
theorem VW (s : Int) (l : List Pr) (hl : l.length < 4398046511104) (hn : Uj l) (k : Nat) (hk : 2 * l.length + 4 < k) : scale_widen_int64.f k l s = some (nG s l) := by
  unfold scale_widen_int64.f nG
  obtain ⟨k, rfl⟩ : ∃ m, k = m + 1 + 1 + 1 := ⟨k - 3, by omega⟩
  cases l with
  | nil => simp only [scale_widen_int64.l0]; rfl
  | cons p t =>
    rw [scale_widen_int64.l0, if_pos (by simp <;> omega), if_pos (by omega), if_pos (by simp <;> omega)]
    obtain ⟨p0, p1, p2⟩ := hn p (by simp)
    have hr : aZ (p :: t) 0 = p := rfl
    rw [hr, rW _ _ _ p0]
    simp only [Option.bind_some]
    rw [if_neg (by simp)]
    simp only [scale_widen_int64.j1]
    rw [if_neg (by simp), if_pos (by simp), show wrap64 (0 + 1) = ((1 : Nat) : Int) from by unfold wrap64; omega]
    have := Oo s (p :: t) hl hn t.length (k + 1) 1 [] ⟨fQ p.f0 s, p.f1⟩ (by simp) (by simp at hk; omega) (by simp) (by simp) p1 p2
    rw [List.nil_append] at this ⊢
    rw [this]
    rfl
theorem AO : ∀ (o : List Int) (a : Int) (l : List Int), (∀ x ∈ o, i64 x) → jc a o = some l → fF a l = some o
  | [], a, l, _, h => by cases h; rfl
  | x :: o, a, l, hw, h => by
    simp only [jc] at h
    split at h
    · rename_i hx
      cases hq : jc x o with
      | none => rw [hq] at h; simp at h
      | some l' =>
        rw [hq] at h; simp at h; subst h
        have ih := AO o x l' (fun y hy => hw y (List.mem_cons_of_mem _ hy)) hq
        have hx1 := hw x (List.mem_cons_self ..)
        have e : a + (x - a) = x := by omega
        simp only [fF]
        rw [e, if_pos hx1, ih]; rfl
    · cases h
theorem Cj : ∀ (o : List Int) (a : Int), 0 ≤ a ∧ a ≤ 9223372036854775807 → (∀ x ∈ o, 0 ≤ x ∧ x ≤ 9223372036854775807) → ∃ d, jc a o = some d
  | [], a, _, _ => ⟨[], rfl⟩
  | x :: o, a, ha, h => by
    have hx := h x (List.mem_cons_self ..)
    obtain ⟨d, hd⟩ := Cj o x hx (fun y hy => h y (List.mem_cons_of_mem _ hy))
    refine ⟨(x - a) :: d, ?_⟩
    simp only [jc]
    rw [if_pos (show i64 (x - a) from ⟨by omega, by omega⟩), hd]; rfl
theorem Gz : ∀ (l : List Pr), List.zipWith (fun p x => (⟨p, x⟩ : Pr)) (l.map (·.f0)) (l.map (·.f1)) = l
 | [] => rfl
 | x :: l => by simp only [List.map_cons, List.zipWith_cons_cons, Gz l]
theorem wO : ∀ (l : List Pr) (e : Int), Dc (fun p : Pr => p.f0) l → (∀ p ∈ l, e ≤ p.f0 ∧ p.f0 ≤ 1048576) → rises e (l.map (·.f0)) = true
  | [], _, _, _ => rfl
  | x :: l, e, hu, h => by
    have hx := h x (List.mem_cons_self ..)
    simp only [List.map_cons, rises, Bool.and_eq_true, decide_eq_true_eq]
    exact ⟨hx, wO l (x.f0 + 1) hu.tail (fun p hp => ⟨by have := hu.head p hp; omega, (h p (List.mem_cons_of_mem _ hp)).2⟩)⟩
theorem Uk {l : List Pr} (hr : rises (-1048576) (l.map (·.f0)) = true) (hl : l.length ≤ 1024) : kH l = (spansOf (l.map (·.f0)), l.map (·.f1), 0) := by
 have hs := nV _ hr
 have h1 := hs.len
 rw [List.length_map] at h1
 have hf : jO (l.map (·.f0)) = (spansOf (l.map (·.f0)), 0) := by
  unfold jO
  rw [if_pos hr, if_neg (by rw [List.length_map]; omega), if_neg (by omega)]
 unfold kH; rw [hf]; simp
theorem QO {l : List Pr} (hw : uF l) (hr : rises (-1048576) (l.map (·.f0)) = true) (hl : l.length ≤ 1024) {d : List Int} (hd : jc 0 (l.map (·.f1)) = some d) :
  dU (spansOf (l.map (·.f0))) d = if (l.map (·.f1)).any (fun x => decide (x < 0)) = true then ([], 22) else (l, 0) := by
 have hs := nV _ hr
 have h1 := hs.len
 rw [List.length_map] at h1
 have hc := wu hr (by rw [List.length_map]; omega) (by omega)
 have hsum := AO _ _ _ (by intro x hx; obtain ⟨p, hp, rfl⟩ := List.mem_map.1 hx; exact (hw.1 p hp).2) hd
 have hdl := kW d 0 _ hsum
 have hcn := hs.cnt
 rw [List.length_map] at hdl hcn
 unfold dU
 rw [if_pos hc, if_pos (by omega), hsum]
 simp only
 rw [hs.pl, Gz]
theorem PZ {l : List Pr} (h : cnts l) : (l.map (·.f1)).any (fun x => decide (x < 0)) = false := by
 rw [List.any_eq_false]
 intro x hx
 obtain ⟨p, hp, rfl⟩ := List.mem_map.1 hx
 have := h p hp
 simp; omega
theorem Ul {l : List Pr} (h : RowOK l) (hb : ∀ p ∈ l, -1048576 ≤ p.f0 ∧ p.f0 ≤ 1048576) (hl : l.length ≤ 1024) : ∃ d, sN l = (spansOf (l.map (·.f0)), d, 0) ∧ dU (spansOf (l.map (·.f0))) d = (l, 0) ∧ uq true (spansOf (l.map (·.f0))) = true ∧ fZ (spansOf (l.map (·.f0))) = 0 ∧ d.length = l.length ∧ (spansOf (l.map (·.f0))).length ≤ l.length := by
 have hr := wO l _ h.ups hb
 obtain ⟨d, hd⟩ := Cj (l.map (·.f1)) 0 (by omega) (by intro x hx; obtain ⟨p, hp, rfl⟩ := List.mem_map.1 hx; exact (h.cnt p hp).2)
 have hs := nV _ hr
 have h1 := hs.len
 rw [List.length_map] at h1
 have hdl : d.length = l.length := by
  have hsum := AO _ _ _ (by intro x hx; obtain ⟨p, hp, rfl⟩ := List.mem_map.1 hx; exact (h.wf.1 p hp).2) hd
  have := kW d 0 _ hsum
  rw [List.length_map] at this; omega
 refine ⟨d, ?_, ?_, hs.can, wu hr (by rw [List.length_map]; omega) (by omega), hdl, h1⟩
 ·unfold sN
  rw [Uk hr hl, hd]; simp
 ·rw [QO h.wf hr hl hd, PZ h.cnt]; simp
theorem sO {l : List Pr} (h : RowOK l) : RowOK (jq l) :=
 ⟨F9 h.wf, Nat.le_trans (List.length_filter_le _ _) h.len, fun p hp => h.cnt p (List.mem_filter.1 hp).1, h.ups.filter _⟩
theorem uK : ∀ (l : List Pr), kF (jq l) = kF l
  | [] => rfl
  | x :: l => by
    have ih := uK l
    unfold jq kF at *
    rw [List.filter_cons]
    by_cases c : x.f1 = 0
    · simp only [c, beq_self_eq_true, Bool.not_true, Bool.false_eq_true, if_false, List.map_cons, List.sum_cons, Int.zero_add]; exact ih
    · have : (!(x.f1 == 0)) = true := by simp [c]
      rw [if_pos this]; simp only [List.map_cons, List.sum_cons, ih]
theorem GH (zc ct sm : Int) {p p' n n' : List Pr} (h1 : kF p' = kF p) (h2 : kF n' = kF n) : fits zc ct sm p' n' = fits zc ct sm p n := by
 unfold fits nC sK
 simp only [List.map_cons, List.map_nil, h1, h2]
theorem vV {l : List Sp} {d : List Int} (h0 : (dU l d).2 = 0) : (∀ p ∈ (dU l d).1, -1048576 ≤ p.f0 ∧ p.f0 ≤ 1048576) ∧ (dU l d).1.length = d.length ∧ (dU l d).1.map (·.f0) = uP 0 l ∧ fZ l = 0 := by
  unfold dU at h0 ⊢
  by_cases c1 : fZ l = 0
  rotate_left
  · rw [if_neg c1] at h0; exact absurd h0 c1
  rw [if_pos c1] at h0 ⊢
  by_cases c2 : nT l = d.length
  rotate_left
  · rw [if_neg c2] at h0; cases h0
  rw [if_pos c2] at h0 ⊢
  cases hs : fF 0 d with
  | none => rw [hs] at h0; cases h0
  | some c =>
    rw [hs] at h0
    simp only at h0 ⊢
    by_cases c3 : c.any (fun x => decide (x < 0)) = true
    · rw [if_pos c3] at h0; cases h0
    rw [if_neg c3]
    have hr := uw c1
    have hpl := rD l 0 (fun s hs => (nU l _ _ _ (jW c1).2 s hs).1)
    have hc := kW d 0 c hs
    have hz := Yk (uP 0 l) c (by omega)
    refine ⟨fun y hy => ?_, by simp; omega, hz.1, c1⟩
    have : y.f0 ∈ uP 0 l := by
      obtain ⟨i, hi, rfl⟩ := List.mem_iff_getElem.1 hy
      simp only [List.getElem_zipWith]; exact List.getElem_mem _
    exact zV hr _ this
theorem zl {h : Hi} (hc : jD h = 0) : uH h = 0 ∧ (dU h.f5 h.f7).2 = 0 ∧ (dU h.f6 h.f8).2 = 0 ∧ fits h.f2 h.f3 h.f4 (dU h.f5 h.f7).1 (dU h.f6 h.f8).1 = true := by
 rw [Dx] at hc
 by_cases c1 : uH h = 0
 rotate_left
 ·rw [if_pos c1] at hc; exact absurd hc c1
 rw [if_neg (by simp [c1])] at hc
 by_cases c2 : (dU h.f5 h.f7).2 = 0
 rotate_left
 ·rw [if_pos c2] at hc; exact absurd hc c2
 rw [if_neg (by simp [c2])] at hc
 by_cases c3 : (dU h.f6 h.f8).2 = 0
 rotate_left
 ·rw [if_pos c3] at hc; exact absurd hc c3
 rw [if_neg (by simp [c3])] at hc
 by_cases c4 : fits h.f2 h.f3 h.f4 (dU h.f5 h.f7).1 (dU h.f6 h.f8).1 = true
 ·exact ⟨c1, c2, c3, c4⟩
 ·rw [if_neg c4] at hc; cases hc
theorem Cm {h : Hi} (c1 : uH h = 0) (c2 : (dU h.f5 h.f7).2 = 0) (c3 : (dU h.f6 h.f8).2 = 0) (c4 : fits h.f2 h.f3 h.f4 (dU h.f5 h.f7).1 (dU h.f6 h.f8).1 = true) : jD h = 0 := by
 rw [Dx, if_neg (by simp [c1]), if_neg (by simp [c2]), if_neg (by simp [c3]), if_pos c4]
theorem J6 {i s B : Int} (hB : 0 ≤ B) (h0 : -B ≤ i) (h1 : i ≤ B) : -B ≤ fQ i s ∧ fQ i s ≤ B := by
 unfold fQ
 by_cases h : s < 0 ∨ s > 62
 ·rw [if_pos h]; exact ⟨h0, h1⟩
 rw [if_neg h]
 have hD : (0 : Int) < 2 ^ s.toNat := Int.pow_pos (by decide)
 generalize (2 : Int) ^ s.toNat = D at *
 have e := Int.mul_ediv_add_emod (-i) D
 have m0 := Int.emod_nonneg (-i) (by omega : D ≠ 0)
 have m1 := Int.emod_lt_of_pos (-i) hD
 generalize (-i) / D = q at *
 have a1 : q ≤ B := by
  rcases Int.le_total q 0 with hq | hq
  ·omega
  ·have := Int.mul_le_mul_of_nonneg_right (a := 1) (b := D) (c := q) (by omega) hq
   omega
 have a2 : -B ≤ q := by
  rcases Int.le_total 0 (q + 1) with hq | hq
  ·rcases Int.lt_or_le (q + 1) 1 with h2 | h2
   ·obtain rfl : q = -1 := by omega
    rw [Int.mul_neg, Int.mul_one] at e
    omega
   ·omega
  ·have := Int.mul_le_mul_of_nonneg_right (a := 1) (b := D) (c := -(q + 1)) (by omega) (by omega)
   rw [Int.one_mul, Int.mul_neg, Int.mul_add, Int.mul_one] at this
   omega
 omega
theorem zZ (p : Pr) (l : List Pr) : kF (p :: l) = p.f1 + kF l := by simp [kF]
theorem CB (s : Int) : ∀ (l : List Pr) (cur : Pr) (r : List Pr), kK s cur l = some r → (∀ p ∈ l, 0 ≤ p.f1 ∧ p.f1 ≤ 9223372036854775807) → 0 ≤ cur.f1 → cur.f1 ≤ 9223372036854775807 →
    r.length ≤ l.length + 1 ∧ kF r = cur.f1 + kF l ∧ (∀ p ∈ r, 0 ≤ p.f1 ∧ p.f1 ≤ 9223372036854775807) ∧ (∀ p ∈ r, p.f0 = cur.f0 ∨ ∃ q ∈ l, p.f0 = fQ q.f0 s) := by
  intro l
  induction l with
  | nil =>
    intro cur r h hn h0 h1
    cases h
    refine ⟨by simp, by simp [kF], fun p hp => ?_, fun p hp => ?_⟩
    · obtain rfl : p = cur := by simpa using hp
      exact ⟨h0, h1⟩
    · obtain rfl : p = cur := by simpa using hp
      exact .inl rfl
  | cons p t ih =>
    intro cur r h hn h0 h1
    have hp := hn p (by simp)
    have hn' : ∀ q ∈ t, 0 ≤ q.f1 ∧ q.f1 ≤ 9223372036854775807 := fun q hq => hn q (List.mem_cons_of_mem _ hq)
    simp only [kK] at h
    split at h
    · rename_i he
      split at h
      · rename_i ho
        obtain ⟨a, b, c, d⟩ := ih _ _ h hn' (by show 0 ≤ cur.f1 + p.f1; omega) ho
        refine ⟨by simp; omega, by rw [b, zZ]; simp only; omega, c, fun q hq => ?_⟩
        rcases d q hq with d | ⟨q', hq', d⟩
        · exact .inl d
        · exact .inr ⟨q', List.mem_cons_of_mem _ hq', d⟩
      · cases h
    · cases hr : kK s ⟨fQ p.f0 s, p.f1⟩ t with
      | none => rw [hr] at h; cases h
      | some r' =>
        rw [hr] at h
        cases h
        obtain ⟨a, b, c, d⟩ := ih _ _ hr hn' hp.1 hp.2
        refine ⟨by simp; omega, by rw [zZ, b, zZ], fun q hq => ?_, fun q hq => ?_⟩
        · rcases List.mem_cons.1 hq with rfl | hq
          · exact ⟨h0, h1⟩
          · exact c q hq
        · rcases List.mem_cons.1 hq with rfl | hq
          · exact .inl rfl
          · rcases d q hq with d | ⟨q', hq', d⟩
            · exact .inr ⟨p, by simp, d⟩
            · exact .inr ⟨q', List.mem_cons_of_mem _ hq', d⟩
theorem Mc (s : Int) : ∀ (l : List Pr) (cur : Pr) (r : List Pr), kK s cur l = some r → Dc (fun p : Pr => p.f0) l → (∀ q ∈ l, cur.f0 ≤ fQ q.f0 s) → (∀ p ∈ l, 0 ≤ p.f1 ∧ p.f1 ≤ 9223372036854775807) → 0 ≤ cur.f1 → cur.f1 ≤ 9223372036854775807 → Dc (fun p : Pr => p.f0) r := by
  intro l
  induction l with
  | nil => intro cur r h _ _ _ _ _; cases h; exact List.pairwise_cons.2 ⟨fun y hy => by simp at hy, List.Pairwise.nil⟩
  | cons p t ih =>
    intro cur r h hu hle hn h0 h1
    have hp := hn p (by simp)
    have hn' : ∀ q ∈ t, 0 ≤ q.f1 ∧ q.f1 ≤ 9223372036854775807 := fun q hq => hn q (List.mem_cons_of_mem _ hq)
    simp only [kK] at h
    split at h
    · rename_i he
      split at h
      · rename_i ho
        exact ih _ _ h hu.tail (fun q hq => hle q (List.mem_cons_of_mem _ hq)) hn' (by show 0 ≤ cur.f1 + p.f1; omega) ho
      · cases h
    · rename_i he
      cases hr : kK s ⟨fQ p.f0 s, p.f1⟩ t with
      | none => rw [hr] at h; cases h
      | some r' =>
        rw [hr] at h
        cases h
        have hm : ∀ q ∈ t, fQ p.f0 s ≤ fQ q.f0 s := fun q hq => xQ (Int.le_of_lt (hu.head q hq))
        have := ih _ _ hr hu.tail hm hn' hp.1 hp.2
        refine List.pairwise_cons.2 ⟨fun y hy => ?_, this⟩
        have hlt : cur.f0 < fQ p.f0 s := by have := hle p (by simp); omega
        obtain ⟨_, _, _, d⟩ := CB s _ _ _ hr hn' hp.1 hp.2
        rcases d y hy with d | ⟨q', hq', d⟩
        · show cur.f0 < y.f0; rw [d]; exact hlt
        · have := hm q' hq'
          show cur.f0 < y.f0; omega
theorem lq {s : Int} {l r : List Pr} (h : RowOK l) (hr : kG s l = some r) : RowOK r ∧ r.length ≤ l.length ∧ kF r = kF l ∧ ∀ p ∈ r, ∃ q ∈ l, p.f0 = fQ q.f0 s := by
  have hc : ∀ q ∈ l, 0 ≤ q.f1 ∧ q.f1 ≤ 9223372036854775807 := fun q hq => (h.cnt q hq).2
  cases l with
  | nil => cases hr; exact ⟨RowOK.nil, by simp, rfl, fun p hp => by simp at hp⟩
  | cons p t =>
    have hp := hc p (by simp)
    have hn : ∀ q ∈ t, 0 ≤ q.f1 ∧ q.f1 ≤ 9223372036854775807 := fun q hq => hc q (List.mem_cons_of_mem _ hq)
    obtain ⟨a, b, c, d⟩ := CB s t _ r hr hn hp.1 hp.2
    have hu := Mc s t _ r hr h.ups.tail (fun q hq => xQ (Int.le_of_lt (h.ups.head q hq))) hn hp.1 hp.2
    have d' : ∀ q ∈ r, ∃ q' ∈ p :: t, q.f0 = fQ q'.f0 s := fun q hq => by
      rcases d q hq with d | ⟨q', hq', d⟩
      · exact ⟨p, by simp, d⟩
      · exact ⟨q', List.mem_cons_of_mem _ hq', d⟩
    have hl : r.length ≤ (p :: t).length := by simp; omega
    refine ⟨⟨⟨fun q hq => ⟨?_, ?_⟩, Nat.lt_of_le_of_lt hl h.wf.2⟩, Nat.le_trans hl h.len, fun q hq => ⟨?_, c q hq⟩, hu⟩, hl, by rw [b, zZ], d'⟩
    · obtain ⟨q', hq', e⟩ := d' q hq
      rw [e]; exact xP (h.wf.1 q' hq').1
    · have := c q hq
      unfold i64; omega
    · obtain ⟨q', hq', e⟩ := d' q hq
      rw [e]; exact xP (h.wf.1 q' hq').1
def wP (h : Hi) (tt : Int) : Hi := ⟨tt, h.f1, h.f2, h.f3, h.f4, h.f5, h.f6, h.f7, h.f8⟩
def lM (h : Hi) (tt : Int) : Hi × Int :=
 if jD h ≠ 0 then (qH, jD h) else if tt < -4 ∨ tt > h.f0 then (qH, 21)
 else match kG (h.f0 - tt) (iy h).1, kG (h.f0 - tt) (iy h).2.1 with
  | some p, some n => vC (wP h tt) (jq p) (jq n)
  | _, _ => (qH, 28)
theorem Yl {l : List Pr} (h : RowOK l) : Uj l := h.cnt
theorem GK (s : Int) {l : List Pr} (h : RowOK l) : RowOK (nG s l).1 ∧ (nG s l).1.length ≤ l.length := by
 unfold nG
 cases hr : kG s l with
 | none => exact ⟨RowOK.nil, by simp⟩
 | some r => exact ⟨(lq h hr).1, (lq h hr).2.1⟩
theorem rX {h : Hi} (hc : jD h = 0) : -4 ≤ h.f0 ∧ h.f0 ≤ 8 := by
 unfold jD iy xJ at hc
 split at hc
 ·cases hc
 ·omega
theorem Ea {W : World} {g g' : Nat} {o : Obj} (h : W.heap[g]? = some o) (hne : g ≠ g') (j : Nat) (u : Value) : (W.setCell ⟨g', j, none⟩ u).heap[g]? = some o := (Below.heap_setCell W ⟨g', j, none⟩ u g hne).trans h
theorem qU.Rz {w : World} {g : Nat} {cs : Array Value} {t : TypeId} (h : qU w g cs t) : g + 1 ≤ w.heap.size := kL h
def FJ {α : Type} (d : Kd α) (base : Nat) (w : World) (v : Value) (l : List α) : Prop := FI d base w v l
theorem FJ.below {α : Type} {d : Kd α} {base : Nat} {w w' : World} {v : Value} {l : List α} (h : FJ d base w v l) (hb : Below w.heap.size w w') : FJ d base w' v l := FI.step h (KA.below hb)
theorem FJ.step {α : Type} {d : Kd α} {base : Nat} {w w' : World} {v : Value} {l : List α} (h : FJ d base w v l) (k : KA base w w') : FJ d base w' v l := FI.step h k
theorem FJ.now {α : Type} {d : Kd α} {base : Nat} {w : World} {v : Value} {l : List α} (h : FJ d base w v l) : SI d w v l := FI.now h
theorem P7 (base : Nat) (s : Int) (l : List Pr) (hr : RowOK l) (w : World) (v : Value) (hv : SI kPr w v l) (hbase : base ≤ w.heap.size) : Calls Try.prog 80 #[v, .int .i64 s, .func (.func 81) #[] #[]] w fun e w' =>
  ∃ v0, e = .returned (.tuple #[v0, .bool (nG s l).2]) ∧ FJ kPr base w' v0 (nG s l).1 ∧ Below w.heap.size w w' := by
 obtain ⟨A, c, rfl, hc, hr'⟩ := hv
 have hl := hr.wf.2
 refine (scale_widen_int64.calls (2 * l.length + 5) A c l s (nG s l).1 (nG s l).2 w hr' hc (VW s l hl (Yl hr) _ (by omega))).mono ?_
 rintro e w1 ⟨v0, rfl, h0, hb⟩
 exact ⟨v0, rfl, FI.qR h0 hbase, hb⟩
set_option maxHeartbeats 16000000 in
set_option maxRecDepth 100000 in
theorem CG (h : Hi) (hw : yQ h) (tt : Int) (ht : i64 tt) (w : World) (v : Value) (hv : HI w v h) : Calls Try.prog 27 #[v, .int .i64 tt] w fun e w' =>
    ∃ v', e = .returned (.tuple #[v', .int .i64 (lM h tt).2]) ∧ HF w.heap.size w' v' (lM h tt).1 ∧ Below w.heap.size w w' := by
  have hu := Try.underlying29
  obtain ⟨A5, c5, A6, c6, A7, c7, A8, c8, e, s5, s6, s7, s8⟩ := hv.open_
  subst e
  have HV := ah hv
  have p0 := PL h hw 0
  have p1 := PL h hw 1
  have Oq := (zY hw).1
  have Ot := (zY hw).2
  rw [show Au h 0 = ((iy h).1, jD h) from by unfold Au; rw [if_pos rfl]; rfl] at p0
  rw [show Au h 1 = ((iy h).2.1, jD h) from by unfold Au; rw [if_neg (by decide), if_pos rfl]; rfl] at p1
  unfold lM
  generalize hce : jD h = ce at *
  by_cases c0 : ce = 0
  rotate_left
  · rw [if_pos c0]
    have c0a : (ce != 0) = true := bne_iff_ne.2 c0
    simp only at p0
    have P0 := ah p0
    clear c0 hce p0 p1 Oq Ot hv hw
    have X := ah ((qU.new w #[.int .i64 h.f0, .int .u64 h.f1, .int .u64 h.f2, .int .u64 h.f3, .int .u64 h.f4, .slice A5 h.f5.length c5, .slice A6 h.f6.length c6, .slice A7 h.f7.length c7, .slice A8 h.f8.length c8] 29).alloc (.cells #[.int .i64 0, .int .u64 0, .int .u64 0, .int .u64 0, .int .u64 0, .slice none 0 0, .slice none 0 0, .slice none 0 0, .slice none 0 0] 29)); have hx := fun i => X.out.cell i; have zx := fun i => aG X.out i
    have Y := ah (qU.Ua (w := w) (.cells #[.int .i64 h.f0, .int .u64 h.f1, .int .u64 h.f2, .int .u64 h.f3, .int .u64 h.f4, .slice A5 h.f5.length c5, .slice A6 h.f6.length c6, .slice A7 h.f7.length c7, .slice A8 h.f8.length c8] 29) #[.int .i64 0, .int .u64 0, .int .u64 0, .int .u64 0, .int .u64 0, .slice none 0 0, .slice none 0 0, .slice none 0 0, .slice none 0 0] 29); have hy := fun i => Y.out.cell i; have zy := fun i => aG Y.out i
    have B := ah (ak (ak (Below.refl w.heap.size w) (.cells #[.int .i64 h.f0, .int .u64 h.f1, .int .u64 h.f2, .int .u64 h.f3, .int .u64 h.f4, .slice A5 h.f5.length c5, .slice A6 h.f6.length c6, .slice A7 h.f7.length c7, .slice A8 h.f8.length c8] 29)) (.cells #[.int .i64 0, .int .u64 0, .int .u64 0, .int .u64 0, .int .u64 0, .slice none 0 0, .slice none 0 0, .slice none 0 0, .slice none 0 0] 29))
    replace HV := ah ((HV.out.below (ak (Below.refl _ _) (.cells #[.int .i64 h.f0, .int .u64 h.f1, .int .u64 h.f2, .int .u64 h.f3, .int .u64 h.f4, .slice A5 h.f5.length c5, .slice A6 h.f6.length c6, .slice A7 h.f7.length c7, .slice A8 h.f8.length c8] 29))).below (ak (Below.refl _ _) (.cells #[.int .i64 0, .int .u64 0, .int .u64 0, .int .u64 0, .int .u64 0, .slice none 0 0, .slice none 0 0, .slice none 0 0, .slice none 0 0] 29)))
    go_enter Try.func27, Try.ntmps27
    go_wp2_with (first | (go_at_call 78; (with_reducible refine (P0.out _ _ HV.out).mono ?_); rintro e W1 ⟨v0, rfl, hs, hb⟩; replace B := ah (aH B.out B.out.size hb); replace HV := ah (HV.out.below hb); replace X := ah (X.out.below hb); replace hx := fun i => X.out.cell i; replace zx := fun i => aG X.out i; replace Y := ah (Y.out.below hb); replace hy := fun i => Y.out.cell i; replace zy := fun i => aG Y.out i; have S0 := ah hs; clear P0 hs hb))
    refine bodyPost_ret (gQ rfl _ _ (w.heap.size + 1) 29 #[.int .i64 0, .int .u64 0, .int .u64 0, .int .u64 0, .int .u64 0, .slice none 0 0, .slice none 0 0, .slice none 0 0, .slice none 0 0] (0, 0) _ rfl (nine Y.out _ _ _ _ _ _ _ _ _) Try.underlying29 rfl (by kernel_rfl)) rfl ?_
    exact ⟨_, rfl, HF.empty _ _, jd B.out (by omega) _ _ _ _ _ _ _ _ _⟩
  rw [if_neg (by simp [c0])]
  have hs := rX (show jD h = 0 by rw [hce]; exact c0)
  subst c0
  have sw : scale_wrong.f h.f0 tt = some (decide (tt < -4 ∨ tt > h.f0)) := by
    unfold scale_wrong.f
    by_cases c1 : tt < -4
    · rw [if_pos c1]; simp [c1]
    · rw [if_neg c1]; simp [c1]
  have wr : ∀ w : World, Calls Try.prog 79 #[.int .i64 h.f0, .int .i64 tt] w fun e w' => e = .returned (.bool (decide (tt < -4 ∨ tt > h.f0))) ∧ Below w.heap.size w w' := fun w => (scale_wrong.calls h.f0 tt _ w sw).mono fun e w1 h => ⟨h.1, h.2.below⟩
  have P0 := ah p0
  have P1 := ah p1
  clear hce p0 p1 hv
  by_cases c1 : tt < -4 ∨ tt > h.f0
  · rw [if_pos c1]
    rw [aiJ c1] at wr
    have WR := ah wr
    clear c1 wr sw hs hw Oq Ot ht
    have X := ah ((qU.new w #[.int .i64 h.f0, .int .u64 h.f1, .int .u64 h.f2, .int .u64 h.f3, .int .u64 h.f4, .slice A5 h.f5.length c5, .slice A6 h.f6.length c6, .slice A7 h.f7.length c7, .slice A8 h.f8.length c8] 29).alloc (.cells #[.int .i64 0, .int .u64 0, .int .u64 0, .int .u64 0, .int .u64 0, .slice none 0 0, .slice none 0 0, .slice none 0 0, .slice none 0 0] 29)); have hx := fun i => X.out.cell i; have zx := fun i => aG X.out i
    have Y := ah (qU.Ua (w := w) (.cells #[.int .i64 h.f0, .int .u64 h.f1, .int .u64 h.f2, .int .u64 h.f3, .int .u64 h.f4, .slice A5 h.f5.length c5, .slice A6 h.f6.length c6, .slice A7 h.f7.length c7, .slice A8 h.f8.length c8] 29) #[.int .i64 0, .int .u64 0, .int .u64 0, .int .u64 0, .int .u64 0, .slice none 0 0, .slice none 0 0, .slice none 0 0, .slice none 0 0] 29); have hy := fun i => Y.out.cell i; have zy := fun i => aG Y.out i
    have B := ah (ak (ak (Below.refl w.heap.size w) (.cells #[.int .i64 h.f0, .int .u64 h.f1, .int .u64 h.f2, .int .u64 h.f3, .int .u64 h.f4, .slice A5 h.f5.length c5, .slice A6 h.f6.length c6, .slice A7 h.f7.length c7, .slice A8 h.f8.length c8] 29)) (.cells #[.int .i64 0, .int .u64 0, .int .u64 0, .int .u64 0, .int .u64 0, .slice none 0 0, .slice none 0 0, .slice none 0 0, .slice none 0 0] 29))
    replace HV := ah ((HV.out.below (ak (Below.refl _ _) (.cells #[.int .i64 h.f0, .int .u64 h.f1, .int .u64 h.f2, .int .u64 h.f3, .int .u64 h.f4, .slice A5 h.f5.length c5, .slice A6 h.f6.length c6, .slice A7 h.f7.length c7, .slice A8 h.f8.length c8] 29))).below (ak (Below.refl _ _) (.cells #[.int .i64 0, .int .u64 0, .int .u64 0, .int .u64 0, .int .u64 0, .slice none 0 0, .slice none 0 0, .slice none 0 0, .slice none 0 0] 29)))
    go_enter Try.func27, Try.ntmps27
    go_wp2_with (first | (go_at_call 78; (with_reducible refine (P0.out _ _ HV.out).mono ?_); rintro e W1 ⟨v0, rfl, hs, hb⟩; replace B := ah (aH B.out B.out.size hb); replace HV := ah (HV.out.below hb); replace X := ah (X.out.below hb); replace hx := fun i => X.out.cell i; replace zx := fun i => aG X.out i; replace Y := ah (Y.out.below hb); replace hy := fun i => Y.out.cell i; replace zy := fun i => aG Y.out i; have S0 := ah hs; clear P0 hs hb) | (go_at_call 78; (with_reducible refine (P1.out _ _ HV.out).mono ?_); rintro e W2 ⟨v1, rfl, hs, hb⟩; replace B := ah (aH B.out B.out.size hb); replace HV := ah (HV.out.below hb); replace S0 := ah (S0.out.below hb); replace X := ah (X.out.below hb); replace hx := fun i => X.out.cell i; replace zx := fun i => aG X.out i; replace Y := ah (Y.out.below hb); replace hy := fun i => Y.out.cell i; replace zy := fun i => aG Y.out i; have S1 := ah hs; clear P1 hs hb) | (go_at_call 79; (with_reducible refine (WR.out _).mono ?_); rintro e W3 ⟨rfl, hb⟩; replace B := ah (aH B.out B.out.size hb); replace HV := ah (HV.out.below hb); replace S0 := ah (S0.out.below hb); replace S1 := ah (S1.out.below hb); replace X := ah (X.out.below hb); replace hx := fun i => X.out.cell i; replace zx := fun i => aG X.out i; replace Y := ah (Y.out.below hb); replace hy := fun i => Y.out.cell i; replace zy := fun i => aG Y.out i; clear  hb))
    refine bodyPost_ret (gQ rfl _ _ (w.heap.size + 1) 29 #[.int .i64 0, .int .u64 0, .int .u64 0, .int .u64 0, .int .u64 0, .slice none 0 0, .slice none 0 0, .slice none 0 0, .slice none 0 0] (0, 0) _ rfl (nine Y.out _ _ _ _ _ _ _ _ _) Try.underlying29 rfl (by kernel_rfl)) rfl ?_
    exact ⟨_, rfl, HF.empty _ _, jd B.out (by omega) _ _ _ _ _ _ _ _ _⟩
  rw [if_neg c1]
  rw [aiK c1] at wr
  have WR := ah wr
  obtain ⟨dd, hdd⟩ : ∃ dd, dd = h.f0 - tt := ⟨_, rfl⟩
  have hd : IntKind.i64.wrap (h.f0 - tt) = dd := by rw [dh, hdd]; exact eu (by omega) (by omega)
  rw [← hdd]
  have hwl : yQ (wP h tt) := by
    obtain ⟨_, w⟩ := hw
    exact ⟨ht, w⟩
  have q0 := P7 (w.heap.size + 1 + 1) dd (iy h).1 Oq
  have q1 := P7 (w.heap.size + 1 + 1) dd (iy h).2.1 Ot
  have ok0 := GK dd Oq
  have ok1 := GK dd Ot
  clear wr sw hs hw
  cases hA : kG dd (iy h).1 with
  | none =>
    rw [show nG dd (iy h).1 = ([], false) from by unfold nG; rw [hA]] at q0
    generalize nG dd (iy h).2.1 = b1 at q1
    simp only at q0 ⊢
    have Q0 := ah q0
    have Q1 := ah q1
    clear q0 q1 ok0 ok1 Oq Ot hwl ht c1 hdd hA
    have X := ah ((qU.new w #[.int .i64 h.f0, .int .u64 h.f1, .int .u64 h.f2, .int .u64 h.f3, .int .u64 h.f4, .slice A5 h.f5.length c5, .slice A6 h.f6.length c6, .slice A7 h.f7.length c7, .slice A8 h.f8.length c8] 29).alloc (.cells #[.int .i64 0, .int .u64 0, .int .u64 0, .int .u64 0, .int .u64 0, .slice none 0 0, .slice none 0 0, .slice none 0 0, .slice none 0 0] 29)); have hx := fun i => X.out.cell i; have zx := fun i => aG X.out i
    have Y := ah (qU.Ua (w := w) (.cells #[.int .i64 h.f0, .int .u64 h.f1, .int .u64 h.f2, .int .u64 h.f3, .int .u64 h.f4, .slice A5 h.f5.length c5, .slice A6 h.f6.length c6, .slice A7 h.f7.length c7, .slice A8 h.f8.length c8] 29) #[.int .i64 0, .int .u64 0, .int .u64 0, .int .u64 0, .int .u64 0, .slice none 0 0, .slice none 0 0, .slice none 0 0, .slice none 0 0] 29); have hy := fun i => Y.out.cell i; have zy := fun i => aG Y.out i
    have B := ah (ak (ak (Below.refl w.heap.size w) (.cells #[.int .i64 h.f0, .int .u64 h.f1, .int .u64 h.f2, .int .u64 h.f3, .int .u64 h.f4, .slice A5 h.f5.length c5, .slice A6 h.f6.length c6, .slice A7 h.f7.length c7, .slice A8 h.f8.length c8] 29)) (.cells #[.int .i64 0, .int .u64 0, .int .u64 0, .int .u64 0, .int .u64 0, .slice none 0 0, .slice none 0 0, .slice none 0 0, .slice none 0 0] 29))
    replace HV := ah ((HV.out.below (ak (Below.refl _ _) (.cells #[.int .i64 h.f0, .int .u64 h.f1, .int .u64 h.f2, .int .u64 h.f3, .int .u64 h.f4, .slice A5 h.f5.length c5, .slice A6 h.f6.length c6, .slice A7 h.f7.length c7, .slice A8 h.f8.length c8] 29))).below (ak (Below.refl _ _) (.cells #[.int .i64 0, .int .u64 0, .int .u64 0, .int .u64 0, .int .u64 0, .slice none 0 0, .slice none 0 0, .slice none 0 0, .slice none 0 0] 29)))
    go_enter Try.func27, Try.ntmps27
    go_wp2_with (first | (go_at_call 78; (with_reducible refine (P0.out _ _ HV.out).mono ?_); rintro e W1 ⟨v0, rfl, hs, hb⟩; replace B := ah (aH B.out B.out.size hb); replace HV := ah (HV.out.below hb); replace X := ah (X.out.below hb); replace hx := fun i => X.out.cell i; replace zx := fun i => aG X.out i; replace Y := ah (Y.out.below hb); replace hy := fun i => Y.out.cell i; replace zy := fun i => aG Y.out i; have S0 := ah hs; clear P0 hs hb) | (go_at_call 78; (with_reducible refine (P1.out _ _ HV.out).mono ?_); rintro e W2 ⟨v1, rfl, hs, hb⟩; replace B := ah (aH B.out B.out.size hb); replace HV := ah (HV.out.below hb); replace S0 := ah (S0.out.below hb); replace X := ah (X.out.below hb); replace hx := fun i => X.out.cell i; replace zx := fun i => aG X.out i; replace Y := ah (Y.out.below hb); replace hy := fun i => Y.out.cell i; replace zy := fun i => aG Y.out i; have S1 := ah hs; clear P1 hs hb) | (go_at_call 79; (with_reducible refine (WR.out _).mono ?_); rintro e W3 ⟨rfl, hb⟩; replace B := ah (aH B.out B.out.size hb); replace HV := ah (HV.out.below hb); replace S0 := ah (S0.out.below hb); replace S1 := ah (S1.out.below hb); replace X := ah (X.out.below hb); replace hx := fun i => X.out.cell i; replace zx := fun i => aG X.out i; replace Y := ah (Y.out.below hb); replace hy := fun i => Y.out.cell i; replace zy := fun i => aG Y.out i; clear  hb) | (go_at_call 80; (with_reducible refine (Q0.out _ _ S0.out Y.out.Rz).mono ?_); rintro e W4 ⟨u0, rfl, hs, hb⟩; replace B := ah (aH B.out B.out.size hb); replace HV := ah (HV.out.below hb); replace S0 := ah (S0.out.below hb); replace S1 := ah (S1.out.below hb); replace X := ah (X.out.below hb); replace hx := fun i => X.out.cell i; replace zx := fun i => aG X.out i; replace Y := ah (Y.out.below hb); replace hy := fun i => Y.out.cell i; replace zy := fun i => aG Y.out i; have U0 := ah hs; clear Q0 hs hb) | (go_at_call 80; (with_reducible refine (Q1.out _ _ S1.out Y.out.Rz).mono ?_); rintro e W5 ⟨u1, rfl, hs, hb⟩; replace B := ah (aH B.out B.out.size hb); replace HV := ah (HV.out.below hb); replace S0 := ah (S0.out.below hb); replace S1 := ah (S1.out.below hb); replace U0 := ah (U0.out.below hb); replace X := ah (X.out.below hb); replace hx := fun i => X.out.cell i; replace zx := fun i => aG X.out i; replace Y := ah (Y.out.below hb); replace hy := fun i => Y.out.cell i; replace zy := fun i => aG Y.out i; have U1 := ah hs; clear Q1 hs hb))
    refine bodyPost_ret (gQ rfl _ _ (w.heap.size + 1) 29 #[.int .i64 0, .int .u64 0, .int .u64 0, .int .u64 0, .int .u64 0, .slice none 0 0, .slice none 0 0, .slice none 0 0, .slice none 0 0] (0, 0) _ rfl (nine Y.out _ _ _ _ _ _ _ _ _) Try.underlying29 rfl (by kernel_rfl)) rfl ?_
    exact ⟨_, rfl, HF.empty _ _, jd B.out (by omega) _ _ _ _ _ _ _ _ _⟩
  | some p =>
  rw [show nG dd (iy h).1 = (p, true) from by unfold nG; rw [hA]] at q0 ok0
  cases hB : kG dd (iy h).2.1 with
  | none =>
    rw [show nG dd (iy h).2.1 = ([], false) from by unfold nG; rw [hB]] at q1
    simp only at q0 q1 ⊢
    have Q0 := ah q0
    have Q1 := ah q1
    clear q0 q1 ok0 ok1 Oq Ot hwl ht c1 hdd hA hB
    have X := ah ((qU.new w #[.int .i64 h.f0, .int .u64 h.f1, .int .u64 h.f2, .int .u64 h.f3, .int .u64 h.f4, .slice A5 h.f5.length c5, .slice A6 h.f6.length c6, .slice A7 h.f7.length c7, .slice A8 h.f8.length c8] 29).alloc (.cells #[.int .i64 0, .int .u64 0, .int .u64 0, .int .u64 0, .int .u64 0, .slice none 0 0, .slice none 0 0, .slice none 0 0, .slice none 0 0] 29)); have hx := fun i => X.out.cell i; have zx := fun i => aG X.out i
    have Y := ah (qU.Ua (w := w) (.cells #[.int .i64 h.f0, .int .u64 h.f1, .int .u64 h.f2, .int .u64 h.f3, .int .u64 h.f4, .slice A5 h.f5.length c5, .slice A6 h.f6.length c6, .slice A7 h.f7.length c7, .slice A8 h.f8.length c8] 29) #[.int .i64 0, .int .u64 0, .int .u64 0, .int .u64 0, .int .u64 0, .slice none 0 0, .slice none 0 0, .slice none 0 0, .slice none 0 0] 29); have hy := fun i => Y.out.cell i; have zy := fun i => aG Y.out i
    have B := ah (ak (ak (Below.refl w.heap.size w) (.cells #[.int .i64 h.f0, .int .u64 h.f1, .int .u64 h.f2, .int .u64 h.f3, .int .u64 h.f4, .slice A5 h.f5.length c5, .slice A6 h.f6.length c6, .slice A7 h.f7.length c7, .slice A8 h.f8.length c8] 29)) (.cells #[.int .i64 0, .int .u64 0, .int .u64 0, .int .u64 0, .int .u64 0, .slice none 0 0, .slice none 0 0, .slice none 0 0, .slice none 0 0] 29))
    replace HV := ah ((HV.out.below (ak (Below.refl _ _) (.cells #[.int .i64 h.f0, .int .u64 h.f1, .int .u64 h.f2, .int .u64 h.f3, .int .u64 h.f4, .slice A5 h.f5.length c5, .slice A6 h.f6.length c6, .slice A7 h.f7.length c7, .slice A8 h.f8.length c8] 29))).below (ak (Below.refl _ _) (.cells #[.int .i64 0, .int .u64 0, .int .u64 0, .int .u64 0, .int .u64 0, .slice none 0 0, .slice none 0 0, .slice none 0 0, .slice none 0 0] 29)))
    go_enter Try.func27, Try.ntmps27
    go_wp2_with (first | (go_at_call 78; (with_reducible refine (P0.out _ _ HV.out).mono ?_); rintro e W1 ⟨v0, rfl, hs, hb⟩; replace B := ah (aH B.out B.out.size hb); replace HV := ah (HV.out.below hb); replace X := ah (X.out.below hb); replace hx := fun i => X.out.cell i; replace zx := fun i => aG X.out i; replace Y := ah (Y.out.below hb); replace hy := fun i => Y.out.cell i; replace zy := fun i => aG Y.out i; have S0 := ah hs; clear P0 hs hb) | (go_at_call 78; (with_reducible refine (P1.out _ _ HV.out).mono ?_); rintro e W2 ⟨v1, rfl, hs, hb⟩; replace B := ah (aH B.out B.out.size hb); replace HV := ah (HV.out.below hb); replace S0 := ah (S0.out.below hb); replace X := ah (X.out.below hb); replace hx := fun i => X.out.cell i; replace zx := fun i => aG X.out i; replace Y := ah (Y.out.below hb); replace hy := fun i => Y.out.cell i; replace zy := fun i => aG Y.out i; have S1 := ah hs; clear P1 hs hb) | (go_at_call 79; (with_reducible refine (WR.out _).mono ?_); rintro e W3 ⟨rfl, hb⟩; replace B := ah (aH B.out B.out.size hb); replace HV := ah (HV.out.below hb); replace S0 := ah (S0.out.below hb); replace S1 := ah (S1.out.below hb); replace X := ah (X.out.below hb); replace hx := fun i => X.out.cell i; replace zx := fun i => aG X.out i; replace Y := ah (Y.out.below hb); replace hy := fun i => Y.out.cell i; replace zy := fun i => aG Y.out i; clear  hb) | (go_at_call 80; (with_reducible refine (Q0.out _ _ S0.out Y.out.Rz).mono ?_); rintro e W4 ⟨u0, rfl, hs, hb⟩; replace B := ah (aH B.out B.out.size hb); replace HV := ah (HV.out.below hb); replace S0 := ah (S0.out.below hb); replace S1 := ah (S1.out.below hb); replace X := ah (X.out.below hb); replace hx := fun i => X.out.cell i; replace zx := fun i => aG X.out i; replace Y := ah (Y.out.below hb); replace hy := fun i => Y.out.cell i; replace zy := fun i => aG Y.out i; have U0 := ah hs; clear Q0 hs hb) | (go_at_call 80; (with_reducible refine (Q1.out _ _ S1.out Y.out.Rz).mono ?_); rintro e W5 ⟨u1, rfl, hs, hb⟩; replace B := ah (aH B.out B.out.size hb); replace HV := ah (HV.out.below hb); replace S0 := ah (S0.out.below hb); replace S1 := ah (S1.out.below hb); replace U0 := ah (U0.out.below hb); replace X := ah (X.out.below hb); replace hx := fun i => X.out.cell i; replace zx := fun i => aG X.out i; replace Y := ah (Y.out.below hb); replace hy := fun i => Y.out.cell i; replace zy := fun i => aG Y.out i; have U1 := ah hs; clear Q1 hs hb))
    refine bodyPost_ret (gQ rfl _ _ (w.heap.size + 1) 29 #[.int .i64 0, .int .u64 0, .int .u64 0, .int .u64 0, .int .u64 0, .slice none 0 0, .slice none 0 0, .slice none 0 0, .slice none 0 0] (0, 0) _ rfl (nine Y.out _ _ _ _ _ _ _ _ _) Try.underlying29 rfl (by kernel_rfl)) rfl ?_
    exact ⟨_, rfl, HF.empty _ _, jd B.out (by omega) _ _ _ _ _ _ _ _ _⟩
  | some n =>
  rw [show nG dd (iy h).2.1 = (n, true) from by unfold nG; rw [hB]] at q1 ok1
  simp only at q0 q1 ok0 ok1 ⊢
  have h1 := IL p (by have := ok0.1.len; omega)
  have h2 := IL n (by have := ok1.1.len; omega)
  have hm := fun w v vp vn => Yi (wP h tt) hwl _ _ (F9 ok0.1.wf) (F9 ok1.1.wf) w v vp vn
  generalize vC (wP h tt) (jq p) (jq n) = mr at *
  obtain ⟨mh, me⟩ := mr
  simp only at hm ⊢
  have Q0 := ah q0
  have Q1 := ah q1
  have H1 := ah h1
  have H2 := ah h2
  have HM := ah hm
  clear q0 q1 ok0 ok1 Oq Ot hwl ht c1 h1 h2 hm hdd hA hB
  have X := ah ((qU.new w #[.int .i64 h.f0, .int .u64 h.f1, .int .u64 h.f2, .int .u64 h.f3, .int .u64 h.f4, .slice A5 h.f5.length c5, .slice A6 h.f6.length c6, .slice A7 h.f7.length c7, .slice A8 h.f8.length c8] 29).alloc (.cells #[.int .i64 0, .int .u64 0, .int .u64 0, .int .u64 0, .int .u64 0, .slice none 0 0, .slice none 0 0, .slice none 0 0, .slice none 0 0] 29)); have hx := fun i => X.out.cell i; have zx := fun i => aG X.out i
  have Y := ah (qU.Ua (w := w) (.cells #[.int .i64 h.f0, .int .u64 h.f1, .int .u64 h.f2, .int .u64 h.f3, .int .u64 h.f4, .slice A5 h.f5.length c5, .slice A6 h.f6.length c6, .slice A7 h.f7.length c7, .slice A8 h.f8.length c8] 29) #[.int .i64 0, .int .u64 0, .int .u64 0, .int .u64 0, .int .u64 0, .slice none 0 0, .slice none 0 0, .slice none 0 0, .slice none 0 0] 29); have hy := fun i => Y.out.cell i; have zy := fun i => aG Y.out i
  have B := ah (ak (ak (Below.refl w.heap.size w) (.cells #[.int .i64 h.f0, .int .u64 h.f1, .int .u64 h.f2, .int .u64 h.f3, .int .u64 h.f4, .slice A5 h.f5.length c5, .slice A6 h.f6.length c6, .slice A7 h.f7.length c7, .slice A8 h.f8.length c8] 29)) (.cells #[.int .i64 0, .int .u64 0, .int .u64 0, .int .u64 0, .int .u64 0, .slice none 0 0, .slice none 0 0, .slice none 0 0, .slice none 0 0] 29))
  replace HV := ah ((HV.out.below (ak (Below.refl _ _) (.cells #[.int .i64 h.f0, .int .u64 h.f1, .int .u64 h.f2, .int .u64 h.f3, .int .u64 h.f4, .slice A5 h.f5.length c5, .slice A6 h.f6.length c6, .slice A7 h.f7.length c7, .slice A8 h.f8.length c8] 29))).below (ak (Below.refl _ _) (.cells #[.int .i64 0, .int .u64 0, .int .u64 0, .int .u64 0, .int .u64 0, .slice none 0 0, .slice none 0 0, .slice none 0 0, .slice none 0 0] 29)))
  go_enter Try.func27, Try.ntmps27
  go_upto_region 12 with (first | (go_at_call 78; (with_reducible refine (P0.out _ _ HV.out).mono ?_); rintro e W1 ⟨v0, rfl, hs, hb⟩; replace B := ah (aH B.out B.out.size hb); replace HV := ah (HV.out.below hb); replace X := ah (X.out.below hb); replace hx := fun i => X.out.cell i; replace zx := fun i => aG X.out i; replace Y := ah (Y.out.below hb); replace hy := fun i => Y.out.cell i; replace zy := fun i => aG Y.out i; have S0 := ah hs; clear P0 hs hb) | (go_at_call 78; (with_reducible refine (P1.out _ _ HV.out).mono ?_); rintro e W2 ⟨v1, rfl, hs, hb⟩; replace B := ah (aH B.out B.out.size hb); replace HV := ah (HV.out.below hb); replace S0 := ah (S0.out.below hb); replace X := ah (X.out.below hb); replace hx := fun i => X.out.cell i; replace zx := fun i => aG X.out i; replace Y := ah (Y.out.below hb); replace hy := fun i => Y.out.cell i; replace zy := fun i => aG Y.out i; have S1 := ah hs; clear P1 hs hb) | (go_at_call 79; (with_reducible refine (WR.out _).mono ?_); rintro e W3 ⟨rfl, hb⟩; replace B := ah (aH B.out B.out.size hb); replace HV := ah (HV.out.below hb); replace S0 := ah (S0.out.below hb); replace S1 := ah (S1.out.below hb); replace X := ah (X.out.below hb); replace hx := fun i => X.out.cell i; replace zx := fun i => aG X.out i; replace Y := ah (Y.out.below hb); replace hy := fun i => Y.out.cell i; replace zy := fun i => aG Y.out i; clear  hb) | (go_at_call 80; (with_reducible refine (Q0.out _ _ S0.out Y.out.Rz).mono ?_); rintro e W4 ⟨u0, rfl, hs, hb⟩; replace B := ah (aH B.out B.out.size hb); replace HV := ah (HV.out.below hb); replace S0 := ah (S0.out.below hb); replace S1 := ah (S1.out.below hb); replace X := ah (X.out.below hb); replace hx := fun i => X.out.cell i; replace zx := fun i => aG X.out i; replace Y := ah (Y.out.below hb); replace hy := fun i => Y.out.cell i; replace zy := fun i => aG Y.out i; have U0 := ah hs; clear Q0 hs hb) | (go_at_call 80; (with_reducible refine (Q1.out _ _ S1.out Y.out.Rz).mono ?_); rintro e W5 ⟨u1, rfl, hs, hb⟩; replace B := ah (aH B.out B.out.size hb); replace HV := ah (HV.out.below hb); replace S0 := ah (S0.out.below hb); replace S1 := ah (S1.out.below hb); replace U0 := ah (U0.out.below hb); replace X := ah (X.out.below hb); replace hx := fun i => X.out.cell i; replace zx := fun i => aG X.out i; replace Y := ah (Y.out.below hb); replace hy := fun i => Y.out.cell i; replace zy := fun i => aG Y.out i; have U1 := ah hs; clear Q1 hs hb))
  have hW2 := kL Y.out
  have HX0 := bC X.out 0 (.int .i64 tt) rfl
  have HY0 := Ea Y.out (show w.heap.size + 1 ≠ w.heap.size by omega) 0 (.int .i64 tt)
  have HB0 := B.out.setCell (p := ⟨w.heap.size, 0, none⟩) (Nat.le_refl _) (.int .i64 tt)
  have HO0 := And.intro ((U0.out.step (KA.set _ (by omega : w.heap.size < w.heap.size + 1 + 1) (i := 0) (.int .i64 tt))).now) ((U1.out.step (KA.set _ (by omega : w.heap.size < w.heap.size + 1 + 1) (i := 0) (.int .i64 tt))).now)
  clear hx zx hy zy X Y B HV S0 S1 U0 U1
  generalize (World.setCell _ ⟨w.heap.size, 0, none⟩ (.int .i64 tt)) = w1 at *
  have oN := ah HX0
  have qg := ah HY0
  have HB := ah HB0
  have HO := ah HO0
  have HVL := ah (show HI w1 (.agg #[.int .i64 tt, .int .u64 h.f1, .int .u64 h.f2, .int .u64 h.f3, .int .u64 h.f4, .slice A5 h.f5.length c5, .slice A6 h.f6.length c6, .slice A7 h.f7.length c7, .slice A8 h.f8.length c8]) (wP h tt) from HI.mk (h := wP h tt) (s5.below HB0) (s6.below HB0) (s7.below HB0) (s8.below HB0))
  clear HX0 HY0 HB0 HO0 s5 s6 s7 s8
  have hfx := fun i => ay oN.out i; have hzx := fun i => aG oN.out i; have hfy := fun i => ay qg.out i; have hzy := fun i => aG qg.out i
  go_region_with (first | (go_at_call 71; (with_reducible refine (H1.out _ u0 (HO.out.1.below (ig (Below.refl _ _)))).mono ?_); rintro e w2 ⟨vp, rfl, hs, hb⟩; have HS2 := ah hs; have HB2 := ah (aH (ig (Below.refl w1.heap.size w1)) (Nat.le_refl _) hb); have hX2 := fun i => ay (bG oN.out HB2.out) i; have hY2 := fun i => ay (bG qg.out HB2.out) i; have hZ2 := fun i => aG (bG qg.out HB2.out) i; clear hs hb) | (go_at_call 71; (with_reducible refine (H2.out _ u1 (HO.out.2.below (ig (Below.refl _ _)))).mono ?_); rintro e w3 ⟨vn, rfl, hs, hb⟩; have HS3 := ah hs; have HB3 := ah (aH (ig (Below.refl w1.heap.size w1)) (Nat.le_refl _) hb); have hX3 := fun i => ay (bG oN.out HB3.out) i; have hY3 := fun i => ay (bG qg.out HB3.out) i; have hZ3 := fun i => aG (bG qg.out HB3.out) i; clear hs hb) | (go_at_call 71; (with_reducible refine (H2.out w2 u1 (HO.out.2.below HB2.out)).mono ?_); rintro e w4 ⟨vn, rfl, hs, hb⟩; have Ym := ah (And.intro (HS2.out.below hb) hs); have HB4 := ah (aH HB2.out HB2.out.size hb); have hX4 := fun i => ay (bG oN.out HB4.out) i; have hY4 := fun i => ay (bG qg.out HB4.out) i; have hZ4 := fun i => aG (bG qg.out HB4.out) i; clear hs hb) | (go_at_call 71; (with_reducible refine (H1.out w3 u0 (HO.out.1.below HB3.out)).mono ?_); rintro e w4 ⟨vp, rfl, hs, hb⟩; have Ym := ah (And.intro hs (HS3.out.below hb)); have HB4 := ah (aH HB3.out HB3.out.size hb); have hX4 := fun i => ay (bG oN.out HB4.out) i; have hY4 := fun i => ay (bG qg.out HB4.out) i; have hZ4 := fun i => aG (bG qg.out HB4.out) i; clear hs hb) | (go_at_call 64; (with_reducible refine (HM.out w4 _ vp vn (HVL.out.below HB4.out) Ym.out.1 Ym.out.2).mono ?_); rintro e w5 ⟨v5, rfl, hs, hb⟩; have LW := ah (aH (aH HB.out HB.out.size HB4.out) (aH HB.out HB.out.size HB4.out).size hb); have HI5 := ah hs; obtain ⟨D5, g5, D6, g6, D7, g7, D8, g8, e5⟩ := hs.open_; subst e5; have hX5 := fun i => ay (bG (bG oN.out HB4.out) hb) i; have F7 := ah (bG (bG qg.out HB4.out) hb); have hY5 := fun i => ay F7.out i; have hZ5 := fun i => aG F7.out i; clear hs hb))
  all_goals (go_wp2; have hsz := kL qg.out; have adK := HB4.out.size; refine bodyPost_ret (gQ rfl _ _ (w.heap.size + 1) 29 #[.int .i64 mh.f0, .int .u64 mh.f1, .int .u64 mh.f2, .int .u64 mh.f3, .int .u64 mh.f4, .slice D5 mh.f5.length g5, .slice D6 mh.f6.length g6, .slice D7 mh.f7.length g7, .slice D8 mh.f8.length g8] (0, 0) _ rfl (nine F7.out _ _ _ _ _ _ _ _ _) Try.underlying29 rfl (by kernel_rfl)) rfl ?_; exact ⟨_, rfl, (HI5.out.step (rV (KA.refl _ _) (by omega) _ _ _ _ _ _ _ _ _)).lower (by omega), jd LW.out (by omega) _ _ _ _ _ _ _ _ _⟩)
attribute [local go_sem] jh ji jR jS iI iJ jk jl
attribute [local go_sem high] X5
def tidepolelaw25_few.l0 : Nat → Int → List (dP) → Int → Int → Option (Bool)
 | 0, _, _, _, _ => none
 | k + 1, x3, x6, x7, x8 => if x8 < x7 then (if 0 ≤ x8 then (if x8 < (x6.length : Int) then (if ((bf x6 x8).f1) > 0 then (if (wrap64 ((wrap64 (x3 + (wrap64 (1 + (wrap64 (Int.tdiv (mn ((bf x6 x8).f1) 5000) 10)))))) + 1)) > 400 then (some false) else (tidepolelaw25_few.l0 k (wrap64 ((wrap64 (x3 + (wrap64 (1 + (wrap64 (Int.tdiv (mn ((bf x6 x8).f1) 5000) 10)))))) + 1)) x6 x7 (wrap64 (x8 + 1)))) else (if (wrap64 (x3 + 1)) > 400 then (some false) else (tidepolelaw25_few.l0 k (wrap64 (x3 + 1)) x6 x7 (wrap64 (x8 + 1))))) else (none)) else (none)) else (some true)
def tidepolelaw25_few.f (k : Nat) (l0 : List (dP)) : Option (Bool) := tidepolelaw25_few.l0 k 0 l0 (l0.length : Int) 0
set_option maxHeartbeats 8000000 in
set_option maxRecDepth 100000 in
theorem tidepolelaw25_few.calls (k : Nat) (A0 : Option Addr) (c0 : Nat) (l0 : List (dP)) (r : Bool) (w : World) (hr0 : Kd.C jE w A0 l0.length l0) (hc0 : l0.length ≤ c0) (h : tidepolelaw25_few.f k l0 = some r) :
  Calls Try.prog 72 #[.slice A0 l0.length c0] w fun e w' => e = .returned (.bool r) ∧ Below w.heap.size w w' := by
 have La := Try.underlying113
 have HR0 := ah hr0
 have tK := ah hc0
 clear hr0 hc0
 have HB := ah (Below.refl w.heap.size w)
 have H : (tidepolelaw25_few.l0 k 0 l0 (l0.length : Int) 0) = some r := h
 clear h
 have H' := ah H
 clear H
 go_enter Try.func72, Try.ntmps72
 go_wp2
 go_loopg [3, 8] k (fun kq v3 v8 w' => ∃ (fG : Int) (bK : Int), v3 = .int .i64 fG ∧ v8 = .int .i64 bK ∧ aj (tidepolelaw25_few.l0 kq fG l0 (l0.length : Int) bK = some r) ∧ aj (kq ≤ k) ∧ aj (Below w.heap.size w w'))
 case atStart => exact ⟨(0), (0), (by first | rfl | (simp; done) | (simp [*]; done)), (by first | rfl | (simp; done) | (simp [*]; done)), H', ⟨Nat.le_refl _⟩, ⟨by repeat (first | (with_reducible first | exact HB.out | apply ak | apply au | apply aC) | exact HB.out)⟩⟩
 case round =>
  clear H'
  obtain ⟨fG, bK, rfl, rfl, HA, jf, HB⟩ := hrel
  cases gk with
  | zero => exact absurd HA.out (by simp [tidepolelaw25_few.l0])
  | succ k1 =>
   have H := HA.out
   clear HA
   simp only [tidepolelaw25_few.l0] at H
   by_cases c2 : bK < (l0.length : Int)
   ·rw [if_pos c2] at H
    have c2b0 : decide (bK < (l0.length : Int)) = true := aiJ c2
    clear c2
    by_cases c3 : 0 ≤ bK
    ·rw [if_pos c3] at H
     have c3b0 : decide (0 ≤ bK) = true := aiJ c3
     clear c3
     by_cases c4 : bK < (l0.length : Int)
     ·rw [if_pos c4] at H
      have c4b0 : decide (bK < (l0.length : Int)) = true := aiJ c4
      clear c4
      by_cases c5 : ((bf l0 bK).f1) > 0
      ·rw [if_pos c5] at H
       have c5b0 : decide (0 < ((bf l0 bK).f1)) = true := aiJ c5
       clear c5
       obtain ⟨vW, J7⟩ : ∃ j_ : Int, (mn ((bf l0 bK).f1) 5000) = j_ := ⟨_, rfl⟩
       replace H : (if (wrap64 ((wrap64 (fG + (wrap64 (1 + (wrap64 (Int.tdiv (vW) 10)))))) + 1)) > 400 then (some false) else (tidepolelaw25_few.l0 k1 (wrap64 ((wrap64 (fG + (wrap64 (1 + (wrap64 (Int.tdiv (vW) 10)))))) + 1)) l0 (l0.length : Int) (wrap64 (bK + 1)))) = some r := by first | (rw [J7] at H; exact H) | (simp only [J7] at H ⊢; exact H)
       have afp : (if 5000 < ((bf l0 bK).f1) then 5000 else ((bf l0 bK).f1)) = vW := J7
       by_cases c7 : (wrap64 ((wrap64 (fG + (wrap64 (1 + (wrap64 (Int.tdiv (vW) 10)))))) + 1)) > 400
       ·rw [if_pos c7] at H
        have c7b0 : decide (400 < (wrap64 ((wrap64 (fG + (wrap64 (1 + (wrap64 (Int.tdiv (vW) 10)))))) + 1))) = true := aiJ c7
        clear c7
        obtain rfl := Option.some.inj H
        have eX : 0 ≤ (bK : Int) := aiI (by assumption)
        have eY : bK < (l0.length : Int) := aiI (by assumption)
        obtain ⟨jU, jK, bP, dS⟩ := pU HR0.out bK eX eY
        cases jK
        replace bP := (HB.out.cell (World.block_lt_of_cell? w _ bP)).trans bP
        replace dS := (HB.out.cell (World.block_lt_of_cell? w _ dS)).trans dS
        replace eX := eq_true eX
        replace eY := eq_true eY
        go_wp2_with (first | ((with_reducible refine fJ (N := 5) rfl ?_); refine eU ?hg (N := 5) ?hd (cs := #[.int .i64 0, .int .i64 0]) (t := 113) ?hr ?_; (case hd => rfl); (case hg => rfl); (case hr => first | (go_simp; done) | (go_simp; rfl)); intro aJ hg w8 hbox hb; have aN := ah (hbox); have oM := ah ((by rw [hg]; exact (aI (aX HB.out)) : w.heap.size ≤ aJ)); have bT := ah ((by rw [hg]; exact (aI (aX HB.out)) : w.heap.size ≤ aJ)); replace HB := ah (aW (aX HB.out) hb); clear hb hbox hg; have sS := ay aN.out; have sU := aG aN.out))
        go_ret
        exact ⟨by first | rfl | (simp [aT, aU] <;> rfl) | (simp only [← J7]; first | rfl | (simp [aT, aU] <;> rfl)) | (simp [*, aT, aU] <;> rfl), by repeat (first | (with_reducible first | exact HB.out | apply ak | apply au | apply aC | refine aA ?_ bT.out) | exact HB.out)⟩
       rw [if_neg c7] at H
       have c7b0 : decide (400 < (wrap64 ((wrap64 (fG + (wrap64 (1 + (wrap64 (Int.tdiv (vW) 10)))))) + 1))) = false := aiK c7
       clear c7
       have H' := ah H
       clear H
       have eX : 0 ≤ (bK : Int) := aiI (by assumption)
       have eY : bK < (l0.length : Int) := aiI (by assumption)
       obtain ⟨jU, jK, bP, dS⟩ := pU HR0.out bK eX eY
       cases jK
       replace bP := (HB.out.cell (World.block_lt_of_cell? w _ bP)).trans bP
       replace dS := (HB.out.cell (World.block_lt_of_cell? w _ dS)).trans dS
       replace eX := eq_true eX
       replace eY := eq_true eY
       go_wp2_with (first | ((with_reducible refine fJ (N := 5) rfl ?_); refine eU ?hg (N := 5) ?hd (cs := #[.int .i64 0, .int .i64 0]) (t := 113) ?hr ?_; (case hd => rfl); (case hg => rfl); (case hr => first | (go_simp; done) | (go_simp; rfl)); intro aJ hg w10 hbox hb; have aN := ah (hbox); have oM := ah ((by rw [hg]; exact (aI (aX HB.out)) : w.heap.size ≤ aJ)); have bT := ah ((by rw [hg]; exact (aI (aX HB.out)) : w.heap.size ≤ aJ)); replace HB := ah (aW (aX HB.out) hb); clear hb hbox hg; have xg := ay aN.out; have xk := aG aN.out))
       go_roundg k1
       case measure => have := jf.out; omega
       case rel => exact ⟨(wrap64 ((wrap64 (fG + (wrap64 (1 + (wrap64 (Int.tdiv (vW) 10)))))) + 1)), (wrap64 (bK + 1)), (by first | rfl | (simp; done) | (simp only [← J7] <;> (first | rfl | simp)) | (simp [*]; done)), (by first | rfl | (simp; done) | (simp [*]; done)), H', ⟨by have := jf.out; omega⟩, ⟨by repeat (first | (with_reducible first | exact HB.out | apply ak | apply au | apply aC | refine aA ?_ bT.out) | exact HB.out)⟩⟩
      rw [if_neg c5] at H
      have c5b0 : decide (0 < ((bf l0 bK).f1)) = false := aiK c5
      clear c5
      by_cases c12 : (wrap64 (fG + 1)) > 400
      ·rw [if_pos c12] at H
       have c12b0 : decide (400 < (wrap64 (fG + 1))) = true := aiJ c12
       clear c12
       obtain rfl := Option.some.inj H
       have eX : 0 ≤ (bK : Int) := aiI (by assumption)
       have eY : bK < (l0.length : Int) := aiI (by assumption)
       obtain ⟨jU, jK, bP, dS⟩ := pU HR0.out bK eX eY
       cases jK
       replace bP := (HB.out.cell (World.block_lt_of_cell? w _ bP)).trans bP
       replace dS := (HB.out.cell (World.block_lt_of_cell? w _ dS)).trans dS
       replace eX := eq_true eX
       replace eY := eq_true eY
       go_wp2_with (first | ((with_reducible refine fJ (N := 5) rfl ?_); refine eU ?hg (N := 5) ?hd (cs := #[.int .i64 0, .int .i64 0]) (t := 113) ?hr ?_; (case hd => rfl); (case hg => rfl); (case hr => first | (go_simp; done) | (go_simp; rfl)); intro aJ hg QA hbox hb; have aN := ah (hbox); have oM := ah ((by rw [hg]; exact (aI (aX HB.out)) : w.heap.size ≤ aJ)); have bT := ah ((by rw [hg]; exact (aI (aX HB.out)) : w.heap.size ≤ aJ)); replace HB := ah (aW (aX HB.out) hb); clear hb hbox hg; have zQ := ay aN.out; have zS := aG aN.out))
       go_ret
       exact ⟨by first | rfl | (simp [aT, aU] <;> rfl) | (simp [*, aT, aU] <;> rfl), by repeat (first | (with_reducible first | exact HB.out | apply ak | apply au | apply aC | refine aA ?_ bT.out) | exact HB.out)⟩
      rw [if_neg c12] at H
      have c12b0 : decide (400 < (wrap64 (fG + 1))) = false := aiK c12
      clear c12
      have H' := ah H
      clear H
      have eX : 0 ≤ (bK : Int) := aiI (by assumption)
      have eY : bK < (l0.length : Int) := aiI (by assumption)
      obtain ⟨jU, jK, bP, dS⟩ := pU HR0.out bK eX eY
      cases jK
      replace bP := (HB.out.cell (World.block_lt_of_cell? w _ bP)).trans bP
      replace dS := (HB.out.cell (World.block_lt_of_cell? w _ dS)).trans dS
      replace eX := eq_true eX
      replace eY := eq_true eY
      go_wp2_with (first | ((with_reducible refine fJ (N := 5) rfl ?_); refine eU ?hg (N := 5) ?hd (cs := #[.int .i64 0, .int .i64 0]) (t := 113) ?hr ?_; (case hd => rfl); (case hg => rfl); (case hr => first | (go_simp; done) | (go_simp; rfl)); intro aJ hg X6 hbox hb; have aN := ah (hbox); have oM := ah ((by rw [hg]; exact (aI (aX HB.out)) : w.heap.size ≤ aJ)); have bT := ah ((by rw [hg]; exact (aI (aX HB.out)) : w.heap.size ≤ aJ)); replace HB := ah (aW (aX HB.out) hb); clear hb hbox hg; have EG := ay aN.out; have EH := aG aN.out))
      go_roundg k1
      case measure => have := jf.out; omega
      case rel => exact ⟨(wrap64 (fG + 1)), (wrap64 (bK + 1)), (by first | rfl | (simp; done) | (simp [*]; done)), (by first | rfl | (simp; done) | (simp [*]; done)), H', ⟨by have := jf.out; omega⟩, ⟨by repeat (first | (with_reducible first | exact HB.out | apply ak | apply au | apply aC | refine aA ?_ bT.out) | exact HB.out)⟩⟩
     rw [if_neg c4] at H
     exact absurd H (by simp)
    rw [if_neg c3] at H
    exact absurd H (by simp)
   rw [if_neg c2] at H
   have c2b0 : decide (bK < (l0.length : Int)) = false := aiK c2
   clear c2
   obtain rfl := Option.some.inj H
   go_wp2
   go_ret
   exact ⟨by first | rfl | (simp [aT, aU] <;> rfl) | (simp [*, aT, aU] <;> rfl), by repeat (first | (with_reducible first | exact HB.out | apply ak | apply au | apply aC) | exact HB.out)⟩
def tidepolelaw25_one.f  : Option (Int × Int × Int × Int × Int × (List (dP)) × (List (dP)) × List Int × List Int) := some (1, 0, 0, 5, 0, (([(⟨3, 3⟩ : dP)] : List (dP))), ([] : List (dP)), (([1, (-1), 4] : List Int)), ([] : List Int))
set_option maxHeartbeats 8000000 in
set_option maxRecDepth 100000 in
theorem tidepolelaw25_one.calls  (r1 : Int) (r2 : Int) (r3 : Int) (r4 : Int) (r5 : Int) (r6 : List (dP)) (r7 : List (dP)) (r8 : List Int) (r9 : List Int) (w : World) (h : tidepolelaw25_one.f  = some (r1, r2, r3, r4, r5, r6, r7, r8, r9)) :
  Calls Try.prog 73 #[] w fun e w' => ∃ Md Me P8 P9 : Value, e = .returned (.agg #[.int .i64 r1, .int .u64 r2, .int .u64 r3, .int .u64 r4, .int .u64 r5, Md, Me, P8, P9]) ∧ Kd.R jE 113 w' w.heap.size (fun k_ => some k_ ≠ (Me : Value).ownBlock) Md r6 ∧ Kd.R jE 113 w' w.heap.size (fun k_ => some k_ ≠ (Md : Value).ownBlock) Me r7 ∧ Kd.R (Kd.int .i64) 2 w' w.heap.size (fun k_ => some k_ ≠ (P9 : Value).ownBlock) P8 r8 ∧ Kd.R (Kd.int .i64) 2 w' w.heap.size (fun k_ => some k_ ≠ (P8 : Value).ownBlock) P9 r9 ∧ Below w.heap.size w w' := by
 have Ui := Try.underlying29
 have La := Try.underlying113
 have HB := ah (Below.refl w.heap.size w)
 have H : (some (1, 0, 0, 5, 0, (([(⟨3, 3⟩ : dP)] : List (dP))), ([] : List (dP)), (([1, (-1), 4] : List Int)), ([] : List Int))) = some (r1, r2, r3, r4, r5, r6, r7, r8, r9) := h
 clear h
 obtain ⟨y102, hy102⟩ : ∃ y_ : List (dP), y_ = (([(⟨3, 3⟩ : dP)] : List (dP))) := ⟨_, rfl⟩
 replace H : (some (1, 0, 0, 5, 0, y102, ([] : List (dP)), (([1, (-1), 4] : List Int)), ([] : List Int))) = some (r1, r2, r3, r4, r5, r6, r7, r8, r9) := by first | (rw [hy102]; with_reducible exact H) | (have jm := (Option.bind_some _ _).symm.trans H; rw [hy102]; with_reducible exact jm) | (have jm := (Option.bind_some _ _).symm.trans H; with_reducible exact jm) | with_reducible exact H | (rw [hy102]; exact H) | exact H
 have IU := ah hy102
 clear hy102
 obtain ⟨J3, y9⟩ : ∃ y_ : List Int, y_ = (([1, (-1), 4] : List Int)) := ⟨_, rfl⟩
 replace H : (some (1, 0, 0, 5, 0, y102, ([] : List (dP)), J3, ([] : List Int))) = some (r1, r2, r3, r4, r5, r6, r7, r8, r9) := by first | (rw [y9]; with_reducible exact H) | (have jm := (Option.bind_some _ _).symm.trans H; rw [y9]; with_reducible exact jm) | (have jm := (Option.bind_some _ _).symm.trans H; with_reducible exact jm) | with_reducible exact H | (rw [y9]; exact H) | exact H
 have IQ := ah y9
 clear y9
 simp only [Option.some.injEq, Prod.mk.injEq] at H
 obtain ⟨rfl, rfl, rfl, rfl, rfl, rfl, rfl, rfl, rfl⟩ := H
 go_enter Try.func73, Try.ntmps73
 go_wp2_with (first | ((with_reducible refine fJ (N := 0) rfl ?_); refine eU ?hg (N := 0) ?hd (cs := #[.int .i64 0, .int .u64 0, .int .u64 0, .int .u64 0, .int .u64 0, .slice none 0 0, .slice none 0 0, .slice none 0 0, .slice none 0 0]) (t := 29) ?hr ?_; (case hd => rfl); (case hg => rfl); (case hr => first | (go_simp; done) | (go_simp; rfl)); intro cO hg w1 hbox hb; have aV := ah (hbox); have vG := ah ((by rw [hg]; exact (aI (aX HB.out)) : w.heap.size ≤ cO)); have bZ := ah ((by rw [hg]; exact (aI (aX HB.out)) : w.heap.size ≤ cO)); replace HB := ah (aW (aX HB.out) hb); clear hb hbox hg) | ((with_reducible refine fJ (N := 2) rfl ?_); refine Kd.WL jE _ 113 ?hg (N := 2) ?hd (xs := ([(⟨3, 3⟩ : dP)] : List (dP))) (inner := [.int .i64 3, .int .i64 3]) (ok := fun _ => True) (okp := fun _ => True) ?hr ?hp (fun _ hk => hk) trivial (Below.refl _ _) (Nat.le_refl _) (by simp) ?_; (case hd => rfl); (case hg => rfl); (case hr => first | (go_simp; done) | (go_simp; rfl)); (case hp => exact (jA.c2 (show Kd.M jE _ _ _ (⟨3, 3⟩ : dP) [.int .i64 3, .int .i64 3] from (um _ _ _ (⟨3, 3⟩ : dP) )) (jA.none _ _))); intro yK w2 ho3 hb hg_ hnew_; clear hg_ hnew_; (first | rw [← IU.out] at ho3 | (simp only [Int.reduceToNat] at ho3; rw [← IU.out] at ho3)); have iq := ah (Kd.bV ho3 (aI (by repeat (first | (with_reducible first | exact HB.out | refine bJ ?_ | refine aA ?_ bZ.out) | exact HB.out)))); replace aV := ah (dX aV.out hb); replace HB := ah (aW (by repeat (first | (with_reducible first | exact HB.out | refine bJ ?_ | refine aA ?_ bZ.out) | exact HB.out)) hb); clear hb ho3) | ((with_reducible refine fJ (N := 3) rfl ?_); refine Kd.WL (Kd.int .i64) _ 2 ?hg (N := 3) ?hd (xs := ([1, (-1), 4] : List Int)) (inner := [.int .i64 1, .int .i64 (-1), .int .i64 4]) (ok := fun _ => True) (okp := fun _ => True) ?hr ?hp (fun _ hk => hk) trivial (Below.refl _ _) (Nat.le_refl _) (by simp) ?_; (case hd => rfl); (case hg => rfl); (case hr => first | (go_simp; done) | (go_simp; rfl)); (case hp => exact (jA.one (show Kd.M (Kd.int .i64) _ _ _ 1 [.int .i64 1] from rfl) (jA.one (show Kd.M (Kd.int .i64) _ _ _ (-1) [.int .i64 (-1)] from rfl) (jA.one (show Kd.M (Kd.int .i64) _ _ _ 4 [.int .i64 4] from rfl) (jA.none _ _))))); intro Ep w4 Xh hb hg_ hnew_; clear hg_ hnew_; (first | rw [← IQ.out] at Xh | (simp only [Int.reduceToNat] at Xh; rw [← IQ.out] at Xh)); have jo := ah (Kd.bV Xh (aI (by repeat (first | (with_reducible first | exact HB.out | refine bJ ?_ | refine aA ?_ bZ.out) | exact HB.out)))); replace iq := ah (Kd.kE iq.out hb); replace aV := ah (dX aV.out hb); replace HB := ah (aW (by repeat (first | (with_reducible first | exact HB.out | refine bJ ?_ | refine aA ?_ bZ.out) | exact HB.out)) hb); clear hb Xh; obtain ⟨Ao6, co6, eo6⟩ := Kd.bY jo.out; subst eo6; obtain ⟨NR, KJ, VB⟩ := Kd.bY iq.out; subst VB; have TF := ay aV.out; have TG := aG aV.out))
 refine bodyPost_ret (results_cell_row rfl _ _ cO 29 #[.int .i64 1, .int .u64 0, .int .u64 0, .int .u64 5, .int .u64 0, .slice NR y102.length KJ, .slice none 0 0, .slice Ao6 J3.length co6, .slice none 0 0] (0, 0) _ rfl (by (repeat with_reducible refine bQ ?_); refine bC (cs := #[.int .i64 1, .int .u64 0, .int .u64 0, .int .u64 5, .int .u64 0, .slice NR y102.length KJ, .slice none 0 0, .slice Ao6 J3.length co6, .slice none 0 0]) ?_ 8 _ rfl; (repeat with_reducible refine bQ ?_); refine bC (cs := #[.int .i64 1, .int .u64 0, .int .u64 0, .int .u64 5, .int .u64 0, .slice NR y102.length KJ, .slice none 0 0, .slice none 0 0, .slice none 0 0]) ?_ 7 _ rfl; (repeat with_reducible refine bQ ?_); refine bC (cs := #[.int .i64 1, .int .u64 0, .int .u64 0, .int .u64 5, .int .u64 0, .slice NR y102.length KJ, .slice none 0 0, .slice none 0 0, .slice none 0 0]) ?_ 6 _ rfl; (repeat with_reducible refine bQ ?_); refine bC (cs := #[.int .i64 1, .int .u64 0, .int .u64 0, .int .u64 5, .int .u64 0, .slice none 0 0, .slice none 0 0, .slice none 0 0, .slice none 0 0]) ?_ 5 _ rfl; (repeat with_reducible refine bQ ?_); refine bC (cs := #[.int .i64 1, .int .u64 0, .int .u64 0, .int .u64 5, .int .u64 0, .slice none 0 0, .slice none 0 0, .slice none 0 0, .slice none 0 0]) ?_ 4 _ rfl; (repeat with_reducible refine bQ ?_); refine bC (cs := #[.int .i64 1, .int .u64 0, .int .u64 0, .int .u64 0, .int .u64 0, .slice none 0 0, .slice none 0 0, .slice none 0 0, .slice none 0 0]) ?_ 3 _ rfl; (repeat with_reducible refine bQ ?_); refine bC (cs := #[.int .i64 1, .int .u64 0, .int .u64 0, .int .u64 0, .int .u64 0, .slice none 0 0, .slice none 0 0, .slice none 0 0, .slice none 0 0]) ?_ 2 _ rfl; (repeat with_reducible refine bQ ?_); refine bC (cs := #[.int .i64 1, .int .u64 0, .int .u64 0, .int .u64 0, .int .u64 0, .slice none 0 0, .slice none 0 0, .slice none 0 0, .slice none 0 0]) ?_ 1 _ rfl; (repeat with_reducible refine bQ ?_); refine bC (cs := #[.int .i64 0, .int .u64 0, .int .u64 0, .int .u64 0, .int .u64 0, .slice none 0 0, .slice none 0 0, .slice none 0 0, .slice none 0 0]) ?_ 0 _ rfl; (repeat with_reducible refine bQ ?_); exact aV.out) Try.underlying29 rfl (by kernel_rfl)) rfl ?_
 exact ⟨_, _, _, _, by first | rfl | (simp [aT, aU] <;> rfl) | (simp [*, aT, aU] <;> rfl), by (repeat with_reducible refine Kd.kJ ?_); exact Kd.cu (Kd.cZ (p := ⟨cO, 8, none⟩) (Kd.cZ (p := ⟨cO, 7, none⟩) (Kd.cZ (p := ⟨cO, 6, none⟩) (Kd.cZ (p := ⟨cO, 5, none⟩) (Kd.cZ (p := ⟨cO, 4, none⟩) (Kd.cZ (p := ⟨cO, 3, none⟩) (Kd.cZ (p := ⟨cO, 2, none⟩) (Kd.cZ (p := ⟨cO, 1, none⟩) (Kd.cZ (p := ⟨cO, 0, none⟩) (Kd.gY iq.out aV.out (by decide)) (fun _ hk => hk.2) (.int .i64 1)) (fun _ hk => hk.2) (.int .u64 0)) (fun _ hk => hk.2) (.int .u64 0)) (fun _ hk => hk.2) (.int .u64 5)) (fun _ hk => hk.2) (.int .u64 0)) (fun _ hk => hk.2) (.slice NR y102.length KJ)) (fun _ hk => hk.2) (.slice none 0 0)) (fun _ hk => hk.2) (.slice Ao6 J3.length co6)) (fun _ hk => hk.2) (.slice none 0 0)) (fun _ hk => (by simp [Value.ownBlock])), by first | exact Kd.dY _ _ _ _ _ | exact Kd.gI _ _ _ _ _ | exact Kd.gJ _ _ _ _ _ | exact Kd.gB _ _ _ _ _ | exact Kd.gG _ _ _ _ _, by (repeat with_reducible refine Kd.kJ ?_); exact Kd.cu (Kd.cZ (p := ⟨cO, 8, none⟩) (Kd.cZ (p := ⟨cO, 7, none⟩) (Kd.cZ (p := ⟨cO, 6, none⟩) (Kd.cZ (p := ⟨cO, 5, none⟩) (Kd.cZ (p := ⟨cO, 4, none⟩) (Kd.cZ (p := ⟨cO, 3, none⟩) (Kd.cZ (p := ⟨cO, 2, none⟩) (Kd.cZ (p := ⟨cO, 1, none⟩) (Kd.cZ (p := ⟨cO, 0, none⟩) (Kd.gY jo.out aV.out (by decide)) (fun _ hk => hk.2) (.int .i64 1)) (fun _ hk => hk.2) (.int .u64 0)) (fun _ hk => hk.2) (.int .u64 0)) (fun _ hk => hk.2) (.int .u64 5)) (fun _ hk => hk.2) (.int .u64 0)) (fun _ hk => hk.2) (.slice NR y102.length KJ)) (fun _ hk => hk.2) (.slice none 0 0)) (fun _ hk => hk.2) (.slice Ao6 J3.length co6)) (fun _ hk => hk.2) (.slice none 0 0)) (fun _ hk => (by simp [Value.ownBlock])), by first | exact Kd.dY _ _ _ _ _ | exact Kd.gI _ _ _ _ _ | exact Kd.gJ _ _ _ _ _ | exact Kd.gB _ _ _ _ _ | exact Kd.gG _ _ _ _ _, by repeat (first | (with_reducible first | exact HB.out | apply ak | apply au | apply aC | refine aA ?_ bZ.out) | exact HB.out)⟩
def tidepolelaw25_spans.l0 : Nat → List (fD) → List (dP) → Int → Int → Option ((List (fD)))
 | 0, _, _, _, _ => none
 | k + 1, x3, x6, x7, x8 => if x8 < x7 then (if 0 ≤ x8 then (if x8 < (x6.length : Int) then (if x3.length < 8796093022208 then (tidepolelaw25_spans.l0 k (x3 ++ [(⟨(bf x6 x8).f0, (bf x6 x8).f1⟩ : fD)]) x6 x7 (wrap64 (x8 + 1))) else (none)) else (none)) else (none)) else (some x3)
def tidepolelaw25_spans.f (k : Nat) (l0 : List (dP)) : Option ((List (fD))) := tidepolelaw25_spans.l0 k ([] : List (fD)) l0 (l0.length : Int) 0
set_option maxHeartbeats 8000000 in
set_option maxRecDepth 100000 in
theorem tidepolelaw25_spans.calls (k : Nat) (A0 : Option Addr) (c0 : Nat) (l0 : List (dP)) (r : List (fD)) (w : World) (hr0 : Kd.C jE w A0 l0.length l0) (hc0 : l0.length ≤ c0) (h : tidepolelaw25_spans.f k l0 = some r) :
  Calls Try.prog 87 #[.slice A0 l0.length c0] w fun e w' => ∃ lY : Value, e = .returned (lY) ∧ Kd.R nD 127 w' w.heap.size (fun _ => True) lY r ∧ Below w.heap.size w w' := by
 have La := Try.underlying113
 have Tq := Try.underlying127
 have HR0 := ah hr0
 have tK := ah hc0
 clear hr0 hc0
 have HB := ah (Below.refl w.heap.size w)
 have H : (tidepolelaw25_spans.l0 k ([] : List (fD)) l0 (l0.length : Int) 0) = some r := h
 clear h
 have H' := ah H
 clear H
 go_enter Try.func87, Try.ntmps87
 go_wp2
 go_loopg [3, 8] k (fun kq v3 v8 w' => ∃ (fG : List (fD)) (bK : Int), v8 = .int .i64 bK ∧ aj (tidepolelaw25_spans.l0 kq fG l0 (l0.length : Int) bK = some r) ∧ aj (kq ≤ k) ∧ aj (Kd.R nD 127 w' w.heap.size (fun _ => True) v3 fG) ∧ aj (Below w.heap.size w w'))
 case atStart => exact ⟨(([] : List (fD))), (0), (by first | rfl | (simp; done) | (simp [*]; done)), H', ⟨Nat.le_refl _⟩, ⟨by first | exact Kd.dY _ _ _ _ _ | exact Kd.gI _ _ _ _ _ | exact Kd.gJ _ _ _ _ _ | exact Kd.gB _ _ _ _ _ | exact Kd.gG _ _ _ _ _⟩, ⟨by repeat (first | (with_reducible first | exact HB.out | apply ak | apply au | apply aC) | exact HB.out)⟩⟩
 case round =>
  clear H'
  obtain ⟨fG, bK, rfl, HA, jf, HO_3, HB⟩ := hrel
  cases gk with
  | zero => exact absurd HA.out (by simp [tidepolelaw25_spans.l0])
  | succ k1 =>
   have H := HA.out
   clear HA
   simp only [tidepolelaw25_spans.l0] at H
   by_cases c2 : bK < (l0.length : Int)
   ·rw [if_pos c2] at H
    have c2b0 : decide (bK < (l0.length : Int)) = true := aiJ c2
    clear c2
    by_cases c3 : 0 ≤ bK
    ·rw [if_pos c3] at H
     have c3b0 : decide (0 ≤ bK) = true := aiJ c3
     clear c3
     by_cases c4 : bK < (l0.length : Int)
     ·rw [if_pos c4] at H
      have c4b0 : decide (bK < (l0.length : Int)) = true := aiJ c4
      clear c4
      by_cases c5 : fG.length < 8796093022208
      ·rw [if_pos c5] at H
       have Fq := ah c5
       clear c5
       obtain ⟨gV, kM⟩ : ∃ y_ : List (fD), y_ = (fG ++ [(⟨(bf l0 bK).f0, (bf l0 bK).f1⟩ : fD)]) := ⟨_, rfl⟩
       replace H : (tidepolelaw25_spans.l0 k1 gV l0 (l0.length : Int) (wrap64 (bK + 1))) = some r := by first | (rw [kM]; with_reducible exact H) | (have jm := (Option.bind_some _ _).symm.trans H; rw [kM]; with_reducible exact jm) | (have jm := (Option.bind_some _ _).symm.trans H; with_reducible exact jm) | with_reducible exact H | (rw [kM]; exact H) | exact H
       have su := ah kM
       clear kM
       have H' := ah H
       clear H
       have eX : 0 ≤ (bK : Int) := aiI (by assumption)
       have eY : bK < (l0.length : Int) := aiI (by assumption)
       obtain ⟨jU, jK, bP, dS⟩ := pU HR0.out bK eX eY
       cases jK
       replace bP := (HB.out.cell (World.block_lt_of_cell? w _ bP)).trans bP
       replace dS := (HB.out.cell (World.block_lt_of_cell? w _ dS)).trans dS
       replace eX := eq_true eX
       replace eY := eq_true eY
       go_wp2_with (first | ((with_reducible refine fJ (N := 5) rfl ?_); refine eU ?hg (N := 5) ?hd (cs := #[.int .i64 0, .int .i64 0]) (t := 113) ?hr ?_; (case hd => rfl); (case hg => rfl); (case hr => first | (go_simp; done) | (go_simp; rfl)); intro aJ hg w6 hbox hb; have aN := ah (hbox); have oM := ah ((by rw [hg]; exact (aI (aX HB.out)) : w.heap.size ≤ aJ)); have bT := ah ((by rw [hg]; exact (aI (aX HB.out)) : w.heap.size ≤ aJ)); replace HO_3 := ah (Kd.kE HO_3.out hb); replace HB := ah (aW (aX HB.out) hb); clear hb hbox hg; have yH := ay aN.out; have yI := aG aN.out) | ((with_reducible refine dZ (b := .append) (xs := #[.tmp 12, .tmp 18]) rfl ?_); at_builtin; refine Kd.iP nD (w0 := w) w.heap.size rfl (.tmp 12) (.tmp 18) 39 127 (.agg #[(.int .i64 0), (.int .i64 0)]) 16 rfl Try.underlying39 Jt rfl (by decide) (by omega) u3 fG (⟨(bf l0 bK).f0, (bf l0 bK).f1⟩ : fD) [.int .i64 ((bf l0 bK).f0), .int .i64 ((bf l0 bK).f1)] (fun _ => True) (fun _ => False) rfl (by first | (go_simp; done) | (go_simp; rfl)) ?aP (fun _ hk => hk.elim) ?aF ?aO ?aB ?aS ?aL ?_; (case aP => exact wG _ _ _ (⟨(bf l0 bK).f0, (bf l0 bK).f1⟩ : fD)); (case aB => exact (by repeat (first | (with_reducible first | exact HB.out | refine bJ ?_ | refine aA ?_ bT.out) | exact HB.out))); (case aF => exact (fun _ _ => trivial)); (case aO => exact (Kd.fB (Kd.cu (Kd.cZ (p := ⟨aJ, 1, none⟩) (Kd.cZ (p := ⟨aJ, 0, none⟩) (Kd.gY HO_3.out aN.out (by decide)) (fun _ hk => hk.2) (.int .i64 ((bf l0 bK).f0))) (fun _ hk => hk.2) (.int .i64 ((bf l0 bK).f1))) (fun _ hk => trivial)))); (case aS => exact (aI (by repeat (first | (with_reducible first | exact HB.out | refine bJ ?_ | refine aA ?_ bT.out) | exact HB.out)))); (case aL => have := Fq.out; omega); intro yJ w8 ho hb hg hat; rw [← su.out] at ho; have gZ := ah (iZ (g := aJ) (o := .cells #[.int .i64 ((bf l0 bK).f0), .int .i64 ((bf l0 bK).f1)] 113 (0, 0)) (by (repeat with_reducible refine bQ ?_); refine bC (cs := #[.int .i64 ((bf l0 bK).f0), .int .i64 0]) ?_ 1 _ rfl; (repeat with_reducible refine bQ ?_); refine bC (cs := #[.int .i64 0, .int .i64 0]) ?_ 0 _ rfl; (repeat with_reducible refine bQ ?_); exact aN.out) hg (Kd.Dh HO_3.out aN.out (by decide))); have eF := ah (ho); replace HB := ah (hb); clear HO_3 aN; have aN := gZ; clear gZ ho hb hg hat))
       go_roundg k1
       case measure => have := jf.out; omega
       case rel => exact ⟨(gV), (wrap64 (bK + 1)), (by first | rfl | (simp; done) | (simp [*]; done)), H', ⟨by have := jf.out; omega⟩, ⟨by (repeat with_reducible refine Kd.kJ ?_); exact eF.out⟩, ⟨by repeat (first | (with_reducible first | exact HB.out | apply ak | apply au | apply aC | refine aA ?_ bT.out) | exact HB.out)⟩⟩
      rw [if_neg c5] at H
      exact absurd H (by simp)
     rw [if_neg c4] at H
     exact absurd H (by simp)
    rw [if_neg c3] at H
    exact absurd H (by simp)
   rw [if_neg c2] at H
   have c2b0 : decide (bK < (l0.length : Int)) = false := aiK c2
   clear c2
   obtain rfl := Option.some.inj H
   go_wp2
   go_ret
   exact ⟨_, by first | rfl | (simp [aT, aU] <;> rfl) | (simp [*, aT, aU] <;> rfl), by (repeat with_reducible refine Kd.kJ ?_); exact HO_3.out, by repeat (first | (with_reducible first | exact HB.out | apply ak | apply au | apply aC) | exact HB.out)⟩
def tidepolelaw25_ints.f (k : Nat) (dD : Int) (dH : Int) (dQ : Int) (dR : Int) (dO : Int) (dN : List (dP)) (dK : List (dP)) (dJ : List Int) (dI : List Int) : Option (Int × Int × Int × Int × Int × (List (fD)) × (List (fD)) × List Int × List Int) := (tidepolelaw25_spans.f k dN).bind fun eG => ((tidepolelaw25_spans.f k dK).bind fun fU => (some (dD, dH, dQ, dR, dO, eG, fU, dJ, dI)))
def tidepolelaw25_ints.T1 : Bool × List (List Nat × List Nat) := (true, [([], []), ([0], [0]), ([], []), ([2], [2]), ([], []), ([4], [4]), ([], []), ([6], [6]), ([], []), ([8], [8]), ([], []), ([10], [10]), ([11], [11]), ([], []), ([13], [13]), ([14, 12], [14]), ([], []), ([16], [16]), ([], []), ([18], [18]), ([1, 3, 5, 7, 9, 12, 15, 17, 19], [1, 3, 5, 7, 9, 12, 15, 17, 19]), ([20, 15, 0, 1, 2, 3, 4, 5, 6, 7, 8, 9, 10, 11, 12, 13, 14, 15, 16, 17, 18, 19, 20], [20])])
def tidepolelaw25_ints.B1 : List Nat := [0, 1, 0, 4, 0, 16, 0, 64, 0, 256, 0, 1024, 3072, 0, 8192, 31744, 0, 65536, 0, 262144, 1048575, 2097151]
theorem tidepolelaw25_ints.adL : rZ .any (opsOf Try.f29 1) = tidepolelaw25_ints.T1 := by kernel_rfl
theorem tidepolelaw25_ints.aau : tJ tidepolelaw25_ints.T1.2 tidepolelaw25_ints.B1 = true := by kernel_rfl
set_option maxHeartbeats 8000000 in
set_option maxRecDepth 100000 in
theorem tidepolelaw25_ints.calls (k : Nat) (dD : Int) (dH : Int) (dQ : Int) (dR : Int) (dO : Int) (iV : Option Addr) (iW : Nat) (dN : List (dP)) (iR : Option Addr) (iT : Nat) (dK : List (dP)) (MB : Nat → Prop) (iC : Option Addr) (iD : Nat) (dJ : List Int) (MC : Nat → Prop) (iE : Option Addr) (iF : Nat) (dI : List Int) (r1 : Int) (r2 : Int) (r3 : Int) (r4 : Int) (r5 : Int) (r6 : List (fD)) (r7 : List (fD)) (r8 : List Int) (r9 : List Int) (w : World) (oO : Kd.C jE w iV dN.length dN) (oP : dN.length ≤ iW) (oQ : Kd.C jE w iR dK.length dK) (oU : dK.length ≤ iT) (aav : Kd.V (Kd.int .i64) 2 w w.heap.size (fun k_ => MB k_) (.slice iC dJ.length iD) dJ) (aaw : Kd.V (Kd.int .i64) 2 w w.heap.size (fun k_ => MC k_) (.slice iE dI.length iF) dI) (h : tidepolelaw25_ints.f k dD dH dQ dR dO dN dK dJ dI = some (r1, r2, r3, r4, r5, r6, r7, r8, r9)) :
  Calls Try.prog 29 #[.agg #[.int .i64 dD, .int .u64 dH, .int .u64 dQ, .int .u64 dR, .int .u64 dO, .slice iV dN.length iW, .slice iR dK.length iT, .slice iC dJ.length iD, .slice iE dI.length iF]] w fun e w' => ∃ Md Me P8 P9 : Value, e = .returned (.agg #[.int .i64 r1, .int .u64 r2, .int .u64 r3, .int .u64 r4, .int .u64 r5, Md, Me, P8, P9]) ∧ Kd.R nD 127 w' w.heap.size (fun k_ => (w.heap.size ≤ k_) ∧ some k_ ≠ (Me : Value).ownBlock) Md r6 ∧ Kd.R nD 127 w' w.heap.size (fun k_ => (w.heap.size ≤ k_) ∧ some k_ ≠ (Md : Value).ownBlock) Me r7 ∧ Kd.V (Kd.int .i64) 2 w' w.heap.size (fun k_ => ((MB k_ ∨ MC k_) ∨ w.heap.size ≤ k_) ∧ some k_ ≠ (Md : Value).ownBlock ∧ some k_ ≠ (Me : Value).ownBlock) P8 r8 ∧ Kd.V (Kd.int .i64) 2 w' w.heap.size (fun k_ => ((MB k_ ∨ MC k_) ∨ w.heap.size ≤ k_) ∧ some k_ ≠ (Md : Value).ownBlock ∧ some k_ ≠ (Me : Value).ownBlock) P9 r9 ∧ Below w.heap.size w w' := by
 have Ui := Try.underlying29
 have aan := Try.underlying41
 have nH := ah oO
 have nI := ah oP
 clear oO oP
 have nZ := ah oQ
 have oh := ah oU
 clear oQ oU
 have uM := ah (show Kd.V (Kd.int .i64) 2 w w.heap.size (fun k_ => ((MB k_ ∨ MC k_) ∨ w.heap.size ≤ k_)) (.slice iC dJ.length iD) dJ from Kd.yG aav (fun k_ hk => .inl (.inl hk)))
 have uN := ah (show Kd.V (Kd.int .i64) 2 w w.heap.size (fun k_ => ((MB k_ ∨ MC k_) ∨ w.heap.size ≤ k_)) (.slice iE dI.length iF) dI from Kd.yG aaw (fun k_ hk => .inl (.inr hk)))
 have HB := ah (Below.refl w.heap.size w)
 have H : ((tidepolelaw25_spans.f k dN).bind fun eG => ((tidepolelaw25_spans.f k dK).bind fun fU => (some (dD, dH, dQ, dR, dO, eG, fU, dJ, dI)))) = some (r1, r2, r3, r4, r5, r6, r7, r8, r9) := h
 clear h
 replace H := Option.bind_eq_some_iff.mp H
 obtain ⟨eG, sV, H⟩ := H
 replace H : ((tidepolelaw25_spans.f k dK).bind fun fU => (some (dD, dH, dQ, dR, dO, eG, fU, dJ, dI))) = some (r1, r2, r3, r4, r5, r6, r7, r8, r9) := H
 have A2 := ah sV
 clear sV
 replace H := Option.bind_eq_some_iff.mp H
 obtain ⟨fU, IG, H⟩ := H
 replace H : (some (dD, dH, dQ, dR, dO, eG, fU, dJ, dI)) = some (r1, r2, r3, r4, r5, r6, r7, r8, r9) := H
 have A3 := ah IG
 clear IG
 simp only [Option.some.injEq, Prod.mk.injEq] at H
 obtain ⟨rfl, rfl, rfl, rfl, rfl, rfl, rfl, rfl, rfl⟩ := H
 go_enter Try.func29, Try.ntmps29
 try go_wp2_with (first | ((with_reducible refine fJ (N := 1) rfl ?_); refine eU ?hg (N := 1) ?hd (cs := #[.int .i64 dD, .int .u64 dH, .int .u64 dQ, .int .u64 dR, .int .u64 dO, .slice iV dN.length iW, .slice iR dK.length iT, .slice iC dJ.length iD, .slice iE dI.length iF]) (t := 29) ?hr ?_; (case hd => rfl); (case hg => rfl); (case hr => first | (go_simp; done) | (go_simp; rfl)); intro cO hg w4 hbox hb; have aV := ah (hbox); have vG := ah ((by rw [hg]; exact (aI (aX HB.out)) : w.heap.size ≤ cO)); have bZ := ah ((by rw [hg]; exact (aI (aX HB.out)) : w.heap.size ≤ cO)); replace uM := ah (Kd.EF (Kd.Bl (by (with_reducible repeat (first | apply Kd.jF | apply Kd.jG | apply Kd.kD)); exact uM.out) cO (Nat.le_of_eq hg.symm)) hb); replace uN := ah (Kd.EF (Kd.Bl (by (with_reducible repeat (first | apply Kd.jF | apply Kd.jG | apply Kd.kD)); exact uN.out) cO (Nat.le_of_eq hg.symm)) hb); replace HB := ah (aW (aX HB.out) hb); clear hb hbox hg) | ((with_reducible refine fJ (N := 2) rfl ?_); refine eU ?hg (N := 2) ?hd (cs := #[.int .i64 0, .int .u64 0, .int .u64 0, .int .u64 0, .int .u64 0, .slice none 0 0, .slice none 0 0, .slice none 0 0, .slice none 0 0]) (t := 41) ?hr ?_; (case hd => rfl); (case hg => rfl); (case hr => first | (go_simp; done) | (go_simp; rfl)); intro aJ hg w5 hbox hb; have aN := ah (hbox); have oM := ah ((by rw [hg]; exact (aI (by repeat (first | (with_reducible first | exact HB.out | refine bJ ?_ | refine aA ?_ bZ.out) | exact HB.out))) : w.heap.size ≤ aJ)); have bT := ah ((by rw [hg]; exact (aI (by repeat (first | (with_reducible first | exact HB.out | refine bJ ?_ | refine aA ?_ bZ.out) | exact HB.out))) : w.heap.size ≤ aJ)); have aQ := ah ((by rw [hg]; exact Nat.ne_of_lt (kL (g := cO) (o := .cells #[.int .i64 dD, .int .u64 dH, .int .u64 dQ, .int .u64 dR, .int .u64 dO, .slice iV dN.length iW, .slice iR dK.length iT, .slice iC dJ.length iD, .slice iE dI.length iF] 29 (0, 0)) (jP aV.out)) : cO ≠ aJ)); have fE := ah ((by rw [hg]; exact Nat.ne_of_gt (kL (g := cO) (o := .cells #[.int .i64 dD, .int .u64 dH, .int .u64 dQ, .int .u64 dR, .int .u64 dO, .slice iV dN.length iW, .slice iR dK.length iT, .slice iC dJ.length iD, .slice iE dI.length iF] 29 (0, 0)) (jP aV.out)) : aJ ≠ cO)); replace uM := ah (Kd.EF (Kd.Bl (by (with_reducible repeat (first | apply Kd.jF | apply Kd.jG | apply Kd.kD)); exact uM.out) aJ (Nat.le_of_eq hg.symm)) hb); replace uN := ah (Kd.EF (Kd.Bl (by (with_reducible repeat (first | apply Kd.jF | apply Kd.jG | apply Kd.kD)); exact uN.out) aJ (Nat.le_of_eq hg.symm)) hb); replace aV := ah (dX aV.out hb); replace HB := ah (aW (by repeat (first | (with_reducible first | exact HB.out | refine bJ ?_ | refine aA ?_ bZ.out) | exact HB.out)) hb); clear hb hbox hg))
 have gZ := ah (Kd.kD uM.out)
 have iL := ah (Kd.kD uN.out)
 have jC := ah (rY aV.out)
 have jZ := ah (rY aN.out)
 have mQ := ah (aC HB.out)
 clear uM
 clear uN
 clear aV
 clear aN
 clear HB
 have uM := gZ
 have uN := iL
 have aV := jC
 have aN := jZ
 have HB := mQ
 clear gZ iL jC jZ mQ
 refine Dj (n := 22) (S := fun w' => w'.cell? ⟨cO, 0, none⟩ = some (.int .i64 dD) ∧ w'.cell? ⟨cO, 1, none⟩ = some (.int .u64 dH) ∧ w'.cell? ⟨cO, 2, none⟩ = some (.int .u64 dQ) ∧ w'.cell? ⟨cO, 3, none⟩ = some (.int .u64 dR) ∧ w'.cell? ⟨cO, 4, none⟩ = some (.int .u64 dO) ∧ w'.cell? ⟨cO, 5, none⟩ = some (.slice iV dN.length iW) ∧ w'.cell? ⟨cO, 6, none⟩ = some (.slice iR dK.length iT) ∧ w'.cell? ⟨cO, 7, none⟩ = some (.slice iC dJ.length iD) ∧ w'.cell? ⟨cO, 8, none⟩ = some (.slice iE dI.length iF)) (ds := []) #[false, false, false, false, false, false, false, false, false, false, false, false, false, false, false, false, false, false, false, false, false, false] (by kernel_rfl) rfl rfl ⟨(ay aV.out 0).trans rfl, (ay aV.out 1).trans rfl, (ay aV.out 2).trans rfl, (ay aV.out 3).trans rfl, (ay aV.out 4).trans rfl, (ay aV.out 5).trans rfl, (ay aV.out 6).trans rfl, (ay aV.out 7).trans rfl, (ay aV.out 8).trans rfl⟩ (fun hHeld => ?_); refine uf tidepolelaw25_ints.adL tidepolelaw25_ints.aau (fun HT_ HW_ => ?_)
 generalize w5.drew = w6 at uM uN aV aN HB hHeld ⊢
 refine iH (i := 0) (N := some 3) (v := ?_) (a' := ?_) #[true, false, false, false, false, false, false, false, false, false, false, false, false, false, false, false, false, false, false, false, false, false] rfl rfl (gu HT_.out (by kernel_rfl)) (fun _ _ _ h => h) (Or.inl ⟨by rfl, ?_⟩) ?_ ?_
 rotate_left
 ·intro w'
  go_simp
  with_reducible rfl
 rotate_left
 ·simp only [Act.put, List.setIfInBounds_toArray, List.set_cons_zero, List.set_cons_succ, dh, dF]
  rfl
 refine iH (i := 2) (N := some 5) (v := ?_) (a' := ?_) #[true, false, true, false, false, false, false, false, false, false, false, false, false, false, false, false, false, false, false, false, false, false] rfl rfl (gu HT_.out (by kernel_rfl)) (fun _ _ _ h => h) (Or.inl ⟨by rfl, ?_⟩) ?_ ?_
 rotate_left
 ·intro w'
  go_simp
  with_reducible rfl
 rotate_left
 ·simp only [Act.put, List.setIfInBounds_toArray, List.set_cons_zero, List.set_cons_succ, dh, dF]
  rfl
 refine iH (i := 4) (N := some 7) (v := ?_) (a' := ?_) #[true, false, true, false, true, false, false, false, false, false, false, false, false, false, false, false, false, false, false, false, false, false] rfl rfl (gu HT_.out (by kernel_rfl)) (fun _ _ _ h => h) (Or.inl ⟨by rfl, ?_⟩) ?_ ?_
 rotate_left
 ·intro w'
  go_simp
  with_reducible rfl
 rotate_left
 ·simp only [Act.put, List.setIfInBounds_toArray, List.set_cons_zero, List.set_cons_succ, dh, dF]
  rfl
 refine iH (i := 6) (N := some 9) (v := ?_) (a' := ?_) #[true, false, true, false, true, false, true, false, false, false, false, false, false, false, false, false, false, false, false, false, false, false] rfl rfl (gu HT_.out (by kernel_rfl)) (fun _ _ _ h => h) (Or.inl ⟨by rfl, ?_⟩) ?_ ?_
 rotate_left
 ·intro w'
  go_simp
  with_reducible rfl
 rotate_left
 ·simp only [Act.put, List.setIfInBounds_toArray, List.set_cons_zero, List.set_cons_succ, dh, dF]
  rfl
 refine iH (i := 8) (N := some 11) (v := ?_) (a' := ?_) #[true, false, true, false, true, false, true, false, true, false, false, false, false, false, false, false, false, false, false, false, false, false] rfl rfl (gu HT_.out (by kernel_rfl)) (fun _ _ _ h => h) (Or.inl ⟨by rfl, ?_⟩) ?_ ?_
 rotate_left
 ·intro w'
  go_simp
  with_reducible rfl
 rotate_left
 ·simp only [Act.put, List.setIfInBounds_toArray, List.set_cons_zero, List.set_cons_succ, dh, dF]
  rfl
 refine iH (i := 10) (N := some 13) (v := ?_) (a' := ?_) #[true, false, true, false, true, false, true, false, true, false, true, false, false, false, false, false, false, false, false, false, false, false] rfl rfl (gu HT_.out (by kernel_rfl)) (fun _ _ _ h => h) (Or.inl ⟨by rfl, ?_⟩) ?_ ?_
 rotate_left
 ·intro w'
  go_simp
  with_reducible rfl
 rotate_left
 ·simp only [Act.put, List.setIfInBounds_toArray, List.set_cons_zero, List.set_cons_succ, dh, dF]
  rfl
 refine iH (i := 13) (N := some 16) (v := ?_) (a' := ?_) #[true, false, true, false, true, false, true, false, true, false, true, false, false, true, false, false, false, false, false, false, false, false] rfl rfl (gu HT_.out (by kernel_rfl)) (fun _ _ _ h => h) (Or.inl ⟨by rfl, ?_⟩) ?_ ?_
 rotate_left
 ·intro w'
  go_simp
  with_reducible rfl
 rotate_left
 ·simp only [Act.put, List.setIfInBounds_toArray, List.set_cons_zero, List.set_cons_succ, dh, dF]
  rfl
 refine iH (i := 16) (N := some 19) (v := ?_) (a' := ?_) #[true, false, true, false, true, false, true, false, true, false, true, false, false, true, false, false, true, false, false, false, false, false] rfl rfl (gu HT_.out (by kernel_rfl)) (fun _ _ _ h => h) (Or.inl ⟨by rfl, ?_⟩) ?_ ?_
 rotate_left
 ·intro w'
  go_simp
  with_reducible rfl
 rotate_left
 ·simp only [Act.put, List.setIfInBounds_toArray, List.set_cons_zero, List.set_cons_succ, dh, dF]
  rfl
 refine iH (i := 18) (N := some 21) (v := ?_) (a' := ?_) #[true, false, true, false, true, false, true, false, true, false, true, false, false, true, false, false, true, false, true, false, false, false] rfl rfl (gu HT_.out (by kernel_rfl)) (fun _ _ _ h => h) (Or.inl ⟨by rfl, ?_⟩) ?_ ?_
 rotate_left
 ·intro w'
  go_simp
  with_reducible rfl
 rotate_left
 ·simp only [Act.put, List.setIfInBounds_toArray, List.set_cons_zero, List.set_cons_succ, dh, dF]
  rfl
 refine mP (i := 1) (N := some 4) (v := ?_) (a' := ?_) #[true, true, true, false, true, false, true, false, true, false, true, false, false, true, false, false, true, false, true, false, false, false] rfl rfl (iQ HT_.out HW_.out (by kernel_rfl)) (fun _ _ _ h => h) (Or.inl ⟨by rfl, ?_⟩) hHeld ?_ ?_
 rotate_left
 ·rintro w' ⟨s0, s1, s2, s3, s4, s5, s6, s7, s8⟩
  go_simp
  with_reducible rfl
 rotate_left
 ·simp only [Act.put, List.setIfInBounds_toArray, List.set_cons_zero, List.set_cons_succ, dh, dF]
  rfl
 refine mP (i := 3) (N := some 6) (v := ?_) (a' := ?_) #[true, true, true, true, true, false, true, false, true, false, true, false, false, true, false, false, true, false, true, false, false, false] rfl rfl (iQ HT_.out HW_.out (by kernel_rfl)) (fun _ _ _ h => h) (Or.inl ⟨by rfl, ?_⟩) hHeld ?_ ?_
 rotate_left
 ·rintro w' ⟨s0, s1, s2, s3, s4, s5, s6, s7, s8⟩
  go_simp
  with_reducible rfl
 rotate_left
 ·simp only [Act.put, List.setIfInBounds_toArray, List.set_cons_zero, List.set_cons_succ, dh, dF]
  rfl
 refine mP (i := 5) (N := some 8) (v := ?_) (a' := ?_) #[true, true, true, true, true, true, true, false, true, false, true, false, false, true, false, false, true, false, true, false, false, false] rfl rfl (iQ HT_.out HW_.out (by kernel_rfl)) (fun _ _ _ h => h) (Or.inl ⟨by rfl, ?_⟩) hHeld ?_ ?_
 rotate_left
 ·rintro w' ⟨s0, s1, s2, s3, s4, s5, s6, s7, s8⟩
  go_simp
  with_reducible rfl
 rotate_left
 ·simp only [Act.put, List.setIfInBounds_toArray, List.set_cons_zero, List.set_cons_succ, dh, dF]
  rfl
 refine mP (i := 7) (N := some 10) (v := ?_) (a' := ?_) #[true, true, true, true, true, true, true, true, true, false, true, false, false, true, false, false, true, false, true, false, false, false] rfl rfl (iQ HT_.out HW_.out (by kernel_rfl)) (fun _ _ _ h => h) (Or.inl ⟨by rfl, ?_⟩) hHeld ?_ ?_
 rotate_left
 ·rintro w' ⟨s0, s1, s2, s3, s4, s5, s6, s7, s8⟩
  go_simp
  with_reducible rfl
 rotate_left
 ·simp only [Act.put, List.setIfInBounds_toArray, List.set_cons_zero, List.set_cons_succ, dh, dF]
  rfl
 refine mP (i := 9) (N := some 12) (v := ?_) (a' := ?_) #[true, true, true, true, true, true, true, true, true, true, true, false, false, true, false, false, true, false, true, false, false, false] rfl rfl (iQ HT_.out HW_.out (by kernel_rfl)) (fun _ _ _ h => h) (Or.inl ⟨by rfl, ?_⟩) hHeld ?_ ?_
 rotate_left
 ·rintro w' ⟨s0, s1, s2, s3, s4, s5, s6, s7, s8⟩
  go_simp
  with_reducible rfl
 rotate_left
 ·simp only [Act.put, List.setIfInBounds_toArray, List.set_cons_zero, List.set_cons_succ, dh, dF]
  rfl
 refine mP (i := 11) (N := some 14) (v := ?_) (a' := ?_) #[true, true, true, true, true, true, true, true, true, true, true, true, false, true, false, false, true, false, true, false, false, false] rfl rfl (iQ HT_.out HW_.out (by kernel_rfl)) (fun _ _ _ h => h) (Or.inl ⟨by rfl, ?_⟩) hHeld ?_ ?_
 rotate_left
 ·rintro w' ⟨s0, s1, s2, s3, s4, s5, s6, s7, s8⟩
  go_simp
  with_reducible rfl
 rotate_left
 ·simp only [Act.put, List.setIfInBounds_toArray, List.set_cons_zero, List.set_cons_succ, dh, dF]
  rfl
 refine mP (i := 14) (N := some 17) (v := ?_) (a' := ?_) #[true, true, true, true, true, true, true, true, true, true, true, true, false, true, true, false, true, false, true, false, false, false] rfl rfl (iQ HT_.out HW_.out (by kernel_rfl)) (fun _ _ _ h => h) (Or.inl ⟨by rfl, ?_⟩) hHeld ?_ ?_
 rotate_left
 ·rintro w' ⟨s0, s1, s2, s3, s4, s5, s6, s7, s8⟩
  go_simp
  with_reducible rfl
 rotate_left
 ·simp only [Act.put, List.setIfInBounds_toArray, List.set_cons_zero, List.set_cons_succ, dh, dF]
  rfl
 refine mP (i := 17) (N := some 20) (v := ?_) (a' := ?_) #[true, true, true, true, true, true, true, true, true, true, true, true, false, true, true, false, true, true, true, false, false, false] rfl rfl (iQ HT_.out HW_.out (by kernel_rfl)) (fun _ _ _ h => h) (Or.inl ⟨by rfl, ?_⟩) hHeld ?_ ?_
 rotate_left
 ·rintro w' ⟨s0, s1, s2, s3, s4, s5, s6, s7, s8⟩
  go_simp
  with_reducible rfl
 rotate_left
 ·simp only [Act.put, List.setIfInBounds_toArray, List.set_cons_zero, List.set_cons_succ, dh, dF]
  rfl
 refine mP (i := 19) (N := some 22) (v := ?_) (a' := ?_) #[true, true, true, true, true, true, true, true, true, true, true, true, false, true, true, false, true, true, true, true, false, false] rfl rfl (iQ HT_.out HW_.out (by kernel_rfl)) (fun _ _ _ h => h) (Or.inl ⟨by rfl, ?_⟩) hHeld ?_ ?_
 rotate_left
 ·rintro w' ⟨s0, s1, s2, s3, s4, s5, s6, s7, s8⟩
  go_simp
  with_reducible rfl
 rotate_left
 ·simp only [Act.put, List.setIfInBounds_toArray, List.set_cons_zero, List.set_cons_succ, dh, dF]
  rfl
 refine tH (i := 12) (N := some 15) #[true, true, true, true, true, true, true, true, true, true, true, true, true, true, true, false, true, true, true, true, false, false] rfl rfl (kZ HT_.out (by kernel_rfl)) (by decide) (fun K hK => ?_)
 refine yj Try.func87 (by kernel_rfl) rfl #[.slice iV dN.length iW] (by rfl) rfl rfl (by (try simp only [List.map_toArray, List.map_cons, List.map_nil]); first | done | rfl | (simp only [List.length_drop, List.length_take]; rfl)) ?_
 with_reducible refine (tidepolelaw25_spans.calls k _ _ dN eG _ ?dw ?dA A2.out).mono ?_
 (case dw => exact Kd.jT (Kd.bM nH.out HB.out))
 (case dA => exact nI.out)
 rintro e w7 ⟨yJ, rfl, ho0, hb⟩
 refine ⟨_, rfl, ?_⟩
 have gZ := ah (Kd.Bj (by (with_reducible repeat (first | apply Kd.jF | apply Kd.jG | apply Kd.kD)); exact uM.out) (Kd.fP ho0) hb)
 have iL := ah (Kd.Bj (by (with_reducible repeat (first | apply Kd.jF | apply Kd.jG | apply Kd.kD)); exact uN.out) (Kd.fP ho0) hb)
 have jC := ah (Kd.bV (Kd.Sr (M := fun k_ => (w.heap.size ≤ k_)) ho0 (aI (by repeat (first | (with_reducible first | exact HB.out | refine bJ ?_ | refine aA ?_ bZ.out | refine aA ?_ bT.out) | exact HB.out))) (fun k_ h_ => h_)) (aI (by repeat (first | (with_reducible first | exact HB.out | refine bJ ?_ | refine aA ?_ bZ.out | refine aA ?_ bT.out) | exact HB.out))))
 have jZ := ah (dX aV.out hb)
 have mQ := ah (dX aN.out hb)
 have qY := ah (aW (by repeat (first | (with_reducible first | exact HB.out | refine bJ ?_ | refine aA ?_ bZ.out | refine aA ?_ bT.out) | exact HB.out)) hb)
 clear uM
 clear uN
 clear aV
 clear aN
 clear HB
 have uM := gZ
 have uN := iL
 have eF := jC
 have aV := jZ
 have aN := mQ
 have HB := qY
 clear gZ iL jC jZ mQ qY
 (try clear hb)
 (try clear hb2)
 (try clear hk)
 (try clear hi)
 (try clear ho0)
 refine hK.out _ _ ⟨(ay aV.out 0).trans rfl, (ay aV.out 1).trans rfl, (ay aV.out 2).trans rfl, (ay aV.out 3).trans rfl, (ay aV.out 4).trans rfl, (ay aV.out 5).trans rfl, (ay aV.out 6).trans rfl, (ay aV.out 7).trans rfl, (ay aV.out 8).trans rfl⟩ (fun hHeld => ?_)
 clear hK K
 refine kC (a' := ?_) ?_ ?_
 rotate_left
 ·show Act.put _ (some 15) _ = _
  simp only [Act.put, List.setIfInBounds_toArray, List.set_cons_zero, List.set_cons_succ, dh, dF]
  rfl
 refine tH (i := 15) (N := some 18) #[true, true, true, true, true, true, true, true, true, true, true, true, true, true, true, true, true, true, true, true, false, false] rfl rfl (kZ HT_.out (by kernel_rfl)) (by decide) (fun K hK => ?_)
 refine yj Try.func87 (by kernel_rfl) rfl #[.slice iR dK.length iT] (by rfl) rfl rfl (by (try simp only [List.map_toArray, List.map_cons, List.map_nil]); first | done | rfl | (simp only [List.length_drop, List.length_take]; rfl)) ?_
 with_reducible refine (tidepolelaw25_spans.calls k _ _ dK fU _ ?dw ?dA A3.out).mono ?_
 (case dw => exact Kd.jT (Kd.bM nZ.out HB.out))
 (case dA => exact oh.out)
 rintro e w8 ⟨v107, rfl, ho0, hb⟩
 refine ⟨_, rfl, ?_⟩
 have gZ := ah (Kd.Bj (by (with_reducible repeat (first | apply Kd.jF | apply Kd.jG | apply Kd.kD)); exact uM.out) (Kd.fP ho0) hb)
 have iL := ah (Kd.Bj (by (with_reducible repeat (first | apply Kd.jF | apply Kd.jG | apply Kd.kD)); exact uN.out) (Kd.fP ho0) hb)
 have jC := ah (Kd.dW (Kd.fB eF.out) (Kd.fP ho0) hb)
 have jZ := ah (Kd.bV (Kd.gq (Kd.Sr (M := fun k_ => (w.heap.size ≤ k_)) ho0 (aI (by repeat (first | (with_reducible first | exact HB.out | refine bJ ?_ | refine aA ?_ bZ.out | refine aA ?_ bT.out) | exact HB.out))) (fun k_ h_ => h_)) (Kd.jH (Kd.fB eF.out))) (aI (by repeat (first | (with_reducible first | exact HB.out | refine bJ ?_ | refine aA ?_ bZ.out | refine aA ?_ bT.out) | exact HB.out))))
 have mQ := ah (dX aV.out hb)
 have qY := ah (dX aN.out hb)
 have n6_ := ah (aW (by repeat (first | (with_reducible first | exact HB.out | refine bJ ?_ | refine aA ?_ bZ.out | refine aA ?_ bT.out) | exact HB.out)) hb)
 clear uM
 clear uN
 clear eF
 clear aV
 clear aN
 clear HB
 have uM := gZ
 have uN := iL
 have eF := jC
 have fK := jZ
 have aV := mQ
 have aN := qY
 have HB := n6_
 clear gZ iL jC jZ mQ qY n6_
 (try clear hb)
 (try clear hb2)
 (try clear hk)
 (try clear hi)
 (try clear ho0)
 obtain ⟨LM, KO, VD⟩ := Kd.bY fK.out
 (first | subst VD | (injection VD with sG yM sH; have yN := sG.symm; have yO := sH.symm; clear sG yM sH; subst yN; subst yO))
 obtain ⟨tX, tY, LP⟩ := Kd.bY eF.out
 (first | subst LP | (injection LP with sG yM sH; have yN := sG.symm; have yO := sH.symm; clear sG yM sH; subst yN; subst yO))
 refine hK.out _ _ ⟨(ay aV.out 0).trans rfl, (ay aV.out 1).trans rfl, (ay aV.out 2).trans rfl, (ay aV.out 3).trans rfl, (ay aV.out 4).trans rfl, (ay aV.out 5).trans rfl, (ay aV.out 6).trans rfl, (ay aV.out 7).trans rfl, (ay aV.out 8).trans rfl⟩ (fun hHeld => ?_)
 clear hK K
 refine kC (a' := ?_) ?_ ?_
 rotate_left
 ·show Act.put _ (some 18) _ = _
  simp only [Act.put, List.setIfInBounds_toArray, List.set_cons_zero, List.set_cons_succ, dh, dF]
  rfl
 refine iH (i := 20) (N := some 23) (v := ?_) (a' := ?_) #[true, true, true, true, true, true, true, true, true, true, true, true, true, true, true, true, true, true, true, true, true, false] rfl rfl (gu HT_.out (by kernel_rfl)) (fun _ _ _ h => h) (Or.inl ⟨by rfl, ?_⟩) ?_ ?_
 rotate_left
 ·intro w'
  go_simp
  with_reducible rfl
 rotate_left
 ·simp only [Act.put, List.setIfInBounds_toArray, List.set_cons_zero, List.set_cons_succ, dh, dF]
  rfl
 refine tH (i := 21) (N := none) #[true, true, true, true, true, true, true, true, true, true, true, true, true, true, true, true, true, true, true, true, true, true] rfl rfl (kZ HT_.out (by kernel_rfl)) (by decide) (fun K hK => ?_)
 have hs11 : w8.cell? ⟨aJ, 0, none⟩ = some (.int .i64 0) := (ay aN.out 0).trans rfl
 have afq := aG aN.out 0
 have abD := aQ.out
 have abE := fE.out
 have ag9 : w8.cell? ⟨aJ, 1, none⟩ = some (.int .u64 0) := (ay aN.out 1).trans rfl
 have afr := aG aN.out 1
 have abG := aQ.out
 have abH := fE.out
 have aha : w8.cell? ⟨aJ, 2, none⟩ = some (.int .u64 0) := (ay aN.out 2).trans rfl
 have afs := aG aN.out 2
 have abI := aQ.out
 have abJ := fE.out
 have ahb : w8.cell? ⟨aJ, 3, none⟩ = some (.int .u64 0) := (ay aN.out 3).trans rfl
 have aft := aG aN.out 3
 have abK := aQ.out
 have abL := fE.out
 have ahc : w8.cell? ⟨aJ, 4, none⟩ = some (.int .u64 0) := (ay aN.out 4).trans rfl
 have afu := aG aN.out 4
 have abM := aQ.out
 have abN := fE.out
 have ahd : w8.cell? ⟨aJ, 5, none⟩ = some (.slice none 0 0) := (ay aN.out 5).trans rfl
 have afv := aG aN.out 5
 have abO := aQ.out
 have abP := fE.out
 have ahe : w8.cell? ⟨aJ, 6, none⟩ = some (.slice none 0 0) := (ay aN.out 6).trans rfl
 have afw := aG aN.out 6
 have abQ := aQ.out
 have abR := fE.out
 have ahf : w8.cell? ⟨aJ, 7, none⟩ = some (.slice none 0 0) := (ay aN.out 7).trans rfl
 have afx := aG aN.out 7
 have abS := aQ.out
 have abT := fE.out
 have ahg : w8.cell? ⟨aJ, 8, none⟩ = some (.slice none 0 0) := (ay aN.out 8).trans rfl
 have afy := aG aN.out 8
 have abU := aQ.out
 have abV := fE.out
 refine WQ (w1 := ?_) (by rfl) rfl ?_ ?_
 rotate_left
 ·go_simp
  rfl
 refine hK.out _ _ ⟨((cell_far (p := ⟨aJ, _, none⟩) aQ.out _).trans (((cell_far (p := ⟨aJ, _, none⟩) aQ.out _).trans (((cell_far (p := ⟨aJ, _, none⟩) aQ.out _).trans (((cell_far (p := ⟨aJ, _, none⟩) aQ.out _).trans (((cell_far (p := ⟨aJ, _, none⟩) aQ.out _).trans (((cell_far (p := ⟨aJ, _, none⟩) aQ.out _).trans (((cell_far (p := ⟨aJ, _, none⟩) aQ.out _).trans (((cell_far (p := ⟨aJ, _, none⟩) aQ.out _).trans (((cell_far (p := ⟨aJ, _, none⟩) aQ.out _).trans (hHeld.1)))))))))))))))))), ((cell_far (p := ⟨aJ, _, none⟩) aQ.out _).trans (((cell_far (p := ⟨aJ, _, none⟩) aQ.out _).trans (((cell_far (p := ⟨aJ, _, none⟩) aQ.out _).trans (((cell_far (p := ⟨aJ, _, none⟩) aQ.out _).trans (((cell_far (p := ⟨aJ, _, none⟩) aQ.out _).trans (((cell_far (p := ⟨aJ, _, none⟩) aQ.out _).trans (((cell_far (p := ⟨aJ, _, none⟩) aQ.out _).trans (((cell_far (p := ⟨aJ, _, none⟩) aQ.out _).trans (((cell_far (p := ⟨aJ, _, none⟩) aQ.out _).trans (hHeld.2.1)))))))))))))))))), ((cell_far (p := ⟨aJ, _, none⟩) aQ.out _).trans (((cell_far (p := ⟨aJ, _, none⟩) aQ.out _).trans (((cell_far (p := ⟨aJ, _, none⟩) aQ.out _).trans (((cell_far (p := ⟨aJ, _, none⟩) aQ.out _).trans (((cell_far (p := ⟨aJ, _, none⟩) aQ.out _).trans (((cell_far (p := ⟨aJ, _, none⟩) aQ.out _).trans (((cell_far (p := ⟨aJ, _, none⟩) aQ.out _).trans (((cell_far (p := ⟨aJ, _, none⟩) aQ.out _).trans (((cell_far (p := ⟨aJ, _, none⟩) aQ.out _).trans (hHeld.2.2.1)))))))))))))))))), ((cell_far (p := ⟨aJ, _, none⟩) aQ.out _).trans (((cell_far (p := ⟨aJ, _, none⟩) aQ.out _).trans (((cell_far (p := ⟨aJ, _, none⟩) aQ.out _).trans (((cell_far (p := ⟨aJ, _, none⟩) aQ.out _).trans (((cell_far (p := ⟨aJ, _, none⟩) aQ.out _).trans (((cell_far (p := ⟨aJ, _, none⟩) aQ.out _).trans (((cell_far (p := ⟨aJ, _, none⟩) aQ.out _).trans (((cell_far (p := ⟨aJ, _, none⟩) aQ.out _).trans (((cell_far (p := ⟨aJ, _, none⟩) aQ.out _).trans (hHeld.2.2.2.1)))))))))))))))))), ((cell_far (p := ⟨aJ, _, none⟩) aQ.out _).trans (((cell_far (p := ⟨aJ, _, none⟩) aQ.out _).trans (((cell_far (p := ⟨aJ, _, none⟩) aQ.out _).trans (((cell_far (p := ⟨aJ, _, none⟩) aQ.out _).trans (((cell_far (p := ⟨aJ, _, none⟩) aQ.out _).trans (((cell_far (p := ⟨aJ, _, none⟩) aQ.out _).trans (((cell_far (p := ⟨aJ, _, none⟩) aQ.out _).trans (((cell_far (p := ⟨aJ, _, none⟩) aQ.out _).trans (((cell_far (p := ⟨aJ, _, none⟩) aQ.out _).trans (hHeld.2.2.2.2.1)))))))))))))))))), ((cell_far (p := ⟨aJ, _, none⟩) aQ.out _).trans (((cell_far (p := ⟨aJ, _, none⟩) aQ.out _).trans (((cell_far (p := ⟨aJ, _, none⟩) aQ.out _).trans (((cell_far (p := ⟨aJ, _, none⟩) aQ.out _).trans (((cell_far (p := ⟨aJ, _, none⟩) aQ.out _).trans (((cell_far (p := ⟨aJ, _, none⟩) aQ.out _).trans (((cell_far (p := ⟨aJ, _, none⟩) aQ.out _).trans (((cell_far (p := ⟨aJ, _, none⟩) aQ.out _).trans (((cell_far (p := ⟨aJ, _, none⟩) aQ.out _).trans (hHeld.2.2.2.2.2.1)))))))))))))))))), ((cell_far (p := ⟨aJ, _, none⟩) aQ.out _).trans (((cell_far (p := ⟨aJ, _, none⟩) aQ.out _).trans (((cell_far (p := ⟨aJ, _, none⟩) aQ.out _).trans (((cell_far (p := ⟨aJ, _, none⟩) aQ.out _).trans (((cell_far (p := ⟨aJ, _, none⟩) aQ.out _).trans (((cell_far (p := ⟨aJ, _, none⟩) aQ.out _).trans (((cell_far (p := ⟨aJ, _, none⟩) aQ.out _).trans (((cell_far (p := ⟨aJ, _, none⟩) aQ.out _).trans (((cell_far (p := ⟨aJ, _, none⟩) aQ.out _).trans (hHeld.2.2.2.2.2.2.1)))))))))))))))))), ((cell_far (p := ⟨aJ, _, none⟩) aQ.out _).trans (((cell_far (p := ⟨aJ, _, none⟩) aQ.out _).trans (((cell_far (p := ⟨aJ, _, none⟩) aQ.out _).trans (((cell_far (p := ⟨aJ, _, none⟩) aQ.out _).trans (((cell_far (p := ⟨aJ, _, none⟩) aQ.out _).trans (((cell_far (p := ⟨aJ, _, none⟩) aQ.out _).trans (((cell_far (p := ⟨aJ, _, none⟩) aQ.out _).trans (((cell_far (p := ⟨aJ, _, none⟩) aQ.out _).trans (((cell_far (p := ⟨aJ, _, none⟩) aQ.out _).trans (hHeld.2.2.2.2.2.2.2.1)))))))))))))))))), ((cell_far (p := ⟨aJ, _, none⟩) aQ.out _).trans (((cell_far (p := ⟨aJ, _, none⟩) aQ.out _).trans (((cell_far (p := ⟨aJ, _, none⟩) aQ.out _).trans (((cell_far (p := ⟨aJ, _, none⟩) aQ.out _).trans (((cell_far (p := ⟨aJ, _, none⟩) aQ.out _).trans (((cell_far (p := ⟨aJ, _, none⟩) aQ.out _).trans (((cell_far (p := ⟨aJ, _, none⟩) aQ.out _).trans (((cell_far (p := ⟨aJ, _, none⟩) aQ.out _).trans (((cell_far (p := ⟨aJ, _, none⟩) aQ.out _).trans (hHeld.2.2.2.2.2.2.2.2))))))))))))))))))⟩ (fun hHeld => ?_)
 clear hK K
 refine Iu (zJ HT_.out (by kernel_rfl)) ?_
 try go_wp2
 refine bodyPost_ret (results_cell_row rfl _ _ aJ 41 #[.int .i64 dD, .int .u64 dH, .int .u64 dQ, .int .u64 dR, .int .u64 dO, .slice tX eG.length tY, .slice LM fU.length KO, .slice iC dJ.length iD, .slice iE dI.length iF] (0, 0) _ rfl (by (repeat with_reducible refine bQ ?_); refine bC (cs := #[.int .i64 dD, .int .u64 dH, .int .u64 dQ, .int .u64 dR, .int .u64 dO, .slice tX eG.length tY, .slice LM fU.length KO, .slice iC dJ.length iD, .slice none 0 0]) ?_ 8 _ rfl; (repeat with_reducible refine bQ ?_); refine bC (cs := #[.int .i64 dD, .int .u64 dH, .int .u64 dQ, .int .u64 dR, .int .u64 dO, .slice tX eG.length tY, .slice LM fU.length KO, .slice none 0 0, .slice none 0 0]) ?_ 7 _ rfl; (repeat with_reducible refine bQ ?_); refine bC (cs := #[.int .i64 dD, .int .u64 dH, .int .u64 dQ, .int .u64 dR, .int .u64 dO, .slice tX eG.length tY, .slice none 0 0, .slice none 0 0, .slice none 0 0]) ?_ 6 _ rfl; (repeat with_reducible refine bQ ?_); refine bC (cs := #[.int .i64 dD, .int .u64 dH, .int .u64 dQ, .int .u64 dR, .int .u64 dO, .slice none 0 0, .slice none 0 0, .slice none 0 0, .slice none 0 0]) ?_ 5 _ rfl; (repeat with_reducible refine bQ ?_); refine bC (cs := #[.int .i64 dD, .int .u64 dH, .int .u64 dQ, .int .u64 dR, .int .u64 0, .slice none 0 0, .slice none 0 0, .slice none 0 0, .slice none 0 0]) ?_ 4 _ rfl; (repeat with_reducible refine bQ ?_); refine bC (cs := #[.int .i64 dD, .int .u64 dH, .int .u64 dQ, .int .u64 0, .int .u64 0, .slice none 0 0, .slice none 0 0, .slice none 0 0, .slice none 0 0]) ?_ 3 _ rfl; (repeat with_reducible refine bQ ?_); refine bC (cs := #[.int .i64 dD, .int .u64 dH, .int .u64 0, .int .u64 0, .int .u64 0, .slice none 0 0, .slice none 0 0, .slice none 0 0, .slice none 0 0]) ?_ 2 _ rfl; (repeat with_reducible refine bQ ?_); refine bC (cs := #[.int .i64 dD, .int .u64 0, .int .u64 0, .int .u64 0, .int .u64 0, .slice none 0 0, .slice none 0 0, .slice none 0 0, .slice none 0 0]) ?_ 1 _ rfl; (repeat with_reducible refine bQ ?_); refine bC (cs := #[.int .i64 0, .int .u64 0, .int .u64 0, .int .u64 0, .int .u64 0, .slice none 0 0, .slice none 0 0, .slice none 0 0, .slice none 0 0]) ?_ 0 _ rfl; (repeat with_reducible refine bQ ?_); exact aN.out) Try.underlying41 rfl (by kernel_rfl)) rfl ?_
 exact ⟨_, _, _, _, by first | rfl | (simp [aT, aU] <;> rfl) | (simp [*, aT, aU] <;> rfl), by (repeat with_reducible refine Kd.kJ ?_); exact Kd.cu (Kd.cZ (p := ⟨aJ, 8, none⟩) (Kd.cZ (p := ⟨aJ, 7, none⟩) (Kd.cZ (p := ⟨aJ, 6, none⟩) (Kd.cZ (p := ⟨aJ, 5, none⟩) (Kd.cZ (p := ⟨aJ, 4, none⟩) (Kd.cZ (p := ⟨aJ, 3, none⟩) (Kd.cZ (p := ⟨aJ, 2, none⟩) (Kd.cZ (p := ⟨aJ, 1, none⟩) (Kd.cZ (p := ⟨aJ, 0, none⟩) (Kd.gY eF.out aN.out (by decide)) (fun _ hk => hk.2) (.int .i64 dD)) (fun _ hk => hk.2) (.int .u64 dH)) (fun _ hk => hk.2) (.int .u64 dQ)) (fun _ hk => hk.2) (.int .u64 dR)) (fun _ hk => hk.2) (.int .u64 dO)) (fun _ hk => hk.2) (.slice tX eG.length tY)) (fun _ hk => hk.2) (.slice LM fU.length KO)) (fun _ hk => hk.2) (.slice iC dJ.length iD)) (fun _ hk => hk.2) (.slice iE dI.length iF)) (fun _ hk => ⟨hk.1.1.1, hk.1.2⟩), by (repeat with_reducible refine Kd.kJ ?_); exact Kd.cu (Kd.cZ (p := ⟨aJ, 8, none⟩) (Kd.cZ (p := ⟨aJ, 7, none⟩) (Kd.cZ (p := ⟨aJ, 6, none⟩) (Kd.cZ (p := ⟨aJ, 5, none⟩) (Kd.cZ (p := ⟨aJ, 4, none⟩) (Kd.cZ (p := ⟨aJ, 3, none⟩) (Kd.cZ (p := ⟨aJ, 2, none⟩) (Kd.cZ (p := ⟨aJ, 1, none⟩) (Kd.cZ (p := ⟨aJ, 0, none⟩) (Kd.gY fK.out aN.out (by decide)) (fun _ hk => hk.2) (.int .i64 dD)) (fun _ hk => hk.2) (.int .u64 dH)) (fun _ hk => hk.2) (.int .u64 dQ)) (fun _ hk => hk.2) (.int .u64 dR)) (fun _ hk => hk.2) (.int .u64 dO)) (fun _ hk => hk.2) (.slice tX eG.length tY)) (fun _ hk => hk.2) (.slice LM fU.length KO)) (fun _ hk => hk.2) (.slice iC dJ.length iD)) (fun _ hk => hk.2) (.slice iE dI.length iF)) (fun _ hk => ⟨hk.1.1.1, hk.1.2⟩), by (with_reducible repeat (first | apply Kd.jF | apply Kd.jG | apply Kd.kD)); exact Kd.yG (Kd.qV (p := ⟨aJ, 8, none⟩) (Kd.qV (p := ⟨aJ, 7, none⟩) (Kd.qV (p := ⟨aJ, 6, none⟩) (Kd.qV (p := ⟨aJ, 5, none⟩) (Kd.qV (p := ⟨aJ, 4, none⟩) (Kd.qV (p := ⟨aJ, 3, none⟩) (Kd.qV (p := ⟨aJ, 2, none⟩) (Kd.qV (p := ⟨aJ, 1, none⟩) (Kd.qV (p := ⟨aJ, 0, none⟩) (Kd.yG uM.out (fun k_ hk => (⟨hk, hk.1.1.2⟩ : _ ∧ k_ ≠ aJ))) (fun _ hk => hk.2) (.int .i64 dD)) (fun _ hk => hk.2) (.int .u64 dH)) (fun _ hk => hk.2) (.int .u64 dQ)) (fun _ hk => hk.2) (.int .u64 dR)) (fun _ hk => hk.2) (.int .u64 dO)) (fun _ hk => hk.2) (.slice tX eG.length tY)) (fun _ hk => hk.2) (.slice LM fU.length KO)) (fun _ hk => hk.2) (.slice iC dJ.length iD)) (fun _ hk => hk.2) (.slice iE dI.length iF)) (fun _ hk => ⟨hk.1.1.1.1.1, ⟨hk.1.1.2, hk.1.2⟩⟩), by (with_reducible repeat (first | apply Kd.jF | apply Kd.jG | apply Kd.kD)); exact Kd.yG (Kd.qV (p := ⟨aJ, 8, none⟩) (Kd.qV (p := ⟨aJ, 7, none⟩) (Kd.qV (p := ⟨aJ, 6, none⟩) (Kd.qV (p := ⟨aJ, 5, none⟩) (Kd.qV (p := ⟨aJ, 4, none⟩) (Kd.qV (p := ⟨aJ, 3, none⟩) (Kd.qV (p := ⟨aJ, 2, none⟩) (Kd.qV (p := ⟨aJ, 1, none⟩) (Kd.qV (p := ⟨aJ, 0, none⟩) (Kd.yG uN.out (fun k_ hk => (⟨hk, hk.1.1.2⟩ : _ ∧ k_ ≠ aJ))) (fun _ hk => hk.2) (.int .i64 dD)) (fun _ hk => hk.2) (.int .u64 dH)) (fun _ hk => hk.2) (.int .u64 dQ)) (fun _ hk => hk.2) (.int .u64 dR)) (fun _ hk => hk.2) (.int .u64 dO)) (fun _ hk => hk.2) (.slice tX eG.length tY)) (fun _ hk => hk.2) (.slice LM fU.length KO)) (fun _ hk => hk.2) (.slice iC dJ.length iD)) (fun _ hk => hk.2) (.slice iE dI.length iF)) (fun _ hk => ⟨hk.1.1.1.1.1, ⟨hk.1.1.2, hk.1.2⟩⟩), by repeat (first | (with_reducible first | exact HB.out | apply ak | apply au | apply aC | refine aA ?_ bZ.out | refine aA ?_ bT.out) | exact HB.out)⟩
def tidepoleref06_Span.l0 : Nat → List (fD) → List (fD) → Int → Int → Option (Bool)
 | 0, _, _, _, _ => none
 | k + 1, x0, x1, x12, uy => if uy < x12 then (if 0 ≤ uy then (if uy < (x0.length : Int) then (if uy < (x1.length : Int) then (if (!(((aY x0 uy).f0) == ((aY x1 uy).f0)) || (!(((aY x0 uy).f1) == ((aY x1 uy).f1)))) = true then (some false) else (tidepoleref06_Span.l0 k x0 x1 x12 (wrap64 (uy + 1)))) else (none)) else (none)) else (none)) else (some true)
def tidepoleref06_Span.f (k : Nat) (l0 : List (fD)) (l1 : List (fD)) : Option (Bool) := if (l0.length : Int) = (l1.length : Int) then (tidepoleref06_Span.l0 k l0 l1 (l0.length : Int) 0) else (some false)
set_option maxHeartbeats 8000000 in
set_option maxRecDepth 100000 in
theorem tidepoleref06_Span.calls (k : Nat) (A0 : Option Addr) (c0 : Nat) (l0 : List (fD)) (A1 : Option Addr) (c1 : Nat) (l1 : List (fD)) (r : Bool) (w : World) (hr0 : Kd.C nD w A0 l0.length l0) (hc0 : l0.length ≤ c0) (hr1 : Kd.C nD w A1 l1.length l1) (hc1 : l1.length ≤ c1) (h : tidepoleref06_Span.f k l0 l1 = some r) :
  Calls Try.prog 88 #[.slice A0 l0.length c0, .slice A1 l1.length c1] w fun e w' => e = .returned (.bool r) ∧ bW w w' := by
 have Tq := Try.underlying127
 have HR0 := ah hr0
 have tK := ah hc0
 clear hr0 hc0
 have HR1 := ah hr1
 have Fj := ah hc1
 clear hr1 hc1
 have H : (if (l0.length : Int) = (l1.length : Int) then (tidepoleref06_Span.l0 k l0 l1 (l0.length : Int) 0) else (some false)) = some r := h
 clear h
 by_cases c3 : (l0.length : Int) = (l1.length : Int)
 ·rw [if_pos c3] at H
  have c3b0 : ((l0.length : Int) == (l1.length : Int)) = true := beq_iff_eq.mpr c3
  have c3b1 : ((l0.length : Int) != (l1.length : Int)) = false := bne_eq_false_iff_eq.mpr c3
  have c3b2 : (l0.length == l1.length) = true := by first | simpa using c3 | (simp at c3 ⊢; omega)
  clear c3
  have H' := ah H
  clear H
  go_enter Try.func88, Try.ntmps88
  go_wp2
  repeat (go_quiet (fail); try go_wp2)
  go_loopg [13] k (fun kq v13 w' => ∃ (bI : Int), v13 = .int .i64 bI ∧ aj (tidepoleref06_Span.l0 kq l0 l1 (l0.length : Int) bI = some r) ∧ aj (kq ≤ k) ∧ bW w w')
  case atStart => exact ⟨(0), (by first | rfl | (simp; done) | (simp [*]; done)), H', ⟨Nat.le_refl _⟩, by repeat (first | exact bW.refl _ | apply bW.step)⟩
  case round =>
   clear H'
   try clear c1
   try clear p2
   try clear c3
   try clear c3b0
   try clear c3b1
   try clear c3b2
   obtain ⟨bI, rfl, HA, jf, ⟨m1, rfl⟩⟩ := hrel
   cases gk with
   | zero => exact absurd HA.out (by simp [tidepoleref06_Span.l0])
   | succ k1 =>
    have H := HA.out
    clear HA
    simp only [tidepoleref06_Span.l0] at H
    by_cases c4 : bI < (l0.length : Int)
    ·rw [if_pos c4] at H
     have c4b0 : decide (bI < (l0.length : Int)) = true := aiJ c4
     clear c4
     by_cases c5 : 0 ≤ bI
     ·rw [if_pos c5] at H
      have c5b0 : decide (0 ≤ bI) = true := aiJ c5
      clear c5
      by_cases c6 : bI < (l0.length : Int)
      ·rw [if_pos c6] at H
       have c6b0 : decide (bI < (l0.length : Int)) = true := aiJ c6
       clear c6
       by_cases c7 : bI < (l1.length : Int)
       ·rw [if_pos c7] at H
        have c7b0 : decide (bI < (l1.length : Int)) = true := aiJ c7
        clear c7
        by_cases c8 : (!(((aY l0 bI).f0) == ((aY l1 bI).f0)) || (!(((aY l0 bI).f1) == ((aY l1 bI).f1)))) = true
        ·rw [if_pos c8] at H
         have c8b0 : (!(((aY l0 bI).f0) == ((aY l1 bI).f0)) || (!(((aY l0 bI).f1) == ((aY l1 bI).f1)))) = true := c8
         clear c8
         obtain rfl := Option.some.inj H
         have eX : 0 ≤ (bI : Int) := aiI (by assumption)
         have eY : bI < (l0.length : Int) := aiI (by assumption)
         obtain ⟨jU, jK, bP, dS⟩ := qB HR0.out bI eX eY
         cases jK
         replace eX := eq_true eX
         replace eY := eq_true eY
         have lu : 0 ≤ (bI : Int) := aiI (by assumption)
         have lC : bI < (l1.length : Int) := aiI (by assumption)
         obtain ⟨qW, uo, kQ, oJ⟩ := qB HR1.out bI lu lC
         cases uo
         replace lu := eq_true lu
         replace lC := eq_true lC
         go_wp2
         repeat (go_quiet (fail); try go_wp2)
         go_ret
         exact ⟨by first | rfl | (simp; done) | (simp [*]; done), by repeat (first | exact bW.refl _ | apply bW.step)⟩
        rw [if_neg c8] at H
        have c8b0 : (!(((aY l0 bI).f0) == ((aY l1 bI).f0)) || (!(((aY l0 bI).f1) == ((aY l1 bI).f1)))) = false := by simpa using c8
        clear c8
        have H' := ah H
        clear H
        have eX : 0 ≤ (bI : Int) := aiI (by assumption)
        have eY : bI < (l0.length : Int) := aiI (by assumption)
        obtain ⟨jU, jK, bP, dS⟩ := qB HR0.out bI eX eY
        cases jK
        replace eX := eq_true eX
        replace eY := eq_true eY
        have lu : 0 ≤ (bI : Int) := aiI (by assumption)
        have lC : bI < (l1.length : Int) := aiI (by assumption)
        obtain ⟨qW, uo, kQ, oJ⟩ := qB HR1.out bI lu lC
        cases uo
        replace lu := eq_true lu
        replace lC := eq_true lC
        go_wp2
        repeat (go_quiet (fail); try go_wp2)
        go_roundg k1
        case measure => have := jf.out; omega
        case rel => exact ⟨(wrap64 (bI + 1)), (by first | rfl | (simp; done) | (simp [*]; done)), H', ⟨by have := jf.out; omega⟩, by repeat (first | exact bW.refl _ | apply bW.step)⟩
       rw [if_neg c7] at H
       exact absurd H (by simp)
      rw [if_neg c6] at H
      exact absurd H (by simp)
     rw [if_neg c5] at H
     exact absurd H (by simp)
    rw [if_neg c4] at H
    have c4b0 : decide (bI < (l0.length : Int)) = false := aiK c4
    clear c4
    obtain rfl := Option.some.inj H
    go_wp2
    repeat (go_quiet (fail); try go_wp2)
    go_ret
    exact ⟨by first | rfl | (simp; done) | (simp [*]; done), by repeat (first | exact bW.refl _ | apply bW.step)⟩
 rw [if_neg c3] at H
 have c3b0 : ((l0.length : Int) == (l1.length : Int)) = false := beq_eq_false_iff_ne.mpr c3
 have c3b1 : ((l0.length : Int) != (l1.length : Int)) = true := bne_iff_ne.mpr c3
 have c3b2 : (l0.length == l1.length) = false := by first | simpa using c3 | (simp at c3 ⊢; omega)
 obtain rfl := Option.some.inj H
 go_enter Try.func88, Try.ntmps88
 go_wp2
 repeat (go_quiet (fail); try go_wp2)
 go_ret
 exact ⟨by first | rfl | (simp; done) | (simp [*]; done), by repeat (first | exact bW.refl _ | apply bW.step)⟩
def tidepolelaw25_same_int64.l0 : Nat → List Int → List Int → Int → Int → Option (Bool)
 | 0, _, _, _, _ => none
 | k + 1, x0, x1, x12, uy => if uy < x12 then (if 0 ≤ uy then (if uy < (x0.length : Int) then (if uy < (x1.length : Int) then (if (rd x0 uy) = (rd x1 uy) then (tidepolelaw25_same_int64.l0 k x0 x1 x12 (wrap64 (uy + 1))) else (some false)) else (none)) else (none)) else (none)) else (some true)
def tidepolelaw25_same_int64.f (k : Nat) (l0 : List Int) (l1 : List Int) : Option (Bool) := if (l0.length : Int) = (l1.length : Int) then (tidepolelaw25_same_int64.l0 k l0 l1 (l0.length : Int) 0) else (some false)
set_option maxHeartbeats 8000000 in
set_option maxRecDepth 100000 in
theorem tidepolelaw25_same_int64.calls (k : Nat) (A0 : Option Addr) (c0 : Nat) (l0 : List Int) (A1 : Option Addr) (c1 : Nat) (l1 : List Int) (r : Bool) (w : World) (hr0 : Kd.C (Kd.int .i64) w A0 l0.length l0) (hc0 : l0.length ≤ c0) (hr1 : Kd.C (Kd.int .i64) w A1 l1.length l1) (hc1 : l1.length ≤ c1) (h : tidepolelaw25_same_int64.f k l0 l1 = some r) :
  Calls Try.prog 89 #[.slice A0 l0.length c0, .slice A1 l1.length c1] w fun e w' => e = .returned (.bool r) ∧ bW w w' := by
 have HR0 := ah hr0
 have tK := ah hc0
 clear hr0 hc0
 have HR1 := ah hr1
 have Fj := ah hc1
 clear hr1 hc1
 have H : (if (l0.length : Int) = (l1.length : Int) then (tidepolelaw25_same_int64.l0 k l0 l1 (l0.length : Int) 0) else (some false)) = some r := h
 clear h
 by_cases c3 : (l0.length : Int) = (l1.length : Int)
 ·rw [if_pos c3] at H
  have c3b0 : ((l0.length : Int) == (l1.length : Int)) = true := beq_iff_eq.mpr c3
  have c3b1 : ((l0.length : Int) != (l1.length : Int)) = false := bne_eq_false_iff_eq.mpr c3
  have c3b2 : (l0.length == l1.length) = true := by first | simpa using c3 | (simp at c3 ⊢; omega)
  clear c3
  have H' := ah H
  clear H
  go_enter Try.func89, Try.ntmps89
  go_wp2
  repeat (go_quiet (fail); try go_wp2)
  go_loopg [13] k (fun kq v13 w' => ∃ (bI : Int), v13 = .int .i64 bI ∧ aj (tidepolelaw25_same_int64.l0 kq l0 l1 (l0.length : Int) bI = some r) ∧ aj (kq ≤ k) ∧ bW w w')
  case atStart => exact ⟨(0), (by first | rfl | (simp; done) | (simp [*]; done)), H', ⟨Nat.le_refl _⟩, by repeat (first | exact bW.refl _ | apply bW.step)⟩
  case round =>
   clear H'
   try clear c1
   try clear p2
   try clear c3
   try clear c3b0
   try clear c3b1
   try clear c3b2
   obtain ⟨bI, rfl, HA, jf, ⟨m1, rfl⟩⟩ := hrel
   cases gk with
   | zero => exact absurd HA.out (by simp [tidepolelaw25_same_int64.l0])
   | succ k1 =>
    have H := HA.out
    clear HA
    simp only [tidepolelaw25_same_int64.l0] at H
    by_cases c4 : bI < (l0.length : Int)
    ·rw [if_pos c4] at H
     have c4b0 : decide (bI < (l0.length : Int)) = true := aiJ c4
     clear c4
     by_cases c5 : 0 ≤ bI
     ·rw [if_pos c5] at H
      have c5b0 : decide (0 ≤ bI) = true := aiJ c5
      clear c5
      by_cases c6 : bI < (l0.length : Int)
      ·rw [if_pos c6] at H
       have c6b0 : decide (bI < (l0.length : Int)) = true := aiJ c6
       clear c6
       by_cases c7 : bI < (l1.length : Int)
       ·rw [if_pos c7] at H
        have c7b0 : decide (bI < (l1.length : Int)) = true := aiJ c7
        clear c7
        by_cases c8 : (rd l0 bI) = (rd l1 bI)
        ·rw [if_pos c8] at H
         have c8b0 : ((rd l0 bI) == (rd l1 bI)) = true := beq_iff_eq.mpr c8
         have c8b1 : ((rd l0 bI) != (rd l1 bI)) = false := bne_eq_false_iff_eq.mpr c8
         clear c8
         have H' := ah H
         clear H
         have eX : 0 ≤ (bI : Int) := aiI (by assumption)
         have eY : bI < (l0.length : Int) := aiI (by assumption)
         obtain ⟨jU, jK, bP⟩ := Kd.fA HR0.out bI eX eY
         cases jK
         replace eX := eq_true eX
         replace eY := eq_true eY
         have lu : 0 ≤ (bI : Int) := aiI (by assumption)
         have lC : bI < (l1.length : Int) := aiI (by assumption)
         obtain ⟨qW, uo, kQ⟩ := Kd.fA HR1.out bI lu lC
         cases uo
         replace lu := eq_true lu
         replace lC := eq_true lC
         go_wp2
         repeat (go_quiet (fail); try go_wp2)
         go_roundg k1
         case measure => have := jf.out; omega
         case rel => exact ⟨(wrap64 (bI + 1)), (by first | rfl | (simp; done) | (simp [*]; done)), H', ⟨by have := jf.out; omega⟩, by repeat (first | exact bW.refl _ | apply bW.step)⟩
        rw [if_neg c8] at H
        have c8b0 : ((rd l0 bI) == (rd l1 bI)) = false := beq_eq_false_iff_ne.mpr c8
        have c8b1 : ((rd l0 bI) != (rd l1 bI)) = true := bne_iff_ne.mpr c8
        obtain rfl := Option.some.inj H
        have eX : 0 ≤ (bI : Int) := aiI (by assumption)
        have eY : bI < (l0.length : Int) := aiI (by assumption)
        obtain ⟨jU, jK, bP⟩ := Kd.fA HR0.out bI eX eY
        cases jK
        replace eX := eq_true eX
        replace eY := eq_true eY
        have lu : 0 ≤ (bI : Int) := aiI (by assumption)
        have lC : bI < (l1.length : Int) := aiI (by assumption)
        obtain ⟨qW, uo, kQ⟩ := Kd.fA HR1.out bI lu lC
        cases uo
        replace lu := eq_true lu
        replace lC := eq_true lC
        go_wp2
        repeat (go_quiet (fail); try go_wp2)
        go_ret
        exact ⟨by first | rfl | (simp; done) | (simp [*]; done), by repeat (first | exact bW.refl _ | apply bW.step)⟩
       rw [if_neg c7] at H
       exact absurd H (by simp)
      rw [if_neg c6] at H
      exact absurd H (by simp)
     rw [if_neg c5] at H
     exact absurd H (by simp)
    rw [if_neg c4] at H
    have c4b0 : decide (bI < (l0.length : Int)) = false := aiK c4
    clear c4
    obtain rfl := Option.some.inj H
    go_wp2
    repeat (go_quiet (fail); try go_wp2)
    go_ret
    exact ⟨by first | rfl | (simp; done) | (simp [*]; done), by repeat (first | exact bW.refl _ | apply bW.step)⟩
 rw [if_neg c3] at H
 have c3b0 : ((l0.length : Int) == (l1.length : Int)) = false := beq_eq_false_iff_ne.mpr c3
 have c3b1 : ((l0.length : Int) != (l1.length : Int)) = true := bne_iff_ne.mpr c3
 have c3b2 : (l0.length == l1.length) = false := by first | simpa using c3 | (simp at c3 ⊢; omega)
 obtain rfl := Option.some.inj H
 go_enter Try.func89, Try.ntmps89
 go_wp2
 repeat (go_quiet (fail); try go_wp2)
 go_ret
 exact ⟨by first | rfl | (simp; done) | (simp [*]; done), by repeat (first | exact bW.refl _ | apply bW.step)⟩
end Go.Proofs.Ytooiccpmngmapaa.P
namespace Go.Proofs.Ytooiccpmngmapaa.P
open Go.RowKit Go.Shelf Go.Proofs.YtooiccpmngmapaaW.PrintWords Go.Proofs.YtooiccpmngmapaaW.PrintLast Go.Proofs.YtooiccpmngmapaaW.PrintMore
theorem AP (l : List Sp) (hm : l.length < 8796093022208) (k : Nat) (hk : l.length < k) : tidepolelaw25_spans.f k l = some (l.map toR) := by
  unfold tidepolelaw25_spans.f
  have : ∀ (d k i : Nat), l.length - i = d → d < k → i ≤ l.length → tidepolelaw25_spans.l0 k ((l.take i).map toR) l (l.length : Int) (i : Int) = some (l.map toR) := by
    intro d
    induction d with
    | zero =>
      intro k i hd hk hi
      obtain ⟨k, rfl⟩ : ∃ m, k = m + 1 := ⟨k - 1, by omega⟩
      rw [tidepolelaw25_spans.l0, if_neg (by omega), List.take_of_length_le (by omega)]
    | succ d ih =>
      intro k i hd hk hi
      obtain ⟨k, rfl⟩ : ∃ m, k = m + 1 := ⟨k - 1, by omega⟩
      have hlt : i < l.length := by omega
      have hl1 : ((l.take i).map toR).length = i := by simp; omega
      rw [tidepolelaw25_spans.l0, if_pos (by omega), if_pos (by omega), if_pos (by omega), hl1, BH hlt, if_pos (by omega), wrap_succ (by omega), ← ih k (i + 1) (by omega) (by omega) (by omega), take_at hlt]
      simp only [List.map_append, List.map_cons, List.map_nil]
      rfl
  exact this l.length k 0 (by omega) hk (by omega)
theorem IV (l : List Sp) (hm : l.length < 8796093022208) (w : World) (v : Value) (hv : SI kSp w v l) : Calls Try.prog 87 #[v] w fun e w' =>
  ∃ v0, e = .returned v0 ∧ SI kRsp w' v0 (l.map toR) ∧ Below w.heap.size w w' := by
 obtain ⟨A, c, rfl, hc, hr⟩ := hv
 refine (tidepolelaw25_spans.calls (l.length + 1) A c l _ w hr hc (AP l hm _ (by omega))).mono ?_
 rintro e w1 ⟨v0, rfl, h0, hb⟩
 exact ⟨v0, rfl, .qR h0, hb⟩
theorem Qa (l : List Sp) (hw : lK l) : ∃ b : Bool, (b = true → l.length ≤ 400) ∧ ∀ (w : World) (v : Value), SI kSp w v l → Calls Try.prog 72 #[v] w fun e w' => e = .returned (.bool b) ∧ Below w.heap.size w w' := by
  have hl : ∀ (d k i : Nat) (n : Int), 401 - i = d → d < k → i ≤ l.length → (i : Int) ≤ n → n ≤ 400 → ∃ b, tidepolelaw25_few.l0 k n l (l.length : Int) (i : Int) = some b ∧ (b = true → l.length ≤ 400) := by
    intro d
    induction d with
    | zero => intro k i n hd hk hi h0 h1; omega
    | succ d ih =>
      intro k i n hd hk hi h0 h1
      obtain ⟨k, rfl⟩ : ∃ m, k = m + 1 := ⟨k - 1, by omega⟩
      simp only [tidepolelaw25_few.l0]
      by_cases hlt : i < l.length
      · rw [if_pos (by omega), if_pos (by omega), if_pos (by omega), BH hlt, wrap_succ (by omega)]
        generalize l[i] = s
        have hrec : ∀ m : Int, n + 1 ≤ m → ∃ b, (if m > 400 then some false else tidepolelaw25_few.l0 k m l (l.length : Int) ((i + 1 : Nat) : Int)) = some b ∧ (b = true → l.length ≤ 400) := by
          intro m hm
          by_cases c : m > 400
          · rw [if_pos c]; exact ⟨false, rfl, fun h => by cases h⟩
          · rw [if_neg c]; exact ih k (i + 1) m (by omega) (by omega) (by omega) (by omega) (by omega)
        by_cases c : s.f1 > 0
        · rw [if_pos c]
          have hmn : 0 ≤ mn s.f1 5000 ∧ mn s.f1 5000 ≤ 5000 := by unfold mn; omega
          have ht := Int.tdiv_eq_ediv_of_nonneg (b := 10) hmn.1
          rw [ht]
          refine hrec _ ?_
          rw [eu (x := mn s.f1 5000 / 10) (by omega) (by omega), eu (x := 1 + mn s.f1 5000 / 10) (by omega) (by omega), eu (x := n + (1 + mn s.f1 5000 / 10)) (by omega) (by omega), eu (by omega) (by omega)]
          omega
        · rw [if_neg c]
          refine hrec _ ?_
          rw [eu (by omega) (by omega)]; omega
      · rw [if_neg (by omega)]; exact ⟨true, rfl, fun _ => by omega⟩
  obtain ⟨b, h1, h2⟩ := hl 401 402 0 0 (by omega) (by omega) (by omega) (by omega) (by omega)
  refine ⟨b, h2, fun w v hv => ?_⟩
  obtain ⟨A, c, rfl, hc, hr⟩ := hv
  exact (tidepolelaw25_few.calls 402 A c l b w hr hc h1).mono fun e w1 h => ⟨h.1, h.2⟩
set_option maxHeartbeats 8000000 in
set_option maxRecDepth 100000 in
theorem QS (h : Hi) (hw5 : lK h.f5) (hw6 : lK h.f6) : ∃ b : Bool, (b = true → h.f5.length ≤ 400 ∧ h.f6.length ≤ 400 ∧ h.f7.length ≤ 200 ∧ h.f8.length ≤ 200) ∧ ∀ (w : World) (v : Value), HI w v h → Calls Try.prog 25 #[v] w fun e w' => e = .returned (.bool b) ∧ Below w.heap.size w w' := by
  obtain ⟨b1, hb1, c1⟩ := Qa h.f5 hw5
  obtain ⟨b2, hb2, c2⟩ := Qa h.f6 hw6
  have C1 := ah c1
  have C2 := ah c2
  have hu := Try.underlying29
  clear c1 c2
  cases b1 with
  | false =>
    refine ⟨false, (fun h => nomatch h), fun w v hv => ?_⟩
    obtain ⟨A5, c5, A6, c6, A7, c7, A8, c8, e, h5, h6, h7, h8⟩ := hv.open_
    subst e
    have B := ah (ak (Below.refl w.heap.size w) (.cells #[.int .i64 h.f0, .int .u64 h.f1, .int .u64 h.f2, .int .u64 h.f3, .int .u64 h.f4, .slice A5 h.f5.length c5, .slice A6 h.f6.length c6, .slice A7 h.f7.length c7, .slice A8 h.f8.length c8] 29))
    have X := ah (qU.new w #[.int .i64 h.f0, .int .u64 h.f1, .int .u64 h.f2, .int .u64 h.f3, .int .u64 h.f4, .slice A5 h.f5.length c5, .slice A6 h.f6.length c6, .slice A7 h.f7.length c7, .slice A8 h.f8.length c8] 29)
    have hx := fun i => X.out.cell i
    have H5 := ah (h5.below B.out)
    have H6 := ah (h6.below B.out)
    clear hv h5 h6 h7 h8
    go_enter Try.func25, Try.ntmps25
    go_wp2_with (first | (go_at_call 72; (with_reducible refine (C1.out _ _ H5.out).mono ?_); rintro e W ⟨rfl, hb⟩; replace B := ah (aH B.out B.out.size hb); replace H5 := ah (H5.out.below hb); replace H6 := ah (H6.out.below hb); replace X := ah (X.out.below hb); replace hx := fun i => X.out.cell i; clear  hb))
    go_ret
    exact ⟨rfl, B.out⟩
  | true =>
    have n1 := hb1 rfl
    cases b2 with
    | false =>
      refine ⟨false, (fun h => nomatch h), fun w v hv => ?_⟩
      obtain ⟨A5, c5, A6, c6, A7, c7, A8, c8, e, h5, h6, h7, h8⟩ := hv.open_
      subst e
      have B := ah (ak (Below.refl w.heap.size w) (.cells #[.int .i64 h.f0, .int .u64 h.f1, .int .u64 h.f2, .int .u64 h.f3, .int .u64 h.f4, .slice A5 h.f5.length c5, .slice A6 h.f6.length c6, .slice A7 h.f7.length c7, .slice A8 h.f8.length c8] 29))
      have X := ah (qU.new w #[.int .i64 h.f0, .int .u64 h.f1, .int .u64 h.f2, .int .u64 h.f3, .int .u64 h.f4, .slice A5 h.f5.length c5, .slice A6 h.f6.length c6, .slice A7 h.f7.length c7, .slice A8 h.f8.length c8] 29)
      have hx := fun i => X.out.cell i
      have H5 := ah (h5.below B.out)
      have H6 := ah (h6.below B.out)
      clear hv h5 h6 h7 h8
      go_enter Try.func25, Try.ntmps25
      go_wp2_with (first | (go_at_call 72; (with_reducible refine (C1.out _ _ H5.out).mono ?_); rintro e W ⟨rfl, hb⟩; replace B := ah (aH B.out B.out.size hb); replace H5 := ah (H5.out.below hb); replace H6 := ah (H6.out.below hb); replace X := ah (X.out.below hb); replace hx := fun i => X.out.cell i; clear  hb) | (go_at_call 72; (with_reducible refine (C2.out _ _ H6.out).mono ?_); rintro e W ⟨rfl, hb⟩; replace B := ah (aH B.out B.out.size hb); replace H5 := ah (H5.out.below hb); replace H6 := ah (H6.out.below hb); replace X := ah (X.out.below hb); replace hx := fun i => X.out.cell i; clear  hb))
      go_ret
      exact ⟨rfl, B.out⟩
    | true =>
      have n2 := hb2 rfl
      by_cases c3 : h.f7.length ≤ 200
      · by_cases c4 : h.f8.length ≤ 200
        · refine ⟨true, fun _ => ⟨n1, n2, c3, c4⟩, fun w v hv => ?_⟩
          have d3 : decide ((h.f7.length : Int) ≤ 200) = true := aiJ (by omega)
          have d4 : decide ((h.f8.length : Int) ≤ 200) = true := aiJ (by omega)
          clear n1 n2 hb1 hb2
          obtain ⟨A5, c5, A6, c6, A7, c7, A8, c8, e, h5, h6, h7, h8⟩ := hv.open_
          subst e
          have B := ah (ak (Below.refl w.heap.size w) (.cells #[.int .i64 h.f0, .int .u64 h.f1, .int .u64 h.f2, .int .u64 h.f3, .int .u64 h.f4, .slice A5 h.f5.length c5, .slice A6 h.f6.length c6, .slice A7 h.f7.length c7, .slice A8 h.f8.length c8] 29))
          have X := ah (qU.new w #[.int .i64 h.f0, .int .u64 h.f1, .int .u64 h.f2, .int .u64 h.f3, .int .u64 h.f4, .slice A5 h.f5.length c5, .slice A6 h.f6.length c6, .slice A7 h.f7.length c7, .slice A8 h.f8.length c8] 29)
          have hx := fun i => X.out.cell i
          have H5 := ah (h5.below B.out)
          have H6 := ah (h6.below B.out)
          clear hv h5 h6 h7 h8
          go_enter Try.func25, Try.ntmps25
          go_wp2_with (first | (go_at_call 72; (with_reducible refine (C1.out _ _ H5.out).mono ?_); rintro e W ⟨rfl, hb⟩; replace B := ah (aH B.out B.out.size hb); replace H5 := ah (H5.out.below hb); replace H6 := ah (H6.out.below hb); replace X := ah (X.out.below hb); replace hx := fun i => X.out.cell i; clear  hb) | (go_at_call 72; (with_reducible refine (C2.out _ _ H6.out).mono ?_); rintro e W ⟨rfl, hb⟩; replace B := ah (aH B.out B.out.size hb); replace H5 := ah (H5.out.below hb); replace H6 := ah (H6.out.below hb); replace X := ah (X.out.below hb); replace hx := fun i => X.out.cell i; clear  hb))
          go_ret
          exact ⟨rfl, B.out⟩
        · refine ⟨false, (fun h => nomatch h), fun w v hv => ?_⟩
          have d3 : decide ((h.f7.length : Int) ≤ 200) = true := aiJ (by omega)
          have d4 : decide ((h.f8.length : Int) ≤ 200) = false := aiK (by omega)
          clear n1 n2 hb1 hb2
          obtain ⟨A5, c5, A6, c6, A7, c7, A8, c8, e, h5, h6, h7, h8⟩ := hv.open_
          subst e
          have B := ah (ak (Below.refl w.heap.size w) (.cells #[.int .i64 h.f0, .int .u64 h.f1, .int .u64 h.f2, .int .u64 h.f3, .int .u64 h.f4, .slice A5 h.f5.length c5, .slice A6 h.f6.length c6, .slice A7 h.f7.length c7, .slice A8 h.f8.length c8] 29))
          have X := ah (qU.new w #[.int .i64 h.f0, .int .u64 h.f1, .int .u64 h.f2, .int .u64 h.f3, .int .u64 h.f4, .slice A5 h.f5.length c5, .slice A6 h.f6.length c6, .slice A7 h.f7.length c7, .slice A8 h.f8.length c8] 29)
          have hx := fun i => X.out.cell i
          have H5 := ah (h5.below B.out)
          have H6 := ah (h6.below B.out)
          clear hv h5 h6 h7 h8
          go_enter Try.func25, Try.ntmps25
          go_wp2_with (first | (go_at_call 72; (with_reducible refine (C1.out _ _ H5.out).mono ?_); rintro e W ⟨rfl, hb⟩; replace B := ah (aH B.out B.out.size hb); replace H5 := ah (H5.out.below hb); replace H6 := ah (H6.out.below hb); replace X := ah (X.out.below hb); replace hx := fun i => X.out.cell i; clear  hb) | (go_at_call 72; (with_reducible refine (C2.out _ _ H6.out).mono ?_); rintro e W ⟨rfl, hb⟩; replace B := ah (aH B.out B.out.size hb); replace H5 := ah (H5.out.below hb); replace H6 := ah (H6.out.below hb); replace X := ah (X.out.below hb); replace hx := fun i => X.out.cell i; clear  hb))
          go_ret
          exact ⟨rfl, B.out⟩
      · refine ⟨false, (fun h => nomatch h), fun w v hv => ?_⟩
        have d3 : decide ((h.f7.length : Int) ≤ 200) = false := aiK (by omega)
        clear n1 n2 hb1 hb2
        obtain ⟨A5, c5, A6, c6, A7, c7, A8, c8, e, h5, h6, h7, h8⟩ := hv.open_
        subst e
        have B := ah (ak (Below.refl w.heap.size w) (.cells #[.int .i64 h.f0, .int .u64 h.f1, .int .u64 h.f2, .int .u64 h.f3, .int .u64 h.f4, .slice A5 h.f5.length c5, .slice A6 h.f6.length c6, .slice A7 h.f7.length c7, .slice A8 h.f8.length c8] 29))
        have X := ah (qU.new w #[.int .i64 h.f0, .int .u64 h.f1, .int .u64 h.f2, .int .u64 h.f3, .int .u64 h.f4, .slice A5 h.f5.length c5, .slice A6 h.f6.length c6, .slice A7 h.f7.length c7, .slice A8 h.f8.length c8] 29)
        have hx := fun i => X.out.cell i
        have H5 := ah (h5.below B.out)
        have H6 := ah (h6.below B.out)
        clear hv h5 h6 h7 h8
        go_enter Try.func25, Try.ntmps25
        go_wp2_with (first | (go_at_call 72; (with_reducible refine (C1.out _ _ H5.out).mono ?_); rintro e W ⟨rfl, hb⟩; replace B := ah (aH B.out B.out.size hb); replace H5 := ah (H5.out.below hb); replace H6 := ah (H6.out.below hb); replace X := ah (X.out.below hb); replace hx := fun i => X.out.cell i; clear  hb) | (go_at_call 72; (with_reducible refine (C2.out _ _ H6.out).mono ?_); rintro e W ⟨rfl, hb⟩; replace B := ah (aH B.out B.out.size hb); replace H5 := ah (H5.out.below hb); replace H6 := ah (H6.out.below hb); replace X := ah (X.out.below hb); replace hx := fun i => X.out.cell i; clear  hb))
        go_ret
        exact ⟨rfl, B.out⟩
theorem Um (h : Hi) (h5 : h.f5.length < 8796093022208) (h6 : h.f6.length < 8796093022208) (w : World) (v : Value) (hv : HI w v h) : Calls Try.prog 29 #[v] w fun e w' =>
  ∃ v', e = .returned v' ∧ HR w' v' h ∧ Below w.heap.size w w' := by
 obtain ⟨A5, c5, A6, c6, A7, c7, A8, c8, rfl, ⟨_, _, e5, NY, NZ⟩, ⟨_, _, e6, N7, N8⟩, ⟨_, _, e7, N9, h72⟩, ⟨_, _, e8, Oa, Ob⟩⟩ := hv.open_
 cases e5; cases e6; cases e7; cases e8
 obtain ⟨k, hk⟩ : ∃ k, k = h.f5.length + h.f6.length + 1 := ⟨_, rfl⟩
 refine (tidepolelaw25_ints.calls k h.f0 h.f1 h.f2 h.f3 h.f4 A5 c5 h.f5 A6 c6 h.f6 _ A7 c7 h.f7 _ A8 c8 h.f8 h.f0 h.f1 h.f2 h.f3 h.f4 (h.f5.map toR) (h.f6.map toR) h.f7 h.f8 w NZ NY N8 N7 (SI.V N9 h72) (SI.V Oa Ob) ?_).mono ?_
 ·unfold tidepolelaw25_ints.f
  rw [AP _ h5 k (by omega), Option.bind_some, AP _ h6 k (by omega), Option.bind_some]
 ·rintro e w1 ⟨v5, v6, v7, v8, rfl, i5, i6, i7, i8, hb⟩
  exact ⟨_, rfl, ⟨v5, v6, v7, v8, rfl, .qR i5, .qR i6, .aap i7, .aap i8⟩, hb⟩
def Zt (h : Hi) : Prop := i64 h.f0 ∧ u64 h.f1 ∧ u64 h.f2 ∧ u64 h.f3 ∧ u64 h.f4 ∧ lK h.f5 ∧ lK h.f6 ∧ FW h.f7 ∧ FW h.f8
instance (h : Hi) : Decidable (Zt h) := by unfold Zt; exact inferInstance
theorem Yn {x : WU} (h : XJ x) : Zt x := ⟨EX h.1, Ju h.2.1, Ju h.2.2.1, Ju h.2.2.2.1, Ju h.2.2.2.2.1, Ls h.2.2.2.2.2.1, Ls h.2.2.2.2.2.2.1, Pm h.2.2.2.2.2.2.2.1, Pm h.2.2.2.2.2.2.2.2⟩
theorem Yo {h : Hi} (x : Zt h) (h7 : h.f7.length ≤ 300) (h8 : h.f8.length ≤ 300) : yQ h := ⟨x.1, x.2.1, x.2.2.1, x.2.2.2.1, x.2.2.2.2.1, x.2.2.2.2.2.1, x.2.2.2.2.2.2.1, x.2.2.2.2.2.2.2.1, x.2.2.2.2.2.2.2.2, by omega, by omega⟩
theorem QT (a x : Hi) (e tt : Int) (hw : yQ a) (ht : i64 tt) (hx : lM a tt = (x, e)) (w : World) (u : Value) (hu : HI w u a) : Calls Try.prog 27 #[u, .int .i64 tt] w fun r w' => ∃ D5x g5x D6x g6x D7x g7x D8x g8x, r = .returned (.tuple #[.agg #[.int .i64 x.f0, .int .u64 x.f1, .int .u64 x.f2, .int .u64 x.f3, .int .u64 x.f4, .slice D5x x.f5.length g5x, .slice D6x x.f6.length g6x, .slice D7x x.f7.length g7x, .slice D8x x.f8.length g8x], .int .i64 e]) ∧ HI w' (.agg #[.int .i64 x.f0, .int .u64 x.f1, .int .u64 x.f2, .int .u64 x.f3, .int .u64 x.f4, .slice D5x x.f5.length g5x, .slice D6x x.f6.length g6x, .slice D7x x.f7.length g7x, .slice D8x x.f8.length g8x]) x ∧ Below w.heap.size w w' := by
 have := CG a hw tt ht w u hu
 rw [hx] at this
 refine this.mono ?_
 rintro r w1 ⟨v0, rfl, h0, hb⟩
 obtain ⟨a5, c5, a6, c6, a7, c7, a8, c8, e, -⟩ := h0.now.open_
 have hi := h0.now
 subst e
 exact ⟨a5, c5, a6, c6, a7, c7, a8, c8, rfl, hi, hb⟩
theorem QU {P : Program} {ops : Array Oper} {rest : List Oper} {o : Oper} {a : Act} {w : World} {Q : Exit → Act → World → Prop} (hg : o.guard = none) (t : TypeId) (parts : Array (Nat × Operand)) (ho : o.op = .build t parts)
  (V : Array (Nat × Value)) (hV : (parts.map fun (i, x) => (i, a.eval x)) = V) (cells : Array Value) (hB : P.built t V.toList = some cells) (h : wpList P ops Q rest (a.put o.dst (.agg cells)) w) : wpList P ops Q (o :: rest) a w :=
 wpList_build hg t parts ho (by rw [hV, hB]; rfl) (by rw [hV, hB]; exact h)
set_option maxRecDepth 100000 in
theorem CJ (w : World) (T : Int) (ONE SMP : Array Value)
  (hB : Try.prog.built 108 [(0, .int .i64 T), (1, .int .i64 0), (2, .agg ONE)] = some SMP) (hs : SMP.size = 20) (hs1 : SMP.all (·.oneCell') = true) (h1 : ONE.size = 9) :
  Calls Try.prog 76 #[.int .i64 T, .agg ONE] w fun e w' => e = .returned (.agg SMP) ∧ Below w.heap.size w w' := by
 have hus := Try.underlying108
 have hu := Try.underlying29
 have X := ah (heap_alloc2_old w (.cells ONE 29) (.cells #[.int .i64 0, .int .i64 0, .int .i64 0, .int .u64 0, .int .u64 0, .int .u64 0, .int .u64 0, .slice none 0 0, .slice none 0 0, .slice none 0 0, .slice none 0 0, .int .i64 0, .int .u64 0, .int .u64 0, .int .u64 0, .int .u64 0, .slice none 0 0, .slice none 0 0, .slice none 0 0, .slice none 0 0] 108))
 have Y := ah (heap_alloc2_new w (.cells ONE 29) (.cells #[.int .i64 0, .int .i64 0, .int .i64 0, .int .u64 0, .int .u64 0, .int .u64 0, .int .u64 0, .slice none 0 0, .slice none 0 0, .slice none 0 0, .slice none 0 0, .int .i64 0, .int .u64 0, .int .u64 0, .int .u64 0, .int .u64 0, .slice none 0 0, .slice none 0 0, .slice none 0 0, .slice none 0 0] 108))
 go_enter Try.func76, Try.ntmps76
 go_wp2_with (first
  | (refine wpList_load_row rfl 29 (.tmp 3) rfl w.heap.size rfl 29 ONE (0, 0) _ X.out hu rfl (by rw [h1]; kernel_rfl) ?_)
  | (refine QU rfl 108 #[(0, .tmp 5), (1, .const (.int .i64 0)), (2, .tmp 6)] rfl #[(0, .int .i64 T), (1, .int .i64 0), (2, .agg ONE)] (by simp [go_sem]) SMP hB ?_)
  | (refine wpList_store_row rfl 108 (.tmp 4) (.tmp 7) rfl (w.heap.size + 1) SMP rfl rfl 108 _ Y.out (by rw [hs]; kernel_rfl) (by rw [hs]; rfl) hs1 ?_))
 refine bodyPost_ret (results_cell_row rfl _ _ (w.heap.size + 1) 108 SMP (0, 0) _ rfl (setRow_heap _ _ _ SMP _ _ Y.out) hus rfl (by rw [hs]; kernel_rfl)) rfl ⟨rfl, below_setRow (ak (ak (Below.refl _ _) _) _) (Nat.le_succ _) SMP⟩
theorem MF {P : Program} {ops : Array Oper} {rest : List Oper} {o : Oper} {a : Act} {w : World} {Q : Exit → Act → World → Prop} (hgd : o.guard = none) (ty : TypeId) (x : Operand) (ho : o.op = .load ty x)
    (g k : Nat) (hx : a.eval x = .pointer (some ⟨g, k, none⟩)) (t : TypeId) (cs sub : Array Value) (fr : Nat × Nat) (d : TypeDesc) (hg : w.heap[g]? = some (.cells cs t fr))
    (hu : P.underlying ty = some d) (hd : (match d with | .struct _ | .array _ _ => true | _ => false) = true) (hi : (P.info? ty).map (·.size) = some sub.size) (hsub : ∀ j v, sub[j]? = some v → cs[k + j]? = some v)
    (h : wpList P ops Q rest (a.put o.dst (.agg sub)) w) : wpList P ops Q (o :: rest) a w := by
  have hl : (loadCells ⟨g, k, none⟩ sub.toList.length).run P w = .ok sub.toList.toArray w :=
    run_loadCells_list (P := P) w ⟨g, k, none⟩ sub.toList (fun j v hv => by
      have hadd : (⟨g, k, none⟩ : Addr).add j = ⟨g, k + j, none⟩ := by unfold Addr.add; split <;> simp_all
      rw [hadd, cell_of_row w g (k + j) cs t fr hg]
      exact hsub j v (by simpa using hv))
  have hrun : (loadVar ty ⟨g, k, none⟩).run P w = .ok (.agg sub) w := by
    cases hq : P.info? ty with
    | none => simp [hq] at hi
    | some i =>
      have hs : i.size = sub.size := by simpa [hq] using hi
      have hagg : (isAgg ty).run P w = .ok true w := by
        unfold isAgg
        rw [Sem.run_bind, run_underlying hu w]
        cases d <;> simp_all
      simp only [Array.length_toList, Array.toArray_toList] at hl
      simp [loadVar, Sem.run_bind, hagg, sizeOf, typeInfo, hq, hs, hl]
  refine wpList_plain hgd fun K hK => ?_
  unfold Oper.wp execOp
  simp only [ho, hx, Instr.loadAt, Instr.sureAddr, Sem.run_bind, Sem.run_pure, Result.andThen_ok, hrun]
  exact hK _ _ h
theorem Ib (w : World) (SMP ONE : Array Value) (c : Int) (h1 : SMP[1]? = some (.int .i64 0)) (hsub : ∀ j v, ONE[j]? = some v → SMP[2 + j]? = some v) (hO : ONE.size = 9)
  (hck : ∀ W, Below w.heap.size w W → Calls Try.prog 31 #[.agg ONE] W fun e w' => e = .returned (.int .i64 c) ∧ Below W.heap.size W w') :
  Calls Try.prog 140 #[.agg SMP] w fun e w' => e = .returned (.int .i64 c) ∧ Below w.heap.size w w' := by
 have hus := Try.underlying108
 have hu := Try.underlying29
 have X := ah (heap_alloc_new w (.cells SMP 108))
 have B := ah (ak (Below.refl w.heap.size w) (.cells SMP 108))
 have HO := ah hO
 have HC := ah hck
 have HB := ah hsub
 have c1 := (ay X.out 1).trans h1
 clear hO hck hsub h1
 go_enter Try.func140, Try.ntmps140
 go_wp2_with (refine MF rfl 29 (.tmp 7) rfl w.heap.size 2 rfl 108 SMP ONE (0, 0) _ X.out hu rfl (by rw [HO.out]; kernel_rfl) HB.out ?_)
 refine (HC.out _ B.out).mono ?_
 rintro e w1 ⟨rfl, hb⟩
 replace B := ah (aH B.out B.out.size hb)
 clear hb
 go_wp2_with fail
 go_ret
 exact ⟨rfl, B.out⟩
theorem Ic (w : World) (SMP ONE : Array Value) (T tt : Int) (Pst : Array Value → World → Prop) (hpst : ∀ S W W', Pst S W → W.heap.size ≤ W'.heap.size → (∀ k, w.heap.size + 2 ≤ k → k < W.heap.size → W'.heap[k]? = W.heap[k]?) → Pst S W') (h0 : SMP[0]? = some (.int .i64 T)) (h1 : SMP[1]? = some (.int .i64 0)) (hsub : ∀ j v, ONE[j]? = some v → SMP[2 + j]? = some v) (hO : ONE.size = 9) (hs : SMP.size = 20)
  (hck : ∀ W, Below w.heap.size w W → Calls Try.prog 140 #[.agg SMP] W fun e w' => e = .returned (.int .i64 0) ∧ Below W.heap.size W w')
  (hints : ∀ W, Below w.heap.size w W → Calls Try.prog 27 #[.agg ONE, .int .i64 tt] W fun e w' => ∃ RES S2 : Array Value, e = .returned (.tuple #[.agg RES, .int .i64 0]) ∧ RES.size = 9 ∧ RES.all (·.oneCell') = true ∧ Try.prog.built 108 [(0, .int .i64 T), (1, .int .i64 0), (2, .agg RES)] = some S2 ∧ S2.size = 20 ∧ S2.all (·.oneCell') = true ∧ Pst S2 w' ∧ Below W.heap.size W w') :
  Calls Try.prog 75 #[.agg SMP, .int .i64 tt] w fun e w' => ∃ S2, e = .returned (.tuple #[.agg S2, .int .i64 0]) ∧ Pst S2 w' ∧ Below w.heap.size w w' := by
 have hus := Try.underlying108
 have hu := Try.underlying29
 have X := ah (heap_alloc2_old w (.cells SMP 108) (.cells #[.int .i64 0, .int .i64 0, .int .i64 0, .int .u64 0, .int .u64 0, .int .u64 0, .int .u64 0, .slice none 0 0, .slice none 0 0, .slice none 0 0, .slice none 0 0, .int .i64 0, .int .u64 0, .int .u64 0, .int .u64 0, .int .u64 0, .slice none 0 0, .slice none 0 0, .slice none 0 0, .slice none 0 0] 108))
 have Y := ah (heap_alloc2_new w (.cells SMP 108) (.cells #[.int .i64 0, .int .i64 0, .int .i64 0, .int .u64 0, .int .u64 0, .int .u64 0, .int .u64 0, .slice none 0 0, .slice none 0 0, .slice none 0 0, .slice none 0 0, .int .i64 0, .int .u64 0, .int .u64 0, .int .u64 0, .int .u64 0, .slice none 0 0, .slice none 0 0, .slice none 0 0, .slice none 0 0] 108))
 have B := ah (ak (ak (Below.refl w.heap.size w) (.cells SMP 108)) (.cells #[.int .i64 0, .int .i64 0, .int .i64 0, .int .u64 0, .int .u64 0, .int .u64 0, .int .u64 0, .slice none 0 0, .slice none 0 0, .slice none 0 0, .slice none 0 0, .int .i64 0, .int .u64 0, .int .u64 0, .int .u64 0, .int .u64 0, .slice none 0 0, .slice none 0 0, .slice none 0 0, .slice none 0 0] 108))
 have HS := ah hs
 have HO := ah hO
 have HC := ah hck
 have HI_ := ah hints
 have HP := ah hpst
 have HB := ah hsub
 clear hs hO hck hints hpst hsub
 go_enter Try.func75, Try.ntmps75
 go_wp2_with (refine wpList_load_row rfl 108 (.tmp 2) rfl w.heap.size rfl 108 SMP (0, 0) _ X.out hus rfl (by rw [HS.out]; kernel_rfl) ?_)
 refine (HC.out _ B.out).mono ?_
 rintro e w1 ⟨rfl, hb⟩
 replace X := ah (bG X.out hb)
 replace Y := ah (bG Y.out hb)
 replace B := ah (aH B.out B.out.size hb)
 clear hb
 have c0 := (ay X.out 0).trans h0
 have c1 := (ay X.out 1).trans h1
 clear h0 h1
 go_wp2_with (refine MF rfl 29 (.tmp 21) rfl w.heap.size 2 rfl 108 SMP ONE (0, 0) _ X.out hu rfl (by rw [HO.out]; kernel_rfl) HB.out ?_)
 refine (HI_.out _ B.out).mono ?_
 rintro e w2 ⟨RES, S2, rfl, r1, r2, r3, r4, r5, r6, hb⟩
 have hb2 := aH hb hb.size (ak (Below.refl w2.heap.size w2) (.cells RES 29))
 replace B := ah (aH B.out B.out.size hb2)
 replace X := ah (bG X.out hb2)
 replace Y := ah (bG Y.out hb2)
 have c0' : (w2.alloc (.cells RES 29)).cell? ⟨w.heap.size, 0, none⟩ = some (.int .i64 T) := (hb2.cell (p := ⟨w.heap.size, 0, none⟩) (block_lt_of_cell c0)).trans c0
 have N1 := ah (heap_alloc_new w2 (.cells #[.int .i64 0, .int .u64 0, .int .u64 0, .int .u64 0, .int .u64 0, .slice none 0 0, .slice none 0 0, .slice none 0 0, .slice none 0 0] 29))
 have N2 := ah (heap_alloc_new w2 (.cells RES 29))
 have hp2 := ah (HP.out _ _ _ r6 (ak (Below.refl w2.heap.size w2) (.cells RES 29)).size (fun k _ hk => (ak (Below.refl w2.heap.size w2) (.cells RES 29)).block k hk))
 have R1 := ah r1
 have R2 := ah r2
 have R3 := ah r3
 have R4 := ah r4
 have R5 := ah r5
 clear c0 c1 hb hb2 r1 r2 r3 r4 r5 r6
 go_wp2_with (first
  | (refine wpList_store_row rfl 29 (.tmp 7) (.tmp 25) rfl w2.heap.size RES rfl rfl 29 _ N1.out (by rw [R1.out]; kernel_rfl) (by rw [R1.out]; rfl) R2.out ?_; rw [World.setRow_alloc_new])
  | (refine wpList_load_row rfl 29 (.tmp 7) rfl w2.heap.size rfl 29 RES (0, 0) _ N2.out hu rfl (by rw [R1.out]; kernel_rfl) ?_))
 refine (CJ _ T RES S2 R3.out R4.out R5.out R1.out).mono ?_
 rintro e w3 ⟨rfl, hb⟩
 replace B := ah (aH B.out B.out.size hb)
 replace Y := ah (bG Y.out hb)
 have hp3 := ah (HP.out _ _ _ hp2.out hb.size (fun k _ hk => hb.block k hk))
 clear hb c0'
 go_wp2_with (refine wpList_store_row rfl 108 (.tmp 4) (.tmp 34) rfl (w.heap.size + 1) S2 rfl rfl 108 _ Y.out (by rw [R4.out]; kernel_rfl) (by rw [R4.out]; rfl) R5.out ?_)
 have hp4 := HP.out _ (w3) (w3.setRow (w.heap.size + 1) S2) hp3.out (by simp) (fun k h _ => setRow_other _ _ _ _ (by omega))
 refine bodyPost_ret (v := .tuple #[.agg S2, .int .i64 0]) ?_ rfl ⟨S2, rfl, hp4, below_setRow B.out (Nat.le_succ _) S2⟩
 rw [results_cell_tmp (p := 4) (u := 5) (ty := 108) rfl]
 show (((asAddr (.pointer (some ⟨w.heap.size + 1, 0, none⟩))).run Try.prog _).andThen _) = _
 have h1 := run_loadVar_row (P := Try.prog) (w3.setRow (w.heap.size + 1) S2) (w.heap.size + 1) 108 108 S2 (0, 0) _ (setRow_heap _ _ _ S2 _ _ Y.out) hus rfl (by rw [R4.out]; kernel_rfl)
 simp only [asAddr, Sem.run_pure, Result.andThen_ok, h1]
 rfl
end Go.Proofs.Ytooiccpmngmapaa.P