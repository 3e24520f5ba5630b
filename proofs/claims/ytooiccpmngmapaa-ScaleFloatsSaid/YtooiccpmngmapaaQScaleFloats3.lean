/- ScaleFloats: the part that this text bears of the proof that the statement answers true for every input. No condition. -/
import Derived.Test.YtooiccpmngmapaaQScaleFloats2
import Derived.Laws.Tables
import Derived.Deep.WholeRow
import Derived.Laws.CopyOwn
import Derived.Laws.ResultCell
set_option linter.unusedVariables false
set_option linter.unusedSimpArgs false
namespace Go.Proofs.Ytooiccpmngmapaa.P
open Go.RowKit Go.Proofs.YtooiccpmngmapaaW.PrintWords Go.Proofs.YtooiccpmngmapaaW.PrintLast Go.Proofs.YtooiccpmngmapaaW.PrintMore
attribute [local go_sem] iV iW jH jI gW gX iY iZ
attribute [local go_sem high] WW
def tidepolelaw25_few.l0 : Nat → Int → List (dQ) → Int → Int → Option (Bool)
 | 0, _, _, _, _ => none
 | k + 1, x3, x6, x7, x8 => if x8 < x7 then (if 0 ≤ x8 then (if x8 < (x6.length : Int) then (if ((aY x6 x8).f1) > 0 then (if (wrap64 ((wrap64 (x3 + (wrap64 (1 + (wrap64 (Int.tdiv (mn ((aY x6 x8).f1) 5000) 10)))))) + 1)) > 400 then (some false) else (tidepolelaw25_few.l0 k (wrap64 ((wrap64 (x3 + (wrap64 (1 + (wrap64 (Int.tdiv (mn ((aY x6 x8).f1) 5000) 10)))))) + 1)) x6 x7 (wrap64 (x8 + 1)))) else (if (wrap64 (x3 + 1)) > 400 then (some false) else (tidepolelaw25_few.l0 k (wrap64 (x3 + 1)) x6 x7 (wrap64 (x8 + 1))))) else (none)) else (none)) else (some true)
def tidepolelaw25_few.f (k : Nat) (l0 : List (dQ)) : Option (Bool) := tidepolelaw25_few.l0 k 0 l0 (l0.length : Int) 0
set_option maxHeartbeats 8000000 in
set_option maxRecDepth 100000 in
theorem tidepolelaw25_few.calls (k : Nat) (A0 : Option Addr) (c0 : Nat) (l0 : List (dQ)) (r : Bool) (w : World) (hr0 : Kd.C jq w A0 l0.length l0) (hc0 : l0.length ≤ c0) (h : tidepolelaw25_few.f k l0 = some r) :
  Calls Try.prog 72 #[.slice A0 l0.length c0] w fun e w' => e = .returned (.bool r) ∧ Below w.heap.size w w' := by
 have JW := Try.underlying113
 have HR0 := ah hr0
 have uH := ah hc0
 clear hr0 hc0
 have HB := ah (Below.refl w.heap.size w)
 have H : (tidepolelaw25_few.l0 k 0 l0 (l0.length : Int) 0) = some r := h
 clear h
 have H' := ah H
 clear H
 go_enter Try.func72, Try.ntmps72
 go_wp2
 go_loopg [3, 8] k (fun kq v3 v8 w' => ∃ (fG : Int) (bK : Int), v3 = .int .i64 fG ∧ v8 = .int .i64 bK ∧ aj (tidepolelaw25_few.l0 kq fG l0 (l0.length : Int) bK = some r) ∧ aj (kq ≤ k) ∧ aj (Below w.heap.size w w'))
 case atStart => exact ⟨(0), (0), (by first | rfl | (simp; done) | (simp [*]; done)), (by first | rfl | (simp; done) | (simp [*]; done)), H', ⟨Nat.le_refl _⟩, ⟨by repeat (first | (with_reducible first | exact HB.out | apply ak | apply ay | apply aH) | exact HB.out)⟩⟩
 case round =>
  clear H'
  obtain ⟨fG, bK, rfl, rfl, HA, jy, HB⟩ := hrel
  cases gk with
  | zero => exact absurd HA.out (by simp [tidepolelaw25_few.l0])
  | succ k1 =>
   have H := HA.out
   clear HA
   simp only [tidepolelaw25_few.l0] at H
   by_cases c2 : bK < (l0.length : Int)
   ·rw [if_pos c2] at H
    have c2b0 : decide (bK < (l0.length : Int)) = true := ahG c2
    clear c2
    by_cases c3 : 0 ≤ bK
    ·rw [if_pos c3] at H
     have c3b0 : decide (0 ≤ bK) = true := ahG c3
     clear c3
     by_cases c4 : bK < (l0.length : Int)
     ·rw [if_pos c4] at H
      have c4b0 : decide (bK < (l0.length : Int)) = true := ahG c4
      clear c4
      by_cases c5 : ((aY l0 bK).f1) > 0
      ·rw [if_pos c5] at H
       have c5b0 : decide (0 < ((aY l0 bK).f1)) = true := ahG c5
       clear c5
       obtain ⟨uT, Jj⟩ : ∃ j_ : Int, (mn ((aY l0 bK).f1) 5000) = j_ := ⟨_, rfl⟩
       replace H : (if (wrap64 ((wrap64 (fG + (wrap64 (1 + (wrap64 (Int.tdiv (uT) 10)))))) + 1)) > 400 then (some false) else (tidepolelaw25_few.l0 k1 (wrap64 ((wrap64 (fG + (wrap64 (1 + (wrap64 (Int.tdiv (uT) 10)))))) + 1)) l0 (l0.length : Int) (wrap64 (bK + 1)))) = some r := by first | (rw [Jj] at H; exact H) | (simp only [Jj] at H ⊢; exact H)
       have aey : (if 5000 < ((aY l0 bK).f1) then 5000 else ((aY l0 bK).f1)) = uT := Jj
       by_cases c7 : (wrap64 ((wrap64 (fG + (wrap64 (1 + (wrap64 (Int.tdiv (uT) 10)))))) + 1)) > 400
       ·rw [if_pos c7] at H
        have c7b0 : decide (400 < (wrap64 ((wrap64 (fG + (wrap64 (1 + (wrap64 (Int.tdiv (uT) 10)))))) + 1))) = true := ahG c7
        clear c7
        obtain rfl := Option.some.inj H
        have fC : 0 ≤ (bK : Int) := ahF (by assumption)
        have fD : bK < (l0.length : Int) := ahF (by assumption)
        obtain ⟨kE, jM, bW, dS⟩ := pX HR0.out bK fC fD
        cases jM
        replace bW := (HB.out.cell (World.block_lt_of_cell? w _ bW)).trans bW
        replace dS := (HB.out.cell (World.block_lt_of_cell? w _ dS)).trans dS
        replace fC := eq_true fC
        replace fD := eq_true fD
        go_wp2_with (first | ((with_reducible refine fK (N := 5) rfl ?_); refine fA ?hg (N := 5) ?hd (cs := #[.int .i64 0, .int .i64 0]) (t := 113) ?hr ?_; (case hd => rfl); (case hg => rfl); (case hr => first | (go_simp; done) | (go_simp; rfl)); intro aI hg w8 hbox hb; have aJ := ah (hbox); have oN := ah ((by rw [hg]; exact (aQ (bg HB.out)) : w.heap.size ≤ aI)); have bU := ah ((by rw [hg]; exact (aQ (bg HB.out)) : w.heap.size ≤ aI)); replace HB := ah (aZ (bg HB.out) hb); clear hb hbox hg; have rJ := au aJ.out; have rM := aC aJ.out))
        go_ret
        exact ⟨by first | rfl | (simp [aU, aV] <;> rfl) | (simp only [← Jj]; first | rfl | (simp [aU, aV] <;> rfl)) | (simp [*, aU, aV] <;> rfl), by repeat (first | (with_reducible first | exact HB.out | apply ak | apply ay | apply aH | refine aA ?_ bU.out) | exact HB.out)⟩
       rw [if_neg c7] at H
       have c7b0 : decide (400 < (wrap64 ((wrap64 (fG + (wrap64 (1 + (wrap64 (Int.tdiv (uT) 10)))))) + 1))) = false := ahH c7
       clear c7
       have H' := ah H
       clear H
       have fC : 0 ≤ (bK : Int) := ahF (by assumption)
       have fD : bK < (l0.length : Int) := ahF (by assumption)
       obtain ⟨kE, jM, bW, dS⟩ := pX HR0.out bK fC fD
       cases jM
       replace bW := (HB.out.cell (World.block_lt_of_cell? w _ bW)).trans bW
       replace dS := (HB.out.cell (World.block_lt_of_cell? w _ dS)).trans dS
       replace fC := eq_true fC
       replace fD := eq_true fD
       go_wp2_with (first | ((with_reducible refine fK (N := 5) rfl ?_); refine fA ?hg (N := 5) ?hd (cs := #[.int .i64 0, .int .i64 0]) (t := 113) ?hr ?_; (case hd => rfl); (case hg => rfl); (case hr => first | (go_simp; done) | (go_simp; rfl)); intro aI hg w10 hbox hb; have aJ := ah (hbox); have oN := ah ((by rw [hg]; exact (aQ (bg HB.out)) : w.heap.size ≤ aI)); have bU := ah ((by rw [hg]; exact (aQ (bg HB.out)) : w.heap.size ≤ aI)); replace HB := ah (aZ (bg HB.out) hb); clear hb hbox hg; have tq := au aJ.out; have tu := aC aJ.out))
       go_roundg k1
       case measure => have := jy.out; omega
       case rel => exact ⟨(wrap64 ((wrap64 (fG + (wrap64 (1 + (wrap64 (Int.tdiv (uT) 10)))))) + 1)), (wrap64 (bK + 1)), (by first | rfl | (simp; done) | (simp only [← Jj] <;> (first | rfl | simp)) | (simp [*]; done)), (by first | rfl | (simp; done) | (simp [*]; done)), H', ⟨by have := jy.out; omega⟩, ⟨by repeat (first | (with_reducible first | exact HB.out | apply ak | apply ay | apply aH | refine aA ?_ bU.out) | exact HB.out)⟩⟩
      rw [if_neg c5] at H
      have c5b0 : decide (0 < ((aY l0 bK).f1)) = false := ahH c5
      clear c5
      by_cases c12 : (wrap64 (fG + 1)) > 400
      ·rw [if_pos c12] at H
       have c12b0 : decide (400 < (wrap64 (fG + 1))) = true := ahG c12
       clear c12
       obtain rfl := Option.some.inj H
       have fC : 0 ≤ (bK : Int) := ahF (by assumption)
       have fD : bK < (l0.length : Int) := ahF (by assumption)
       obtain ⟨kE, jM, bW, dS⟩ := pX HR0.out bK fC fD
       cases jM
       replace bW := (HB.out.cell (World.block_lt_of_cell? w _ bW)).trans bW
       replace dS := (HB.out.cell (World.block_lt_of_cell? w _ dS)).trans dS
       replace fC := eq_true fC
       replace fD := eq_true fD
       go_wp2_with (first | ((with_reducible refine fK (N := 5) rfl ?_); refine fA ?hg (N := 5) ?hd (cs := #[.int .i64 0, .int .i64 0]) (t := 113) ?hr ?_; (case hd => rfl); (case hg => rfl); (case hr => first | (go_simp; done) | (go_simp; rfl)); intro aI hg Rt hbox hb; have aJ := ah (hbox); have oN := ah ((by rw [hg]; exact (aQ (bg HB.out)) : w.heap.size ≤ aI)); have bU := ah ((by rw [hg]; exact (aQ (bg HB.out)) : w.heap.size ≤ aI)); replace HB := ah (aZ (bg HB.out) hb); clear hb hbox hg; have Ai := au aJ.out; have Aj := aC aJ.out))
       go_ret
       exact ⟨by first | rfl | (simp [aU, aV] <;> rfl) | (simp [*, aU, aV] <;> rfl), by repeat (first | (with_reducible first | exact HB.out | apply ak | apply ay | apply aH | refine aA ?_ bU.out) | exact HB.out)⟩
      rw [if_neg c12] at H
      have c12b0 : decide (400 < (wrap64 (fG + 1))) = false := ahH c12
      clear c12
      have H' := ah H
      clear H
      have fC : 0 ≤ (bK : Int) := ahF (by assumption)
      have fD : bK < (l0.length : Int) := ahF (by assumption)
      obtain ⟨kE, jM, bW, dS⟩ := pX HR0.out bK fC fD
      cases jM
      replace bW := (HB.out.cell (World.block_lt_of_cell? w _ bW)).trans bW
      replace dS := (HB.out.cell (World.block_lt_of_cell? w _ dS)).trans dS
      replace fC := eq_true fC
      replace fD := eq_true fD
      go_wp2_with (first | ((with_reducible refine fK (N := 5) rfl ?_); refine fA ?hg (N := 5) ?hd (cs := #[.int .i64 0, .int .i64 0]) (t := 113) ?hr ?_; (case hd => rfl); (case hg => rfl); (case hr => first | (go_simp; done) | (go_simp; rfl)); intro aI hg DF hbox hb; have aJ := ah (hbox); have oN := ah ((by rw [hg]; exact (aQ (bg HB.out)) : w.heap.size ≤ aI)); have bU := ah ((by rw [hg]; exact (aQ (bg HB.out)) : w.heap.size ≤ aI)); replace HB := ah (aZ (bg HB.out) hb); clear hb hbox hg; have Ad := au aJ.out; have Ae := aC aJ.out))
      go_roundg k1
      case measure => have := jy.out; omega
      case rel => exact ⟨(wrap64 (fG + 1)), (wrap64 (bK + 1)), (by first | rfl | (simp; done) | (simp [*]; done)), (by first | rfl | (simp; done) | (simp [*]; done)), H', ⟨by have := jy.out; omega⟩, ⟨by repeat (first | (with_reducible first | exact HB.out | apply ak | apply ay | apply aH | refine aA ?_ bU.out) | exact HB.out)⟩⟩
     rw [if_neg c4] at H
     exact absurd H (by simp)
    rw [if_neg c3] at H
    exact absurd H (by simp)
   rw [if_neg c2] at H
   have c2b0 : decide (bK < (l0.length : Int)) = false := ahH c2
   clear c2
   obtain rfl := Option.some.inj H
   go_wp2
   go_ret
   exact ⟨by first | rfl | (simp [aU, aV] <;> rfl) | (simp [*, aU, aV] <;> rfl), by repeat (first | (with_reducible first | exact HB.out | apply ak | apply ay | apply aH) | exact HB.out)⟩
def tidepolelaw25_one.f  : Option (Int × Int × Int × Int × Int × (List (dQ)) × (List (dQ)) × List Int × List Int) := some (1, 0, 0, 5, 0, (([(⟨3, 3⟩ : dQ)] : List (dQ))), ([] : List (dQ)), (([1, (-1), 4] : List Int)), ([] : List Int))
set_option maxHeartbeats 8000000 in
set_option maxRecDepth 100000 in
theorem tidepolelaw25_one.calls  (r1 : Int) (r2 : Int) (r3 : Int) (r4 : Int) (r5 : Int) (r6 : List (dQ)) (r7 : List (dQ)) (r8 : List Int) (r9 : List Int) (w : World) (h : tidepolelaw25_one.f  = some (r1, r2, r3, r4, r5, r6, r7, r8, r9)) :
  Calls Try.prog 73 #[] w fun e w' => ∃ KY La OM OO : Value, e = .returned (.agg #[.int .i64 r1, .int .u64 r2, .int .u64 r3, .int .u64 r4, .int .u64 r5, KY, La, OM, OO]) ∧ Kd.R jq 113 w' w.heap.size (fun k_ => some k_ ≠ (La : Value).ownBlock) KY r6 ∧ Kd.R jq 113 w' w.heap.size (fun k_ => some k_ ≠ (KY : Value).ownBlock) La r7 ∧ Kd.R (Kd.int .i64) 2 w' w.heap.size (fun k_ => some k_ ≠ (OO : Value).ownBlock) OM r8 ∧ Kd.R (Kd.int .i64) 2 w' w.heap.size (fun k_ => some k_ ≠ (OM : Value).ownBlock) OO r9 ∧ Below w.heap.size w w' := by
 have UK := Try.underlying29
 have JW := Try.underlying113
 have HB := ah (Below.refl w.heap.size w)
 have H : (some (1, 0, 0, 5, 0, (([(⟨3, 3⟩ : dQ)] : List (dQ))), ([] : List (dQ)), (([1, (-1), 4] : List Int)), ([] : List Int))) = some (r1, r2, r3, r4, r5, r6, r7, r8, r9) := h
 clear h
 obtain ⟨y102, hy102⟩ : ∃ y_ : List (dQ), y_ = (([(⟨3, 3⟩ : dQ)] : List (dQ))) := ⟨_, rfl⟩
 replace H : (some (1, 0, 0, 5, 0, y102, ([] : List (dQ)), (([1, (-1), 4] : List Int)), ([] : List Int))) = some (r1, r2, r3, r4, r5, r6, r7, r8, r9) := by first | (rw [hy102]; with_reducible exact H) | (have jA := (Option.bind_some _ _).symm.trans H; rw [hy102]; with_reducible exact jA) | (have jA := (Option.bind_some _ _).symm.trans H; with_reducible exact jA) | with_reducible exact H | (rw [hy102]; exact H) | exact H
 have OQ := ah hy102
 clear hy102
 obtain ⟨Jk, xZ⟩ : ∃ y_ : List Int, y_ = (([1, (-1), 4] : List Int)) := ⟨_, rfl⟩
 replace H : (some (1, 0, 0, 5, 0, y102, ([] : List (dQ)), Jk, ([] : List Int))) = some (r1, r2, r3, r4, r5, r6, r7, r8, r9) := by first | (rw [xZ]; with_reducible exact H) | (have jA := (Option.bind_some _ _).symm.trans H; rw [xZ]; with_reducible exact jA) | (have jA := (Option.bind_some _ _).symm.trans H; with_reducible exact jA) | with_reducible exact H | (rw [xZ]; exact H) | exact H
 have Ht := ah xZ
 clear xZ
 simp only [Option.some.injEq, Prod.mk.injEq] at H
 obtain ⟨rfl, rfl, rfl, rfl, rfl, rfl, rfl, rfl, rfl⟩ := H
 go_enter Try.func73, Try.ntmps73
 go_wp2_with (first | ((with_reducible refine fK (N := 0) rfl ?_); refine fA ?hg (N := 0) ?hd (cs := #[.int .i64 0, .int .u64 0, .int .u64 0, .int .u64 0, .int .u64 0, .slice none 0 0, .slice none 0 0, .slice none 0 0, .slice none 0 0]) (t := 29) ?hr ?_; (case hd => rfl); (case hg => rfl); (case hr => first | (go_simp; done) | (go_simp; rfl)); intro bV hg w1 hbox hb; have aN := ah (hbox); have xY := ah ((by rw [hg]; exact (aQ (bg HB.out)) : w.heap.size ≤ bV)); have dH := ah ((by rw [hg]; exact (aQ (bg HB.out)) : w.heap.size ≤ bV)); replace HB := ah (aZ (bg HB.out) hb); clear hb hbox hg) | ((with_reducible refine fK (N := 2) rfl ?_); refine Kd.Vj jq _ 113 ?hg (N := 2) ?hd (xs := ([(⟨3, 3⟩ : dQ)] : List (dQ))) (inner := [.int .i64 3, .int .i64 3]) (ok := fun _ => True) (okp := fun _ => True) ?hr ?hp (fun _ hk => hk) trivial (Below.refl _ _) (Nat.le_refl _) (by simp) ?_; (case hd => rfl); (case hg => rfl); (case hr => first | (go_simp; done) | (go_simp; rfl)); (case hp => exact (jl.c2 (show Kd.M jq _ _ _ (⟨3, 3⟩ : dQ) [.int .i64 3, .int .i64 3] from (ug _ _ _ (⟨3, 3⟩ : dQ) )) (jl.none _ _))); intro zD w2 ho3 hb hg_ hnew_; clear hg_ hnew_; (first | rw [← OQ.out] at ho3 | (simp only [Int.reduceToNat] at ho3; rw [← OQ.out] at ho3)); have jf := ah (Kd.dh ho3 (aQ (by repeat (first | (with_reducible first | exact HB.out | refine bJ ?_ | refine aA ?_ dH.out) | exact HB.out)))); replace aN := ah (eH aN.out hb); replace HB := ah (aZ (by repeat (first | (with_reducible first | exact HB.out | refine bJ ?_ | refine aA ?_ dH.out) | exact HB.out)) hb); clear hb ho3) | ((with_reducible refine fK (N := 3) rfl ?_); refine Kd.Vj (Kd.int .i64) _ 2 ?hg (N := 3) ?hd (xs := ([1, (-1), 4] : List Int)) (inner := [.int .i64 1, .int .i64 (-1), .int .i64 4]) (ok := fun _ => True) (okp := fun _ => True) ?hr ?hp (fun _ hk => hk) trivial (Below.refl _ _) (Nat.le_refl _) (by simp) ?_; (case hd => rfl); (case hg => rfl); (case hr => first | (go_simp; done) | (go_simp; rfl)); (case hp => exact (jl.one (show Kd.M (Kd.int .i64) _ _ _ 1 [.int .i64 1] from rfl) (jl.one (show Kd.M (Kd.int .i64) _ _ _ (-1) [.int .i64 (-1)] from rfl) (jl.one (show Kd.M (Kd.int .i64) _ _ _ 4 [.int .i64 4] from rfl) (jl.none _ _))))); intro Jf w4 VI hb hg_ hnew_; clear hg_ hnew_; (first | rw [← Ht.out] at VI | (simp only [Int.reduceToNat] at VI; rw [← Ht.out] at VI)); have kG := ah (Kd.dh VI (aQ (by repeat (first | (with_reducible first | exact HB.out | refine bJ ?_ | refine aA ?_ dH.out) | exact HB.out)))); replace jf := ah (Kd.lu jf.out hb); replace aN := ah (eH aN.out hb); replace HB := ah (aZ (by repeat (first | (with_reducible first | exact HB.out | refine bJ ?_ | refine aA ?_ dH.out) | exact HB.out)) hb); clear hb VI; obtain ⟨Ao6, co6, eo6⟩ := Kd.dw kG.out; subst eo6; obtain ⟨Nl, JH, UA⟩ := Kd.dw jf.out; subst UA; have Ru := au aN.out; have Rw := aC aN.out))
 refine bodyPost_ret (results_cell_row rfl _ _ bV 29 #[.int .i64 1, .int .u64 0, .int .u64 0, .int .u64 5, .int .u64 0, .slice Nl y102.length JH, .slice none 0 0, .slice Ao6 Jk.length co6, .slice none 0 0] (0, 0) _ rfl (by (repeat with_reducible refine bQ ?_); refine bC (cs := #[.int .i64 1, .int .u64 0, .int .u64 0, .int .u64 5, .int .u64 0, .slice Nl y102.length JH, .slice none 0 0, .slice Ao6 Jk.length co6, .slice none 0 0]) ?_ 8 _ rfl; (repeat with_reducible refine bQ ?_); refine bC (cs := #[.int .i64 1, .int .u64 0, .int .u64 0, .int .u64 5, .int .u64 0, .slice Nl y102.length JH, .slice none 0 0, .slice none 0 0, .slice none 0 0]) ?_ 7 _ rfl; (repeat with_reducible refine bQ ?_); refine bC (cs := #[.int .i64 1, .int .u64 0, .int .u64 0, .int .u64 5, .int .u64 0, .slice Nl y102.length JH, .slice none 0 0, .slice none 0 0, .slice none 0 0]) ?_ 6 _ rfl; (repeat with_reducible refine bQ ?_); refine bC (cs := #[.int .i64 1, .int .u64 0, .int .u64 0, .int .u64 5, .int .u64 0, .slice none 0 0, .slice none 0 0, .slice none 0 0, .slice none 0 0]) ?_ 5 _ rfl; (repeat with_reducible refine bQ ?_); refine bC (cs := #[.int .i64 1, .int .u64 0, .int .u64 0, .int .u64 5, .int .u64 0, .slice none 0 0, .slice none 0 0, .slice none 0 0, .slice none 0 0]) ?_ 4 _ rfl; (repeat with_reducible refine bQ ?_); refine bC (cs := #[.int .i64 1, .int .u64 0, .int .u64 0, .int .u64 0, .int .u64 0, .slice none 0 0, .slice none 0 0, .slice none 0 0, .slice none 0 0]) ?_ 3 _ rfl; (repeat with_reducible refine bQ ?_); refine bC (cs := #[.int .i64 1, .int .u64 0, .int .u64 0, .int .u64 0, .int .u64 0, .slice none 0 0, .slice none 0 0, .slice none 0 0, .slice none 0 0]) ?_ 2 _ rfl; (repeat with_reducible refine bQ ?_); refine bC (cs := #[.int .i64 1, .int .u64 0, .int .u64 0, .int .u64 0, .int .u64 0, .slice none 0 0, .slice none 0 0, .slice none 0 0, .slice none 0 0]) ?_ 1 _ rfl; (repeat with_reducible refine bQ ?_); refine bC (cs := #[.int .i64 0, .int .u64 0, .int .u64 0, .int .u64 0, .int .u64 0, .slice none 0 0, .slice none 0 0, .slice none 0 0, .slice none 0 0]) ?_ 0 _ rfl; (repeat with_reducible refine bQ ?_); exact aN.out) Try.underlying29 rfl (by kernel_rfl)) rfl ?_
 exact ⟨_, _, _, _, by first | rfl | (simp [aU, aV] <;> rfl) | (simp [*, aU, aV] <;> rfl), by (repeat with_reducible refine Kd.kQ ?_); exact Kd.bZ (Kd.cu (p := ⟨bV, 8, none⟩) (Kd.cu (p := ⟨bV, 7, none⟩) (Kd.cu (p := ⟨bV, 6, none⟩) (Kd.cu (p := ⟨bV, 5, none⟩) (Kd.cu (p := ⟨bV, 4, none⟩) (Kd.cu (p := ⟨bV, 3, none⟩) (Kd.cu (p := ⟨bV, 2, none⟩) (Kd.cu (p := ⟨bV, 1, none⟩) (Kd.cu (p := ⟨bV, 0, none⟩) (Kd.iH jf.out aN.out (by decide)) (fun _ hk => hk.2) (.int .i64 1)) (fun _ hk => hk.2) (.int .u64 0)) (fun _ hk => hk.2) (.int .u64 0)) (fun _ hk => hk.2) (.int .u64 5)) (fun _ hk => hk.2) (.int .u64 0)) (fun _ hk => hk.2) (.slice Nl y102.length JH)) (fun _ hk => hk.2) (.slice none 0 0)) (fun _ hk => hk.2) (.slice Ao6 Jk.length co6)) (fun _ hk => hk.2) (.slice none 0 0)) (fun _ hk => (by simp [Value.ownBlock])), by first | exact Kd.eY _ _ _ _ _ | exact Kd.ig _ _ _ _ _ | exact Kd.iq _ _ _ _ _ | exact Kd.gY _ _ _ _ _ | exact Kd.gZ _ _ _ _ _, by (repeat with_reducible refine Kd.kQ ?_); exact Kd.bZ (Kd.cu (p := ⟨bV, 8, none⟩) (Kd.cu (p := ⟨bV, 7, none⟩) (Kd.cu (p := ⟨bV, 6, none⟩) (Kd.cu (p := ⟨bV, 5, none⟩) (Kd.cu (p := ⟨bV, 4, none⟩) (Kd.cu (p := ⟨bV, 3, none⟩) (Kd.cu (p := ⟨bV, 2, none⟩) (Kd.cu (p := ⟨bV, 1, none⟩) (Kd.cu (p := ⟨bV, 0, none⟩) (Kd.iH kG.out aN.out (by decide)) (fun _ hk => hk.2) (.int .i64 1)) (fun _ hk => hk.2) (.int .u64 0)) (fun _ hk => hk.2) (.int .u64 0)) (fun _ hk => hk.2) (.int .u64 5)) (fun _ hk => hk.2) (.int .u64 0)) (fun _ hk => hk.2) (.slice Nl y102.length JH)) (fun _ hk => hk.2) (.slice none 0 0)) (fun _ hk => hk.2) (.slice Ao6 Jk.length co6)) (fun _ hk => hk.2) (.slice none 0 0)) (fun _ hk => (by simp [Value.ownBlock])), by first | exact Kd.eY _ _ _ _ _ | exact Kd.ig _ _ _ _ _ | exact Kd.iq _ _ _ _ _ | exact Kd.gY _ _ _ _ _ | exact Kd.gZ _ _ _ _ _, by repeat (first | (with_reducible first | exact HB.out | apply ak | apply ay | apply aH | refine aA ?_ dH.out) | exact HB.out)⟩
def tidepolelaw25_spans.l0 : Nat → List (eP) → List (dQ) → Int → Int → Option ((List (eP)))
 | 0, _, _, _, _ => none
 | k + 1, x3, x6, x7, x8 => if x8 < x7 then (if 0 ≤ x8 then (if x8 < (x6.length : Int) then (if x3.length < 8796093022208 then (tidepolelaw25_spans.l0 k (x3 ++ [(⟨(aY x6 x8).f0, (aY x6 x8).f1⟩ : eP)]) x6 x7 (wrap64 (x8 + 1))) else (none)) else (none)) else (none)) else (some x3)
def tidepolelaw25_spans.f (k : Nat) (l0 : List (dQ)) : Option ((List (eP))) := tidepolelaw25_spans.l0 k ([] : List (eP)) l0 (l0.length : Int) 0
set_option maxHeartbeats 8000000 in
set_option maxRecDepth 100000 in
theorem tidepolelaw25_spans.calls (k : Nat) (A0 : Option Addr) (c0 : Nat) (l0 : List (dQ)) (r : List (eP)) (w : World) (hr0 : Kd.C jq w A0 l0.length l0) (hc0 : l0.length ≤ c0) (h : tidepolelaw25_spans.f k l0 = some r) :
  Calls Try.prog 87 #[.slice A0 l0.length c0] w fun e w' => ∃ mW : Value, e = .returned (mW) ∧ Kd.R mV 127 w' w.heap.size (fun _ => True) mW r ∧ Below w.heap.size w w' := by
 have JW := Try.underlying113
 have Rk := Try.underlying127
 have HR0 := ah hr0
 have uH := ah hc0
 clear hr0 hc0
 have HB := ah (Below.refl w.heap.size w)
 have H : (tidepolelaw25_spans.l0 k ([] : List (eP)) l0 (l0.length : Int) 0) = some r := h
 clear h
 have H' := ah H
 clear H
 go_enter Try.func87, Try.ntmps87
 go_wp2
 go_loopg [3, 8] k (fun kq v3 v8 w' => ∃ (fG : List (eP)) (bK : Int), v8 = .int .i64 bK ∧ aj (tidepolelaw25_spans.l0 kq fG l0 (l0.length : Int) bK = some r) ∧ aj (kq ≤ k) ∧ aj (Kd.R mV 127 w' w.heap.size (fun _ => True) v3 fG) ∧ aj (Below w.heap.size w w'))
 case atStart => exact ⟨(([] : List (eP))), (0), (by first | rfl | (simp; done) | (simp [*]; done)), H', ⟨Nat.le_refl _⟩, ⟨by first | exact Kd.eY _ _ _ _ _ | exact Kd.ig _ _ _ _ _ | exact Kd.iq _ _ _ _ _ | exact Kd.gY _ _ _ _ _ | exact Kd.gZ _ _ _ _ _⟩, ⟨by repeat (first | (with_reducible first | exact HB.out | apply ak | apply ay | apply aH) | exact HB.out)⟩⟩
 case round =>
  clear H'
  obtain ⟨fG, bK, rfl, HA, jy, HO_3, HB⟩ := hrel
  cases gk with
  | zero => exact absurd HA.out (by simp [tidepolelaw25_spans.l0])
  | succ k1 =>
   have H := HA.out
   clear HA
   simp only [tidepolelaw25_spans.l0] at H
   by_cases c2 : bK < (l0.length : Int)
   ·rw [if_pos c2] at H
    have c2b0 : decide (bK < (l0.length : Int)) = true := ahG c2
    clear c2
    by_cases c3 : 0 ≤ bK
    ·rw [if_pos c3] at H
     have c3b0 : decide (0 ≤ bK) = true := ahG c3
     clear c3
     by_cases c4 : bK < (l0.length : Int)
     ·rw [if_pos c4] at H
      have c4b0 : decide (bK < (l0.length : Int)) = true := ahG c4
      clear c4
      by_cases c5 : fG.length < 8796093022208
      ·rw [if_pos c5] at H
       have Es := ah c5
       clear c5
       obtain ⟨gy, jY⟩ : ∃ y_ : List (eP), y_ = (fG ++ [(⟨(aY l0 bK).f0, (aY l0 bK).f1⟩ : eP)]) := ⟨_, rfl⟩
       replace H : (tidepolelaw25_spans.l0 k1 gy l0 (l0.length : Int) (wrap64 (bK + 1))) = some r := by first | (rw [jY]; with_reducible exact H) | (have jA := (Option.bind_some _ _).symm.trans H; rw [jY]; with_reducible exact jA) | (have jA := (Option.bind_some _ _).symm.trans H; with_reducible exact jA) | with_reducible exact H | (rw [jY]; exact H) | exact H
       have sN := ah jY
       clear jY
       have H' := ah H
       clear H
       have fC : 0 ≤ (bK : Int) := ahF (by assumption)
       have fD : bK < (l0.length : Int) := ahF (by assumption)
       obtain ⟨kE, jM, bW, dS⟩ := pX HR0.out bK fC fD
       cases jM
       replace bW := (HB.out.cell (World.block_lt_of_cell? w _ bW)).trans bW
       replace dS := (HB.out.cell (World.block_lt_of_cell? w _ dS)).trans dS
       replace fC := eq_true fC
       replace fD := eq_true fD
       go_wp2_with (first | ((with_reducible refine fK (N := 5) rfl ?_); refine fA ?hg (N := 5) ?hd (cs := #[.int .i64 0, .int .i64 0]) (t := 113) ?hr ?_; (case hd => rfl); (case hg => rfl); (case hr => first | (go_simp; done) | (go_simp; rfl)); intro aI hg w6 hbox hb; have aJ := ah (hbox); have oN := ah ((by rw [hg]; exact (aQ (bg HB.out)) : w.heap.size ≤ aI)); have bU := ah ((by rw [hg]; exact (aQ (bg HB.out)) : w.heap.size ≤ aI)); replace HO_3 := ah (Kd.lu HO_3.out hb); replace HB := ah (aZ (bg HB.out) hb); clear hb hbox hg; have xC := au aJ.out; have xE := aC aJ.out) | ((with_reducible refine eG (b := .append) (xs := #[.tmp 12, .tmp 18]) rfl ?_); at_builtin; refine Kd.je mV (w0 := w) w.heap.size rfl (.tmp 12) (.tmp 18) 39 127 (.agg #[(.int .i64 0), (.int .i64 0)]) 16 rfl Try.underlying39 IJ rfl (by decide) (by omega) u3 fG (⟨(aY l0 bK).f0, (aY l0 bK).f1⟩ : eP) [.int .i64 ((aY l0 bK).f0), .int .i64 ((aY l0 bK).f1)] (fun _ => True) (fun _ => False) rfl (by first | (go_simp; done) | (go_simp; rfl)) ?aP (fun _ hk => hk.elim) ?aF ?aO ?aB ?aS ?aL ?_; (case aP => exact vH _ _ _ (⟨(aY l0 bK).f0, (aY l0 bK).f1⟩ : eP)); (case aB => exact (by repeat (first | (with_reducible first | exact HB.out | refine bJ ?_ | refine aA ?_ bU.out) | exact HB.out))); (case aF => exact (fun _ _ => trivial)); (case aO => exact (Kd.fJ (Kd.bZ (Kd.cu (p := ⟨aI, 1, none⟩) (Kd.cu (p := ⟨aI, 0, none⟩) (Kd.iH HO_3.out aJ.out (by decide)) (fun _ hk => hk.2) (.int .i64 ((aY l0 bK).f0))) (fun _ hk => hk.2) (.int .i64 ((aY l0 bK).f1))) (fun _ hk => trivial)))); (case aS => exact (aQ (by repeat (first | (with_reducible first | exact HB.out | refine bJ ?_ | refine aA ?_ bU.out) | exact HB.out)))); (case aL => have := Es.out; omega); intro xH w8 ho hb hg hat; rw [← sN.out] at ho; have fZ := ah (jc (g := aI) (o := .cells #[.int .i64 ((aY l0 bK).f0), .int .i64 ((aY l0 bK).f1)] 113 (0, 0)) (by (repeat with_reducible refine bQ ?_); refine bC (cs := #[.int .i64 ((aY l0 bK).f0), .int .i64 0]) ?_ 1 _ rfl; (repeat with_reducible refine bQ ?_); refine bC (cs := #[.int .i64 0, .int .i64 0]) ?_ 0 _ rfl; (repeat with_reducible refine bQ ?_); exact aJ.out) hg (Kd.BI HO_3.out aJ.out (by decide))); have eF := ah (ho); replace HB := ah (hb); clear HO_3 aJ; have aJ := fZ; clear fZ ho hb hg hat))
       go_roundg k1
       case measure => have := jy.out; omega
       case rel => exact ⟨(gy), (wrap64 (bK + 1)), (by first | rfl | (simp; done) | (simp [*]; done)), H', ⟨by have := jy.out; omega⟩, ⟨by (repeat with_reducible refine Kd.kQ ?_); exact eF.out⟩, ⟨by repeat (first | (with_reducible first | exact HB.out | apply ak | apply ay | apply aH | refine aA ?_ bU.out) | exact HB.out)⟩⟩
      rw [if_neg c5] at H
      exact absurd H (by simp)
     rw [if_neg c4] at H
     exact absurd H (by simp)
    rw [if_neg c3] at H
    exact absurd H (by simp)
   rw [if_neg c2] at H
   have c2b0 : decide (bK < (l0.length : Int)) = false := ahH c2
   clear c2
   obtain rfl := Option.some.inj H
   go_wp2
   go_ret
   exact ⟨_, by first | rfl | (simp [aU, aV] <;> rfl) | (simp [*, aU, aV] <;> rfl), by (repeat with_reducible refine Kd.kQ ?_); exact HO_3.out, by repeat (first | (with_reducible first | exact HB.out | apply ak | apply ay | apply aH) | exact HB.out)⟩
def tidepoleref06_Span.l0 : Nat → List (eP) → List (eP) → Int → Int → Option (Bool)
 | 0, _, _, _, _ => none
 | k + 1, x0, x1, x12, wE => if wE < x12 then (if 0 ≤ wE then (if wE < (x0.length : Int) then (if wE < (x1.length : Int) then (if (!(((aW x0 wE).f0) == ((aW x1 wE).f0)) || (!(((aW x0 wE).f1) == ((aW x1 wE).f1)))) = true then (some false) else (tidepoleref06_Span.l0 k x0 x1 x12 (wrap64 (wE + 1)))) else (none)) else (none)) else (none)) else (some true)
def tidepoleref06_Span.f (k : Nat) (l0 : List (eP)) (l1 : List (eP)) : Option (Bool) := if (l0.length : Int) = (l1.length : Int) then (tidepoleref06_Span.l0 k l0 l1 (l0.length : Int) 0) else (some false)
set_option maxHeartbeats 8000000 in
set_option maxRecDepth 100000 in
theorem tidepoleref06_Span.calls (k : Nat) (A0 : Option Addr) (c0 : Nat) (l0 : List (eP)) (A1 : Option Addr) (c1 : Nat) (l1 : List (eP)) (r : Bool) (w : World) (hr0 : Kd.C mV w A0 l0.length l0) (hc0 : l0.length ≤ c0) (hr1 : Kd.C mV w A1 l1.length l1) (hc1 : l1.length ≤ c1) (h : tidepoleref06_Span.f k l0 l1 = some r) :
  Calls Try.prog 88 #[.slice A0 l0.length c0, .slice A1 l1.length c1] w fun e w' => e = .returned (.bool r) ∧ cZ w w' := by
 have Rk := Try.underlying127
 have HR0 := ah hr0
 have uH := ah hc0
 clear hr0 hc0
 have HR1 := ah hr1
 have F9 := ah hc1
 clear hr1 hc1
 have H : (if (l0.length : Int) = (l1.length : Int) then (tidepoleref06_Span.l0 k l0 l1 (l0.length : Int) 0) else (some false)) = some r := h
 clear h
 by_cases c3 : (l0.length : Int) = (l1.length : Int)
 ·rw [if_pos c3] at H
  have c3b0 : ((l0.length : Int) == (l1.length : Int)) = true := beq_iff_eq.mpr c3
  have c3b1 : ((l0.length : Int) != (l1.length : Int)) = false := bne_eq_false_iff_eq.mpr c3
  have c3b2 : (l0.length == l1.length) = true := by first | simpa using c3 | (simp at c3 ⊢; omega)
  clear c3
  have H' := ah H
  clear H
  go_enter Try.func88, Try.ntmps88
  go_wp2
  repeat (go_quiet (fail); try go_wp2)
  go_loopg [13] k (fun kq v13 w' => ∃ (bH : Int), v13 = .int .i64 bH ∧ aj (tidepoleref06_Span.l0 kq l0 l1 (l0.length : Int) bH = some r) ∧ aj (kq ≤ k) ∧ cZ w w')
  case atStart => exact ⟨(0), (by first | rfl | (simp; done) | (simp [*]; done)), H', ⟨Nat.le_refl _⟩, by repeat (first | exact cZ.refl _ | apply cZ.step)⟩
  case round =>
   clear H'
   try clear c1
   try clear p2
   try clear c3
   try clear c3b0
   try clear c3b1
   try clear c3b2
   obtain ⟨bH, rfl, HA, jy, ⟨m1, rfl⟩⟩ := hrel
   cases gk with
   | zero => exact absurd HA.out (by simp [tidepoleref06_Span.l0])
   | succ k1 =>
    have H := HA.out
    clear HA
    simp only [tidepoleref06_Span.l0] at H
    by_cases c4 : bH < (l0.length : Int)
    ·rw [if_pos c4] at H
     have c4b0 : decide (bH < (l0.length : Int)) = true := ahG c4
     clear c4
     by_cases c5 : 0 ≤ bH
     ·rw [if_pos c5] at H
      have c5b0 : decide (0 ≤ bH) = true := ahG c5
      clear c5
      by_cases c6 : bH < (l0.length : Int)
      ·rw [if_pos c6] at H
       have c6b0 : decide (bH < (l0.length : Int)) = true := ahG c6
       clear c6
       by_cases c7 : bH < (l1.length : Int)
       ·rw [if_pos c7] at H
        have c7b0 : decide (bH < (l1.length : Int)) = true := ahG c7
        clear c7
        by_cases c8 : (!(((aW l0 bH).f0) == ((aW l1 bH).f0)) || (!(((aW l0 bH).f1) == ((aW l1 bH).f1)))) = true
        ·rw [if_pos c8] at H
         have c8b0 : (!(((aW l0 bH).f0) == ((aW l1 bH).f0)) || (!(((aW l0 bH).f1) == ((aW l1 bH).f1)))) = true := c8
         clear c8
         obtain rfl := Option.some.inj H
         have fC : 0 ≤ (bH : Int) := ahF (by assumption)
         have fD : bH < (l0.length : Int) := ahF (by assumption)
         obtain ⟨kE, jM, bW, dS⟩ := qI HR0.out bH fC fD
         cases jM
         replace fC := eq_true fC
         replace fD := eq_true fD
         have nG : 0 ≤ (bH : Int) := ahF (by assumption)
         have nH : bH < (l1.length : Int) := ahF (by assumption)
         obtain ⟨wY, xG, lD, oq⟩ := qI HR1.out bH nG nH
         cases xG
         replace nG := eq_true nG
         replace nH := eq_true nH
         go_wp2
         repeat (go_quiet (fail); try go_wp2)
         go_ret
         exact ⟨by first | rfl | (simp; done) | (simp [*]; done), by repeat (first | exact cZ.refl _ | apply cZ.step)⟩
        rw [if_neg c8] at H
        have c8b0 : (!(((aW l0 bH).f0) == ((aW l1 bH).f0)) || (!(((aW l0 bH).f1) == ((aW l1 bH).f1)))) = false := by simpa using c8
        clear c8
        have H' := ah H
        clear H
        have fC : 0 ≤ (bH : Int) := ahF (by assumption)
        have fD : bH < (l0.length : Int) := ahF (by assumption)
        obtain ⟨kE, jM, bW, dS⟩ := qI HR0.out bH fC fD
        cases jM
        replace fC := eq_true fC
        replace fD := eq_true fD
        have nG : 0 ≤ (bH : Int) := ahF (by assumption)
        have nH : bH < (l1.length : Int) := ahF (by assumption)
        obtain ⟨wY, xG, lD, oq⟩ := qI HR1.out bH nG nH
        cases xG
        replace nG := eq_true nG
        replace nH := eq_true nH
        go_wp2
        repeat (go_quiet (fail); try go_wp2)
        go_roundg k1
        case measure => have := jy.out; omega
        case rel => exact ⟨(wrap64 (bH + 1)), (by first | rfl | (simp; done) | (simp [*]; done)), H', ⟨by have := jy.out; omega⟩, by repeat (first | exact cZ.refl _ | apply cZ.step)⟩
       rw [if_neg c7] at H
       exact absurd H (by simp)
      rw [if_neg c6] at H
      exact absurd H (by simp)
     rw [if_neg c5] at H
     exact absurd H (by simp)
    rw [if_neg c4] at H
    have c4b0 : decide (bH < (l0.length : Int)) = false := ahH c4
    clear c4
    obtain rfl := Option.some.inj H
    go_wp2
    repeat (go_quiet (fail); try go_wp2)
    go_ret
    exact ⟨by first | rfl | (simp; done) | (simp [*]; done), by repeat (first | exact cZ.refl _ | apply cZ.step)⟩
 rw [if_neg c3] at H
 have c3b0 : ((l0.length : Int) == (l1.length : Int)) = false := beq_eq_false_iff_ne.mpr c3
 have c3b1 : ((l0.length : Int) != (l1.length : Int)) = true := bne_iff_ne.mpr c3
 have c3b2 : (l0.length == l1.length) = false := by first | simpa using c3 | (simp at c3 ⊢; omega)
 obtain rfl := Option.some.inj H
 go_enter Try.func88, Try.ntmps88
 go_wp2
 repeat (go_quiet (fail); try go_wp2)
 go_ret
 exact ⟨by first | rfl | (simp; done) | (simp [*]; done), by repeat (first | exact cZ.refl _ | apply cZ.step)⟩
end Go.Proofs.Ytooiccpmngmapaa.P
namespace Go.Proofs.Ytooiccpmngmapaa.P
open Go.RowKit Go.Shelf Go.Proofs.YtooiccpmngmapaaW.PrintWords Go.Proofs.YtooiccpmngmapaaW.PrintLast Go.Proofs.YtooiccpmngmapaaW.PrintMore
theorem zK (l : List Sp) (hm : l.length < 8796093022208) (k : Nat) (hk : l.length < k) : tidepolelaw25_spans.f k l = some (l.map toR) := by
  unfold tidepolelaw25_spans.f
  have : ∀ (d k i : Nat), l.length - i = d → d < k → i ≤ l.length → tidepolelaw25_spans.l0 k ((l.take i).map toR) l (l.length : Int) (i : Int) = some (l.map toR) := by
    intro d
    induction d with
    | zero =>
      intro k i hd hk hi
      obtain ⟨k, rfl⟩ : ∃ m, k = m + 1 := ⟨k - 1, by omega⟩
      rw [tidepolelaw25_spans.l0, if_neg (by omega), List.take_of_length_le (by omega)]
    | succ d ih =>
      intro k i hd hk hi
      obtain ⟨k, rfl⟩ : ∃ m, k = m + 1 := ⟨k - 1, by omega⟩
      have hlt : i < l.length := by omega
      have hl1 : ((l.take i).map toR).length = i := by simp; omega
      rw [tidepolelaw25_spans.l0, if_pos (by omega), if_pos (by omega), if_pos (by omega), hl1, Ar hlt, if_pos (by omega), wrap_succ (by omega), ← ih k (i + 1) (by omega) (by omega) (by omega), take_at hlt]
      simp only [List.map_append, List.map_cons, List.map_nil]
      rfl
  exact this l.length k 0 (by omega) hk (by omega)
theorem Hu (l : List Sp) (hm : l.length < 8796093022208) (w : World) (v : Value) (hv : SI kSp w v l) : Calls Try.prog 87 #[v] w fun e w' =>
  ∃ v0, e = .returned v0 ∧ SI kRsp w' v0 (l.map toR) ∧ Below w.heap.size w w' := by
 obtain ⟨A, c, rfl, hc, hr⟩ := hv
 refine (tidepolelaw25_spans.calls (l.length + 1) A c l _ w hr hc (zK l hm _ (by omega))).mono ?_
 rintro e w1 ⟨v0, rfl, h0, hb⟩
 exact ⟨v0, rfl, .rC h0, hb⟩
theorem OT (l : List Sp) (hw : kU l) : ∃ b : Bool, (b = true → l.length ≤ 400) ∧ ∀ (w : World) (v : Value), SI kSp w v l → Calls Try.prog 72 #[v] w fun e w' => e = .returned (.bool b) ∧ Below w.heap.size w w' := by
  have hl : ∀ (d k i : Nat) (n : Int), 401 - i = d → d < k → i ≤ l.length → (i : Int) ≤ n → n ≤ 400 → ∃ b, tidepolelaw25_few.l0 k n l (l.length : Int) (i : Int) = some b ∧ (b = true → l.length ≤ 400) := by
    intro d
    induction d with
    | zero => intro k i n hd hk hi h0 h1; omega
    | succ d ih =>
      intro k i n hd hk hi h0 h1
      obtain ⟨k, rfl⟩ : ∃ m, k = m + 1 := ⟨k - 1, by omega⟩
      simp only [tidepolelaw25_few.l0]
      by_cases hlt : i < l.length
      · rw [if_pos (by omega), if_pos (by omega), if_pos (by omega), Ar hlt, wrap_succ (by omega)]
        generalize l[i] = s
        have hrec : ∀ m : Int, n + 1 ≤ m → ∃ b, (if m > 400 then some false else tidepolelaw25_few.l0 k m l (l.length : Int) ((i + 1 : Nat) : Int)) = some b ∧ (b = true → l.length ≤ 400) := by
          intro m hm
          by_cases c : m > 400
          · rw [if_pos c]; exact ⟨false, rfl, fun h => by cases h⟩
          · rw [if_neg c]; exact ih k (i + 1) m (by omega) (by omega) (by omega) (by omega) (by omega)
        by_cases c : s.f1 > 0
        · rw [if_pos c]
          have hmn : 0 ≤ mn s.f1 5000 ∧ mn s.f1 5000 ≤ 5000 := by unfold mn; omega
          have ht := Int.tdiv_eq_ediv_of_nonneg (b := 10) hmn.1
          rw [ht]
          refine hrec _ ?_
          rw [eX (x := mn s.f1 5000 / 10) (by omega) (by omega), eX (x := 1 + mn s.f1 5000 / 10) (by omega) (by omega), eX (x := n + (1 + mn s.f1 5000 / 10)) (by omega) (by omega), eX (by omega) (by omega)]
          omega
        · rw [if_neg c]
          refine hrec _ ?_
          rw [eX (by omega) (by omega)]; omega
      · rw [if_neg (by omega)]; exact ⟨true, rfl, fun _ => by omega⟩
  obtain ⟨b, h1, h2⟩ := hl 401 402 0 0 (by omega) (by omega) (by omega) (by omega) (by omega)
  refine ⟨b, h2, fun w v hv => ?_⟩
  obtain ⟨A, c, rfl, hc, hr⟩ := hv
  exact (tidepolelaw25_few.calls 402 A c l b w hr hc h1).mono fun e w1 h => ⟨h.1, h.2⟩
def wfI (h : Hi) : Prop := i64 h.f0 ∧ u64 h.f1 ∧ u64 h.f2 ∧ u64 h.f3 ∧ u64 h.f4 ∧ kU h.f5 ∧ kU h.f6 ∧ Gj h.f7 ∧ Gj h.f8
instance (h : Hi) : Decidable (wfI h) := by unfold wfI; exact inferInstance
theorem PX {P : Program} {ops : Array Oper} {rest : List Oper} {o : Oper} {a : Act} {w : World} {Q : Exit → Act → World → Prop} (hg : o.guard = none) (t : TypeId) (parts : Array (Nat × Operand)) (ho : o.op = .build t parts)
  (V : Array (Nat × Value)) (hV : (parts.map fun (i, x) => (i, a.eval x)) = V) (cells : Array Value) (hB : P.built t V.toList = some cells) (h : wpList P ops Q rest (a.put o.dst (.agg cells)) w) : wpList P ops Q (o :: rest) a w :=
 wpList_build hg t parts ho (by rw [hV, hB]; rfl) (by rw [hV, hB]; exact h)
set_option maxRecDepth 100000 in
theorem Bf (w : World) (T : Int) (ONE SMP : Array Value)
  (hB : Try.prog.built 108 [(0, .int .i64 T), (1, .int .i64 0), (2, .agg ONE)] = some SMP) (hs : SMP.size = 20) (hs1 : SMP.all (·.oneCell') = true) (h1 : ONE.size = 9) :
  Calls Try.prog 76 #[.int .i64 T, .agg ONE] w fun e w' => e = .returned (.agg SMP) ∧ Below w.heap.size w w' := by
 have hus := Try.underlying108
 have hu := Try.underlying29
 have X := ah (heap_alloc2_old w (.cells ONE 29) (.cells #[.int .i64 0, .int .i64 0, .int .i64 0, .int .u64 0, .int .u64 0, .int .u64 0, .int .u64 0, .slice none 0 0, .slice none 0 0, .slice none 0 0, .slice none 0 0, .int .i64 0, .int .u64 0, .int .u64 0, .int .u64 0, .int .u64 0, .slice none 0 0, .slice none 0 0, .slice none 0 0, .slice none 0 0] 108))
 have Y := ah (heap_alloc2_new w (.cells ONE 29) (.cells #[.int .i64 0, .int .i64 0, .int .i64 0, .int .u64 0, .int .u64 0, .int .u64 0, .int .u64 0, .slice none 0 0, .slice none 0 0, .slice none 0 0, .slice none 0 0, .int .i64 0, .int .u64 0, .int .u64 0, .int .u64 0, .int .u64 0, .slice none 0 0, .slice none 0 0, .slice none 0 0, .slice none 0 0] 108))
 go_enter Try.func76, Try.ntmps76
 go_wp2_with (first
  | (refine wpList_load_row rfl 29 (.tmp 3) rfl w.heap.size rfl 29 ONE (0, 0) _ X.out hu rfl (by rw [h1]; kernel_rfl) ?_)
  | (refine PX rfl 108 #[(0, .tmp 5), (1, .const (.int .i64 0)), (2, .tmp 6)] rfl #[(0, .int .i64 T), (1, .int .i64 0), (2, .agg ONE)] (by simp [go_sem]) SMP hB ?_)
  | (refine wpList_store_row rfl 108 (.tmp 4) (.tmp 7) rfl (w.heap.size + 1) SMP rfl rfl 108 _ Y.out (by rw [hs]; kernel_rfl) (by rw [hs]; rfl) hs1 ?_))
 refine bodyPost_ret (results_cell_row rfl _ _ (w.heap.size + 1) 108 SMP (0, 0) _ rfl (setRow_heap _ _ _ SMP _ _ Y.out) hus rfl (by rw [hs]; kernel_rfl)) rfl ⟨rfl, below_setRow (ak (ak (Below.refl _ _) _) _) (Nat.le_succ _) SMP⟩
theorem Lc {P : Program} {ops : Array Oper} {rest : List Oper} {o : Oper} {a : Act} {w : World} {Q : Exit → Act → World → Prop} (hgd : o.guard = none) (ty : TypeId) (x : Operand) (ho : o.op = .load ty x)
    (g k : Nat) (hx : a.eval x = .pointer (some ⟨g, k, none⟩)) (t : TypeId) (cs sub : Array Value) (fr : Nat × Nat) (d : TypeDesc) (hg : w.heap[g]? = some (.cells cs t fr))
    (hu : P.underlying ty = some d) (hd : (match d with | .struct _ | .array _ _ => true | _ => false) = true) (hi : (P.info? ty).map (·.size) = some sub.size) (hsub : ∀ j v, sub[j]? = some v → cs[k + j]? = some v)
    (h : wpList P ops Q rest (a.put o.dst (.agg sub)) w) : wpList P ops Q (o :: rest) a w := by
  have hl : (loadCells ⟨g, k, none⟩ sub.toList.length).run P w = .ok sub.toList.toArray w :=
    run_loadCells_list (P := P) w ⟨g, k, none⟩ sub.toList (fun j v hv => by
      have hadd : (⟨g, k, none⟩ : Addr).add j = ⟨g, k + j, none⟩ := by unfold Addr.add; split <;> simp_all
      rw [hadd, cell_of_row w g (k + j) cs t fr hg]
      exact hsub j v (by simpa using hv))
  have hrun : (loadVar ty ⟨g, k, none⟩).run P w = .ok (.agg sub) w := by
    cases hq : P.info? ty with
    | none => simp [hq] at hi
    | some i =>
      have hs : i.size = sub.size := by simpa [hq] using hi
      have hagg : (isAgg ty).run P w = .ok true w := by
        unfold isAgg
        rw [Sem.run_bind, run_underlying hu w]
        cases d <;> simp_all
      simp only [Array.length_toList, Array.toArray_toList] at hl
      simp [loadVar, Sem.run_bind, hagg, sizeOf, typeInfo, hq, hs, hl]
  refine wpList_plain hgd fun K hK => ?_
  unfold Oper.wp execOp
  simp only [ho, hx, Instr.loadAt, Instr.sureAddr, Sem.run_bind, Sem.run_pure, Result.andThen_ok, hrun]
  exact hK _ _ h
theorem Gp (w : World) (SMP ONE : Array Value) (c : Int) (h1 : SMP[1]? = some (.int .i64 0)) (hsub : ∀ j v, ONE[j]? = some v → SMP[2 + j]? = some v) (hO : ONE.size = 9)
  (hck : ∀ W, Below w.heap.size w W → Calls Try.prog 31 #[.agg ONE] W fun e w' => e = .returned (.int .i64 c) ∧ Below W.heap.size W w') :
  Calls Try.prog 140 #[.agg SMP] w fun e w' => e = .returned (.int .i64 c) ∧ Below w.heap.size w w' := by
 have hus := Try.underlying108
 have hu := Try.underlying29
 have X := ah (heap_alloc_new w (.cells SMP 108))
 have B := ah (ak (Below.refl w.heap.size w) (.cells SMP 108))
 have HO := ah hO
 have HC := ah hck
 have HB := ah hsub
 have c1 := (au X.out 1).trans h1
 clear hO hck hsub h1
 go_enter Try.func140, Try.ntmps140
 go_wp2_with (refine Lc rfl 29 (.tmp 7) rfl w.heap.size 2 rfl 108 SMP ONE (0, 0) _ X.out hu rfl (by rw [HO.out]; kernel_rfl) HB.out ?_)
 refine (HC.out _ B.out).mono ?_
 rintro e w1 ⟨rfl, hb⟩
 replace B := ah (aG B.out B.out.size hb)
 clear hb
 go_wp2_with fail
 go_ret
 exact ⟨rfl, B.out⟩
theorem Gq (w : World) (SMP ONE : Array Value) (T tt : Int) (Pst : Array Value → World → Prop) (hpst : ∀ S W W', Pst S W → W.heap.size ≤ W'.heap.size → (∀ k, w.heap.size + 2 ≤ k → k < W.heap.size → W'.heap[k]? = W.heap[k]?) → Pst S W') (h0 : SMP[0]? = some (.int .i64 T)) (h1 : SMP[1]? = some (.int .i64 0)) (hsub : ∀ j v, ONE[j]? = some v → SMP[2 + j]? = some v) (hO : ONE.size = 9) (hs : SMP.size = 20)
  (hck : ∀ W, Below w.heap.size w W → Calls Try.prog 140 #[.agg SMP] W fun e w' => e = .returned (.int .i64 0) ∧ Below W.heap.size W w')
  (hints : ∀ W, Below w.heap.size w W → Calls Try.prog 27 #[.agg ONE, .int .i64 tt] W fun e w' => ∃ RES S2 : Array Value, e = .returned (.tuple #[.agg RES, .int .i64 0]) ∧ RES.size = 9 ∧ RES.all (·.oneCell') = true ∧ Try.prog.built 108 [(0, .int .i64 T), (1, .int .i64 0), (2, .agg RES)] = some S2 ∧ S2.size = 20 ∧ S2.all (·.oneCell') = true ∧ Pst S2 w' ∧ Below W.heap.size W w') :
  Calls Try.prog 75 #[.agg SMP, .int .i64 tt] w fun e w' => ∃ S2, e = .returned (.tuple #[.agg S2, .int .i64 0]) ∧ Pst S2 w' ∧ Below w.heap.size w w' := by
 have hus := Try.underlying108
 have hu := Try.underlying29
 have X := ah (heap_alloc2_old w (.cells SMP 108) (.cells #[.int .i64 0, .int .i64 0, .int .i64 0, .int .u64 0, .int .u64 0, .int .u64 0, .int .u64 0, .slice none 0 0, .slice none 0 0, .slice none 0 0, .slice none 0 0, .int .i64 0, .int .u64 0, .int .u64 0, .int .u64 0, .int .u64 0, .slice none 0 0, .slice none 0 0, .slice none 0 0, .slice none 0 0] 108))
 have Y := ah (heap_alloc2_new w (.cells SMP 108) (.cells #[.int .i64 0, .int .i64 0, .int .i64 0, .int .u64 0, .int .u64 0, .int .u64 0, .int .u64 0, .slice none 0 0, .slice none 0 0, .slice none 0 0, .slice none 0 0, .int .i64 0, .int .u64 0, .int .u64 0, .int .u64 0, .int .u64 0, .slice none 0 0, .slice none 0 0, .slice none 0 0, .slice none 0 0] 108))
 have B := ah (ak (ak (Below.refl w.heap.size w) (.cells SMP 108)) (.cells #[.int .i64 0, .int .i64 0, .int .i64 0, .int .u64 0, .int .u64 0, .int .u64 0, .int .u64 0, .slice none 0 0, .slice none 0 0, .slice none 0 0, .slice none 0 0, .int .i64 0, .int .u64 0, .int .u64 0, .int .u64 0, .int .u64 0, .slice none 0 0, .slice none 0 0, .slice none 0 0, .slice none 0 0] 108))
 have HS := ah hs
 have HO := ah hO
 have HC := ah hck
 have HI_ := ah hints
 have HP := ah hpst
 have HB := ah hsub
 clear hs hO hck hints hpst hsub
 go_enter Try.func75, Try.ntmps75
 go_wp2_with (refine wpList_load_row rfl 108 (.tmp 2) rfl w.heap.size rfl 108 SMP (0, 0) _ X.out hus rfl (by rw [HS.out]; kernel_rfl) ?_)
 refine (HC.out _ B.out).mono ?_
 rintro e w1 ⟨rfl, hb⟩
 replace X := ah (bD X.out hb)
 replace Y := ah (bD Y.out hb)
 replace B := ah (aG B.out B.out.size hb)
 clear hb
 have c0 := (au X.out 0).trans h0
 have c1 := (au X.out 1).trans h1
 clear h0 h1
 go_wp2_with (refine Lc rfl 29 (.tmp 21) rfl w.heap.size 2 rfl 108 SMP ONE (0, 0) _ X.out hu rfl (by rw [HO.out]; kernel_rfl) HB.out ?_)
 refine (HI_.out _ B.out).mono ?_
 rintro e w2 ⟨RES, S2, rfl, r1, r2, r3, r4, r5, r6, hb⟩
 have hb2 := aG hb hb.size (ak (Below.refl w2.heap.size w2) (.cells RES 29))
 replace B := ah (aG B.out B.out.size hb2)
 replace X := ah (bD X.out hb2)
 replace Y := ah (bD Y.out hb2)
 have c0' : (w2.alloc (.cells RES 29)).cell? ⟨w.heap.size, 0, none⟩ = some (.int .i64 T) := (hb2.cell (p := ⟨w.heap.size, 0, none⟩) (block_lt_of_cell c0)).trans c0
 have N1 := ah (heap_alloc_new w2 (.cells #[.int .i64 0, .int .u64 0, .int .u64 0, .int .u64 0, .int .u64 0, .slice none 0 0, .slice none 0 0, .slice none 0 0, .slice none 0 0] 29))
 have N2 := ah (heap_alloc_new w2 (.cells RES 29))
 have hp2 := ah (HP.out _ _ _ r6 (ak (Below.refl w2.heap.size w2) (.cells RES 29)).size (fun k _ hk => (ak (Below.refl w2.heap.size w2) (.cells RES 29)).block k hk))
 have R1 := ah r1
 have R2 := ah r2
 have R3 := ah r3
 have R4 := ah r4
 have R5 := ah r5
 clear c0 c1 hb hb2 r1 r2 r3 r4 r5 r6
 go_wp2_with (first
  | (refine wpList_store_row rfl 29 (.tmp 7) (.tmp 25) rfl w2.heap.size RES rfl rfl 29 _ N1.out (by rw [R1.out]; kernel_rfl) (by rw [R1.out]; rfl) R2.out ?_; rw [World.setRow_alloc_new])
  | (refine wpList_load_row rfl 29 (.tmp 7) rfl w2.heap.size rfl 29 RES (0, 0) _ N2.out hu rfl (by rw [R1.out]; kernel_rfl) ?_))
 refine (Bf _ T RES S2 R3.out R4.out R5.out R1.out).mono ?_
 rintro e w3 ⟨rfl, hb⟩
 replace B := ah (aG B.out B.out.size hb)
 replace Y := ah (bD Y.out hb)
 have hp3 := ah (HP.out _ _ _ hp2.out hb.size (fun k _ hk => hb.block k hk))
 clear hb c0'
 go_wp2_with (refine wpList_store_row rfl 108 (.tmp 4) (.tmp 34) rfl (w.heap.size + 1) S2 rfl rfl 108 _ Y.out (by rw [R4.out]; kernel_rfl) (by rw [R4.out]; rfl) R5.out ?_)
 have hp4 := HP.out _ (w3) (w3.setRow (w.heap.size + 1) S2) hp3.out (by simp) (fun k h _ => setRow_other _ _ _ _ (by omega))
 refine bodyPost_ret (v := .tuple #[.agg S2, .int .i64 0]) ?_ rfl ⟨S2, rfl, hp4, below_setRow B.out (Nat.le_succ _) S2⟩
 rw [results_cell_tmp (p := 4) (u := 5) (ty := 108) rfl]
 show (((asAddr (.pointer (some ⟨w.heap.size + 1, 0, none⟩))).run Try.prog _).andThen _) = _
 have h1 := run_loadVar_row (P := Try.prog) (w3.setRow (w.heap.size + 1) S2) (w.heap.size + 1) 108 108 S2 (0, 0) _ (setRow_heap _ _ _ S2 _ _ Y.out) hus rfl (by rw [R4.out]; kernel_rfl)
 simp only [asAddr, Sem.run_pure, Result.andThen_ok, h1]
 rfl
attribute [local go_sem] iV iW jH jI gW gX iY iZ
def pairs_Zip_uint64.l0 : Nat → List Int → List (gI) → List Int → Int → Int → Option ((List (gI)) × Int)
 | 0, _, _, _, _, _ => none
 | k + 1, x1, x8, QS, x27, x28 => if x28 < x27 then (if 0 ≤ x28 then (if x28 < (QS.length : Int) then (if x28 < (x1.length : Int) then (if x8.length < 8796093022208 then (pairs_Zip_uint64.l0 k x1 (x8 ++ [(⟨rd QS x28, rd x1 x28⟩ : gI)]) QS x27 (wrap64 (x28 + 1))) else (none)) else (none)) else (none)) else (none)) else (some (x8, 0))
def pairs_Zip_uint64.f (k : Nat) (l0 : List (dQ)) (l1 : List Int) : Option ((List (gI)) × Int) := (span_Places.f k l0).bind fun kR => (if kR.2 = 0 then (if (kR.1.length : Int) = (l1.length : Int) then (pairs_Zip_uint64.l0 k l1 ([] : List (gI)) kR.1 (kR.1.length : Int) 0) else (some (([] : List (gI)), 10))) else (some (([] : List (gI)), kR.2)))
set_option maxHeartbeats 8000000 in
set_option maxRecDepth 100000 in
theorem pairs_Zip_uint64.calls (k : Nat) (A0 : Option Addr) (c0 : Nat) (l0 : List (dQ)) (A1 : Option Addr) (c1 : Nat) (l1 : List Int) (r1 : List (gI)) (r2 : Int) (w : World) (hr0 : Kd.C jq w A0 l0.length l0) (hc0 : l0.length ≤ c0) (hr1 : Kd.C (Kd.int .u64) w A1 l1.length l1) (hc1 : l1.length ≤ c1) (h : pairs_Zip_uint64.f k l0 l1 = some (r1, r2)) :
  Calls Try.prog 175 #[.slice A0 l0.length c0, .slice A1 l1.length c1] w fun e w' => ∃ mW : Value, e = .returned (.tuple #[mW, .int .i64 r2]) ∧ Kd.R kL 192 w' w.heap.size (fun _ => True) mW r1 ∧ Below w.heap.size w w' := by
 have VL := Try.underlying192
 have HR0 := ah hr0
 have uH := ah hc0
 clear hr0 hc0
 have HR1 := ah hr1
 have F9 := ah hc1
 clear hr1 hc1
 have HB := ah (Below.refl w.heap.size w)
 have H : ((span_Places.f k l0).bind fun kR => (if kR.2 = 0 then (if (kR.1.length : Int) = (l1.length : Int) then (pairs_Zip_uint64.l0 k l1 ([] : List (gI)) kR.1 (kR.1.length : Int) 0) else (some (([] : List (gI)), 10))) else (some (([] : List (gI)), kR.2)))) = some (r1, r2) := h
 clear h
 replace H := Option.bind_eq_some_iff.mp H
 obtain ⟨⟨dV, fH⟩, G7, H⟩ := H
 replace H : (if fH = 0 then (if (dV.length : Int) = (l1.length : Int) then (pairs_Zip_uint64.l0 k l1 ([] : List (gI)) dV (dV.length : Int) 0) else (some (([] : List (gI)), 10))) else (some (([] : List (gI)), fH))) = some (r1, r2) := H
 have A3 := ah G7
 clear G7
 by_cases c4 : fH = 0
 ·rw [if_pos c4] at H
  have c4b0 : (fH == 0) = true := beq_iff_eq.mpr c4
  have c4b1 : (fH != 0) = false := bne_eq_false_iff_eq.mpr c4
  clear c4
  by_cases c5 : (dV.length : Int) = (l1.length : Int)
  ·rw [if_pos c5] at H
   have c5b0 : ((dV.length : Int) == (l1.length : Int)) = true := beq_iff_eq.mpr c5
   have c5b1 : ((dV.length : Int) != (l1.length : Int)) = false := bne_eq_false_iff_eq.mpr c5
   have c5b2 : (dV.length == l1.length) = true := by first | simpa using c5 | (simp at c5 ⊢; omega)
   clear c5
   have H' := ah H
   clear H
   go_enter Try.func175, Try.ntmps175
   go_wp2_with (first | ((with_reducible refine bP (f := 181) rfl ?_); refine gU (some 13) Try.func181 #[.slice A0 l0.length c0] ?_; (with_reducible refine (span_Places.calls k _ _ l0 dV fH _ ?dK ?dL A3.out).mono ?_); (case dK => exact Kd.jV HR0.out); (case dL => exact uH.out); rintro e w6 ⟨zD, rfl, ho0, hb⟩; refine ⟨_, rfl, ?_⟩; have jf := ah (Kd.dh ho0 (aQ (bg HB.out))); replace HB := ah (aZ (bg HB.out) hb); (try clear hb); (try clear hb2); (try clear hk); (try clear hi); (try clear ho0); clear A3; obtain ⟨Nl, JH, UA⟩ := Kd.dw jf.out; subst UA))
   go_loopg [8, 28] k (fun kq v8 v28 w' => ∃ (bK : List (gI)) (iF : Int), v28 = .int .i64 iF ∧ aj (pairs_Zip_uint64.l0 kq l1 bK dV (dV.length : Int) iF = some (r1, r2)) ∧ aj (kq ≤ k) ∧ aj (Kd.R kL 192 w' w.heap.size (fun _ => True) v8 bK) ∧ aj (Kd.R (Kd.int .i64) 3 w' w.heap.size (fun _ => True) (.slice Nl dV.length JH) dV) ∧ aj (Below w.heap.size w w'))
   case atStart => exact ⟨(([] : List (gI))), (0), (by first | rfl | (simp; done) | (simp [*]; done)), H', ⟨Nat.le_refl _⟩, ⟨by first | exact Kd.eY _ _ _ _ _ | exact Kd.ig _ _ _ _ _ | exact Kd.iq _ _ _ _ _ | exact Kd.gY _ _ _ _ _ | exact Kd.gZ _ _ _ _ _⟩, ⟨by (repeat with_reducible refine Kd.kQ ?_); exact jf.out⟩, ⟨by repeat (first | (with_reducible first | exact HB.out | apply ak | apply ay | apply aH) | exact HB.out)⟩⟩
   case round =>
    clear H'
    try clear c1
    try clear p2
    try clear c4
    try clear c4b0
    try clear c4b1
    try clear c5
    try clear c5b0
    try clear c5b1
    try clear c5b2
    obtain ⟨bK, iF, rfl, HA, jy, HO_8, HO_26, HB⟩ := hrel
    cases gk with
    | zero => exact absurd HA.out (by simp [pairs_Zip_uint64.l0])
    | succ k1 =>
     have H := HA.out
     clear HA
     simp only [pairs_Zip_uint64.l0] at H
     by_cases c8 : iF < (dV.length : Int)
     ·rw [if_pos c8] at H
      have c8b0 : decide (iF < (dV.length : Int)) = true := ahG c8
      clear c8
      by_cases c9 : 0 ≤ iF
      ·rw [if_pos c9] at H
       have c9b0 : decide (0 ≤ iF) = true := ahG c9
       clear c9
       by_cases c10 : iF < (dV.length : Int)
       ·rw [if_pos c10] at H
        have c10b0 : decide (iF < (dV.length : Int)) = true := ahG c10
        clear c10
        by_cases c11 : iF < (l1.length : Int)
        ·rw [if_pos c11] at H
         have c11b0 : decide (iF < (l1.length : Int)) = true := ahG c11
         clear c11
         by_cases c12 : bK.length < 8796093022208
         ·rw [if_pos c12] at H
          have Rq := ah c12
          clear c12
          obtain ⟨Dz, nI⟩ : ∃ y_ : List (gI), y_ = (bK ++ [(⟨rd dV iF, rd l1 iF⟩ : gI)]) := ⟨_, rfl⟩
          replace H : (pairs_Zip_uint64.l0 k1 l1 Dz dV (dV.length : Int) (wrap64 (iF + 1))) = some (r1, r2) := by first | (rw [nI]; with_reducible exact H) | (have jA := (Option.bind_some _ _).symm.trans H; rw [nI]; with_reducible exact jA) | (have jA := (Option.bind_some _ _).symm.trans H; with_reducible exact jA) | with_reducible exact H | (rw [nI]; exact H) | exact H
          have Ei := ah nI
          clear nI
          have H' := ah H
          clear H
          have nN : 0 ≤ (iF : Int) := ahF (by assumption)
          have nO : iF < (dV.length : Int) := ahF (by assumption)
          obtain ⟨Dj, xI, jW⟩ := Kd.gB (Kd.bF HO_26.out).2.2 iF nN nO
          cases xI
          replace nN := eq_true nN
          replace nO := eq_true nO
          have vY : 0 ≤ (iF : Int) := ahF (by assumption)
          have vZ : iF < (l1.length : Int) := ahF (by assumption)
          obtain ⟨JX, IQ, qJ⟩ := Kd.gB HR1.out iF vY vZ
          cases IQ
          replace qJ := (HB.out.cell (World.block_lt_of_cell? w _ qJ)).trans qJ
          replace vY := eq_true vY
          replace vZ := eq_true vZ
          go_wp2_with (first | ((with_reducible refine eG (b := .append) (xs := #[.tmp 33, .tmp 40]) rfl ?_); at_builtin; refine Kd.je kL (w0 := w) w.heap.size rfl (.tmp 33) (.tmp 40) 129 192 (.agg #[(.int .i64 0), (.int .u64 0)]) 16 rfl Try.underlying129 Aa rfl (by decide) (by omega) u8 bK (⟨rd dV iF, rd l1 iF⟩ : gI) [.int .i64 (rd dV iF), .int .u64 (rd l1 iF)] (fun _ => True) (fun _ => False) rfl rfl ?aP (fun _ hk => hk.elim) ?aF ?aO ?aB ?aS ?aL ?_; (case aP => exact lU _ _ _ (⟨rd dV iF, rd l1 iF⟩ : gI)); (case aB => exact (bg HB.out)); (case aF => exact (fun _ _ => trivial)); (case aO => exact (Kd.fJ HO_8.out)); (case aS => exact (aQ (bg HB.out))); (case aL => have := Rq.out; omega); intro Zj Rt ho hb hg hat; rw [← Ei.out] at ho; have fZ := ah (Kd.jG (Kd.fJ HO_26.out) (Kd.jF (Kd.fJ HO_8.out)) (by decide) hg); have Ku := ah (ho); replace HB := ah (hb); clear HO_8 HO_26; have HO_26 := fZ; clear fZ ho hb hg hat))
          go_roundg k1
          case measure => have := jy.out; omega
          case rel => exact ⟨(Dz), (wrap64 (iF + 1)), (by first | rfl | (simp; done) | (simp [*]; done)), H', ⟨by have := jy.out; omega⟩, ⟨by (repeat with_reducible refine Kd.kQ ?_); exact Ku.out⟩, ⟨by (repeat with_reducible refine Kd.kQ ?_); exact HO_26.out⟩, ⟨by repeat (first | (with_reducible first | exact HB.out | apply ak | apply ay | apply aH) | exact HB.out)⟩⟩
         rw [if_neg c12] at H
         exact absurd H (by simp)
        rw [if_neg c11] at H
        exact absurd H (by simp)
       rw [if_neg c10] at H
       exact absurd H (by simp)
      rw [if_neg c9] at H
      exact absurd H (by simp)
     rw [if_neg c8] at H
     have c8b0 : decide (iF < (dV.length : Int)) = false := ahH c8
     clear c8
     simp only [Option.some.injEq, Prod.mk.injEq] at H
     obtain ⟨rfl, rfl⟩ := H
     go_wp2
     go_ret2
     exact ⟨_, by first | rfl | (simp [aU, aV] <;> rfl) | (simp [*, aU, aV] <;> rfl), by (repeat with_reducible refine Kd.kQ ?_); exact HO_8.out, by repeat (first | (with_reducible first | exact HB.out | apply ak | apply ay | apply aH) | exact HB.out)⟩
  rw [if_neg c5] at H
  have c5b0 : ((dV.length : Int) == (l1.length : Int)) = false := beq_eq_false_iff_ne.mpr c5
  have c5b1 : ((dV.length : Int) != (l1.length : Int)) = true := bne_iff_ne.mpr c5
  have c5b2 : (dV.length == l1.length) = false := by first | simpa using c5 | (simp at c5 ⊢; omega)
  simp only [Option.some.injEq, Prod.mk.injEq] at H
  obtain ⟨rfl, rfl⟩ := H
  go_enter Try.func175, Try.ntmps175
  go_wp2_with (first | ((with_reducible refine bP (f := 181) rfl ?_); refine gU (some 13) Try.func181 #[.slice A0 l0.length c0] ?_; (with_reducible refine (span_Places.calls k _ _ l0 dV fH _ ?dK ?dL A3.out).mono ?_); (case dK => exact Kd.jV HR0.out); (case dL => exact uH.out); rintro e Zk ⟨zD, rfl, ho0, hb⟩; refine ⟨_, rfl, ?_⟩; have jf := ah (Kd.dh ho0 (aQ (bg HB.out))); replace HB := ah (aZ (bg HB.out) hb); (try clear hb); (try clear hb2); (try clear hk); (try clear hi); (try clear ho0); clear A3; obtain ⟨acT, YO, Pv⟩ := Kd.dw jf.out; subst Pv))
  go_ret2
  exact ⟨_, by first | rfl | (simp [aU, aV] <;> rfl) | (simp [*, aU, aV] <;> rfl), by first | exact Kd.eY _ _ _ _ _ | exact Kd.ig _ _ _ _ _ | exact Kd.iq _ _ _ _ _ | exact Kd.gY _ _ _ _ _ | exact Kd.gZ _ _ _ _ _, by repeat (first | (with_reducible first | exact HB.out | apply ak | apply ay | apply aH) | exact HB.out)⟩
 rw [if_neg c4] at H
 have c4b0 : (fH == 0) = false := beq_eq_false_iff_ne.mpr c4
 have c4b1 : (fH != 0) = true := bne_iff_ne.mpr c4
 simp only [Option.some.injEq, Prod.mk.injEq] at H
 obtain ⟨rfl, rfl⟩ := H
 go_enter Try.func175, Try.ntmps175
 go_wp2_with (first | ((with_reducible refine bP (f := 181) rfl ?_); refine gU (some 13) Try.func181 #[.slice A0 l0.length c0] ?_; (with_reducible refine (span_Places.calls k _ _ l0 dV fH _ ?dK ?dL A3.out).mono ?_); (case dK => exact Kd.jV HR0.out); (case dL => exact uH.out); rintro e w16 ⟨zD, rfl, ho0, hb⟩; refine ⟨_, rfl, ?_⟩; have jf := ah (Kd.dh ho0 (aQ (bg HB.out))); replace HB := ah (aZ (bg HB.out) hb); (try clear hb); (try clear hb2); (try clear hk); (try clear hi); (try clear ho0); clear A3))
 go_ret2
 exact ⟨_, by first | rfl | (simp [aU, aV] <;> rfl) | (simp [*, aU, aV] <;> rfl), by first | exact Kd.eY _ _ _ _ _ | exact Kd.ig _ _ _ _ _ | exact Kd.iq _ _ _ _ _ | exact Kd.gY _ _ _ _ _ | exact Kd.gZ _ _ _ _ _, by repeat (first | (with_reducible first | exact HB.out | apply ak | apply ay | apply aH) | exact HB.out)⟩
def pairs_Unzip_uint64.l0 : Nat → List Int → List Int → List (gI) → Int → Int → Option ((List (dQ)) × List Int × Int)
 | 0, _, _, _, _, _ => none
 | k + 1, x5, x6, x11, x12, wE => if wE < x12 then (if 0 ≤ wE then (if wE < (x11.length : Int) then ((some (([(bf x11 wE).f0] : List Int) : List Int)).bind fun gy => (if x5.length + gy.length < 17592186044416 then ((some (([(bf x11 wE).f1] : List Int) : List Int)).bind fun lV => (if x6.length + lV.length < 17592186044416 then (pairs_Unzip_uint64.l0 k (x5 ++ gy) (x6 ++ lV) x11 x12 (wrap64 (wE + 1))) else (none))) else (none))) else (none)) else (none)) else ((span_From.f k x5).bind fun Ep => (if Ep.2 = 0 then (some (Ep.1, x6, 0)) else (some (([] : List (dQ)), ([] : List Int), Ep.2))))
def pairs_Unzip_uint64.f (k : Nat) (l0 : List (gI)) : Option ((List (dQ)) × List Int × Int) := pairs_Unzip_uint64.l0 k ([] : List Int) ([] : List Int) l0 (l0.length : Int) 0
def pairs_Unzip_uint64.T6 : Bool × List (List Nat × List Nat) := (true, [([], []), ([], []), ([1], [1]), ([2], [2]), ([0, 3], [0, 3]), ([], []), ([], []), ([6], [6]), ([7], [7]), ([5, 8, 4], [5, 8]), ([4, 9, 0, 1, 2, 3, 4], [0, 4]), ([9, 10, 0, 1, 2, 3, 4, 5, 6, 7, 8, 9, 10], [5, 9])])
def pairs_Unzip_uint64.B6 : List Nat := [0, 0, 2, 6, 15, 0, 0, 64, 192, 511, 1023, 2047]
theorem pairs_Unzip_uint64.tab6 : ru .any (opsOf Try.f147 6) = pairs_Unzip_uint64.T6 := by kernel_rfl
theorem pairs_Unzip_uint64.Hg : qG pairs_Unzip_uint64.T6.2 pairs_Unzip_uint64.B6 = true := by kernel_rfl
set_option maxHeartbeats 8000000 in
set_option maxRecDepth 100000 in
theorem pairs_Unzip_uint64.calls (k : Nat) (A0 : Option Addr) (c0 : Nat) (l0 : List (gI)) (r1 : List (dQ)) (r2 : List Int) (r3 : Int) (w : World) (hr0 : Kd.C kL w A0 l0.length l0) (hc0 : l0.length ≤ c0) (h : pairs_Unzip_uint64.f k l0 = some (r1, r2, r3)) :
  Calls Try.prog 147 #[.slice A0 l0.length c0] w fun e w' => ∃ mW Np : Value, e = .returned (.tuple #[mW, Np, .int .i64 r3]) ∧ Kd.R jq 113 w' w.heap.size (fun _ => True) mW r1 ∧ Kd.R (Kd.int .u64) 25 w' w.heap.size (fun _ => True) Np r2 ∧ Below w.heap.size w w' := by
 have VL := Try.underlying192
 have HR0 := ah hr0
 have uH := ah hc0
 clear hr0 hc0
 have HB := ah (Below.refl w.heap.size w)
 have H : (pairs_Unzip_uint64.l0 k ([] : List Int) ([] : List Int) l0 (l0.length : Int) 0) = some (r1, r2, r3) := h
 clear h
 have H' := ah H
 clear H
 go_enter Try.func147, Try.ntmps147
 go_wp2
 go_loopg [5, 6, 13] k (fun kq v5 v6 v13 w' => ∃ (bG : List Int) (fP : List Int) (bH : Int), v13 = .int .i64 bH ∧ aj (pairs_Unzip_uint64.l0 kq bG fP l0 (l0.length : Int) bH = some (r1, r2, r3)) ∧ aj (kq ≤ k) ∧ aj (Kd.R (Kd.int .i64) 3 w' w.heap.size (fun _ => True) v5 bG) ∧ aj (Kd.R (Kd.int .u64) 25 w' w.heap.size (fun _ => True) v6 fP) ∧ aj (Below w.heap.size w w'))
 case atStart => exact ⟨(([] : List Int)), (([] : List Int)), (0), (by first | rfl | (simp; done) | (simp [*]; done)), H', ⟨Nat.le_refl _⟩, ⟨by first | exact Kd.eY _ _ _ _ _ | exact Kd.ig _ _ _ _ _ | exact Kd.iq _ _ _ _ _ | exact Kd.gY _ _ _ _ _ | exact Kd.gZ _ _ _ _ _⟩, ⟨by first | exact Kd.eY _ _ _ _ _ | exact Kd.ig _ _ _ _ _ | exact Kd.iq _ _ _ _ _ | exact Kd.gY _ _ _ _ _ | exact Kd.gZ _ _ _ _ _⟩, ⟨by repeat (first | (with_reducible first | exact HB.out | apply ak | apply ay | apply aH) | exact HB.out)⟩⟩
 case round =>
  clear H'
  try clear c1
  obtain ⟨bG, fP, bH, rfl, HA, jy, HO_5, HO_6, HB⟩ := hrel
  cases gk with
  | zero => exact absurd HA.out (by simp [pairs_Unzip_uint64.l0])
  | succ k1 =>
   have H := HA.out
   clear HA
   simp only [pairs_Unzip_uint64.l0] at H
   by_cases c2 : bH < (l0.length : Int)
   ·rw [if_pos c2] at H
    have c2b0 : decide (bH < (l0.length : Int)) = true := ahG c2
    clear c2
    by_cases c3 : 0 ≤ bH
    ·rw [if_pos c3] at H
     have c3b0 : decide (0 ≤ bH) = true := ahG c3
     clear c3
     by_cases c4 : bH < (l0.length : Int)
     ·rw [if_pos c4] at H
      have c4b0 : decide (bH < (l0.length : Int)) = true := ahG c4
      clear c4
      obtain ⟨gy, jY⟩ : ∃ y_ : List Int, y_ = (([(bf l0 bH).f0] : List Int)) := ⟨_, rfl⟩
      replace H : (if bG.length + gy.length < 17592186044416 then ((some (([(bf l0 bH).f1] : List Int) : List Int)).bind fun lV => (if fP.length + lV.length < 17592186044416 then (pairs_Unzip_uint64.l0 k1 (bG ++ gy) (fP ++ lV) l0 (l0.length : Int) (wrap64 (bH + 1))) else (none))) else (none)) = some (r1, r2, r3) := by first | (rw [jY]; with_reducible exact H) | (have jA := (Option.bind_some _ _).symm.trans H; rw [jY]; with_reducible exact jA) | (have jA := (Option.bind_some _ _).symm.trans H; with_reducible exact jA) | with_reducible exact H | (rw [jY]; exact H) | exact H
      have sN := ah jY
      clear jY
      by_cases c5 : bG.length + gy.length < 17592186044416
      ·rw [if_pos c5] at H
       have Es := ah c5
       clear c5
       obtain ⟨xJ, sQ⟩ : ∃ y_ : List Int, y_ = (bG ++ gy) := ⟨_, rfl⟩
       replace H : ((some (([(bf l0 bH).f1] : List Int) : List Int)).bind fun lV => (if fP.length + lV.length < 17592186044416 then (pairs_Unzip_uint64.l0 k1 xJ (fP ++ lV) l0 (l0.length : Int) (wrap64 (bH + 1))) else (none))) = some (r1, r2, r3) := by first | (rw [sQ]; with_reducible exact H) | (have jA := (Option.bind_some _ _).symm.trans H; rw [sQ]; with_reducible exact jA) | (have jA := (Option.bind_some _ _).symm.trans H; with_reducible exact jA) | with_reducible exact H | (rw [sQ]; exact H) | exact H
       have AL := ah sQ
       clear sQ
       obtain ⟨lV, nP⟩ : ∃ y_ : List Int, y_ = (([(bf l0 bH).f1] : List Int)) := ⟨_, rfl⟩
       replace H : (if fP.length + lV.length < 17592186044416 then (pairs_Unzip_uint64.l0 k1 xJ (fP ++ lV) l0 (l0.length : Int) (wrap64 (bH + 1))) else (none)) = some (r1, r2, r3) := by first | (rw [nP]; with_reducible exact H) | (have jA := (Option.bind_some _ _).symm.trans H; rw [nP]; with_reducible exact jA) | (have jA := (Option.bind_some _ _).symm.trans H; with_reducible exact jA) | with_reducible exact H | (rw [nP]; exact H) | exact H
       have pF := ah nP
       clear nP
       by_cases c6 : fP.length + lV.length < 17592186044416
       ·rw [if_pos c6] at H
        have WX := ah c6
        clear c6
        obtain ⟨y112, hy112⟩ : ∃ y_ : List Int, y_ = (fP ++ lV) := ⟨_, rfl⟩
        replace H : (pairs_Unzip_uint64.l0 k1 xJ y112 l0 (l0.length : Int) (wrap64 (bH + 1))) = some (r1, r2, r3) := by first | (rw [hy112]; with_reducible exact H) | (have jA := (Option.bind_some _ _).symm.trans H; rw [hy112]; with_reducible exact jA) | (have jA := (Option.bind_some _ _).symm.trans H; with_reducible exact jA) | with_reducible exact H | (rw [hy112]; exact H) | exact H
        have JZ := ah hy112
        clear hy112
        have H' := ah H
        clear H
        have fC : 0 ≤ (bH : Int) := ahF (by assumption)
        have fD : bH < (l0.length : Int) := ahF (by assumption)
        obtain ⟨kE, jM, bW, dS⟩ := vX HR0.out bH fC fD
        cases jM
        replace bW := (HB.out.cell (World.block_lt_of_cell? w _ bW)).trans bW
        replace dS := (HB.out.cell (World.block_lt_of_cell? w _ dS)).trans dS
        replace fC := eq_true fC
        replace fD := eq_true fD
        try go_wp2_with (first | ((with_reducible refine fK (N := 8) rfl ?_); refine fA ?hg (N := 8) ?hd (cs := #[.int .i64 0, .int .u64 0]) (t := 192) ?hr ?_; (case hd => rfl); (case hg => rfl); (case hr => first | (go_simp; done) | (go_simp; rfl)); intro aI hg w7 hbox hb; have aJ := ah (hbox); have oN := ah ((by rw [hg]; exact (aQ (bg HB.out)) : w.heap.size ≤ aI)); have bU := ah ((by rw [hg]; exact (aQ (bg HB.out)) : w.heap.size ≤ aI)); replace HO_5 := ah (Kd.lu HO_5.out hb); replace HO_6 := ah (Kd.lu HO_6.out hb); replace HB := ah (aZ (bg HB.out) hb); clear hb hbox hg; have Ru := au aJ.out; have Rw := aC aJ.out; obtain ⟨JI, Jc, Rx⟩ := Kd.dw HO_5.out; subst Rx; obtain ⟨tK, tN, Kv⟩ := Kd.dw HO_6.out; subst Kv))
        have fZ : aj (Kd.R (Kd.int .i64) 3 ((w7.setCell ⟨aI, 0, none⟩ (.int .i64 ((bf l0 bH).f0))).setCell ⟨aI, 1, none⟩ (.int .u64 ((bf l0 bH).f1))) w.heap.size (fun _ => True) (.slice JI bG.length Jc) bG) := ⟨by (repeat with_reducible refine Kd.kQ ?_); exact Kd.bZ (Kd.cu (p := ⟨aI, 1, none⟩) (Kd.cu (p := ⟨aI, 0, none⟩) (Kd.iH HO_5.out aJ.out (by decide)) (fun _ hk => hk.2) (.int .i64 ((bf l0 bH).f0))) (fun _ hk => hk.2) (.int .u64 ((bf l0 bH).f1))) (fun _ hk => trivial)⟩
        have gG : aj (Kd.R (Kd.int .u64) 25 ((w7.setCell ⟨aI, 0, none⟩ (.int .i64 ((bf l0 bH).f0))).setCell ⟨aI, 1, none⟩ (.int .u64 ((bf l0 bH).f1))) w.heap.size (fun _ => True) (.slice tK fP.length tN) fP) := ⟨by (repeat with_reducible refine Kd.kQ ?_); exact Kd.bZ (Kd.cu (p := ⟨aI, 1, none⟩) (Kd.cu (p := ⟨aI, 0, none⟩) (Kd.iH HO_6.out aJ.out (by decide)) (fun _ hk => hk.2) (.int .i64 ((bf l0 bH).f0))) (fun _ hk => hk.2) (.int .u64 ((bf l0 bH).f1))) (fun _ hk => trivial)⟩
        have iC : aj (((w7.setCell ⟨aI, 0, none⟩ (.int .i64 ((bf l0 bH).f0))).setCell ⟨aI, 1, none⟩ (.int .u64 ((bf l0 bH).f1))).heap[aI]? = some (.cells #[.int .i64 ((bf l0 bH).f0), .int .u64 ((bf l0 bH).f1)] 192 (0, 0))) := ⟨by (repeat with_reducible refine bQ ?_); refine bC (cs := #[.int .i64 ((bf l0 bH).f0), .int .u64 0]) ?_ 1 _ rfl; (repeat with_reducible refine bQ ?_); refine bC (cs := #[.int .i64 0, .int .u64 0]) ?_ 0 _ rfl; (repeat with_reducible refine bQ ?_); exact aJ.out⟩
        have jg : aj (Below w.heap.size w ((w7.setCell ⟨aI, 0, none⟩ (.int .i64 ((bf l0 bH).f0))).setCell ⟨aI, 1, none⟩ (.int .u64 ((bf l0 bH).f1)))) := ⟨by repeat (first | (with_reducible first | exact HB.out | apply ak | apply ay | apply aH | refine aA ?_ bU.out) | exact HB.out)⟩
        (try clear HO_5)
        (try clear HO_6)
        (try clear aJ)
        (try clear HB)
        generalize ((w7.setCell ⟨aI, 0, none⟩ (.int .i64 ((bf l0 bH).f0))).setCell ⟨aI, 1, none⟩ (.int .u64 ((bf l0 bH).f1))) = VF at fZ gG iC jg ⊢
        have HO_5 := fZ
        have HO_6 := gG
        have aJ := iC
        have HB := jg
        clear fZ gG iC jg
        have fZ := ah (Kd.qB HO_5.out)
        have gG := ah (Kd.qB HO_6.out)
        have iC := ah (kP aJ.out)
        have jg := ah (aH HB.out)
        clear HO_5
        clear HO_6
        clear aJ
        clear HB
        have HO_5 := fZ
        have HO_6 := gG
        have aJ := iC
        have HB := jg
        clear fZ gG iC jg
        refine uX (n := 12) (S := fun w' => w'.cell? ⟨aI, 0, none⟩ = some (.int .i64 ((bf l0 bH).f0)) ∧ w'.cell? ⟨aI, 1, none⟩ = some (.int .u64 ((bf l0 bH).f1))) (ds := []) #[false, false, false, false, false, false, false, false, false, false, false, false] (by kernel_rfl) rfl rfl ⟨(au aJ.out 0).trans rfl, (au aJ.out 1).trans rfl⟩ (fun hHeld => ?_); refine mQ pairs_Unzip_uint64.tab6 pairs_Unzip_uint64.Hg (fun HT_ HW_ => ?_)
        generalize VF.drew = w12 at HO_5 HO_6 aJ HB hHeld ⊢
        refine dX (i := 0) (N := some 17) (v := ?_) (a' := ?_) #[true, false, false, false, false, false, false, false, false, false, false, false] rfl rfl (dD HT_.out (by kernel_rfl)) (fun _ _ _ h => h) (Or.inl ⟨by rfl, ?_⟩) ?_ ?_
        rotate_left
        ·intro w'
         go_simp
         with_reducible rfl
        rotate_left
        ·simp only [Act.put, List.setIfInBounds_toArray, List.set_cons_zero, List.set_cons_succ, bI, bM]
         rfl
        refine dX (i := 1) (N := some 18) (v := ?_) (a' := ?_) #[true, true, false, false, false, false, false, false, false, false, false, false] rfl rfl (dD HT_.out (by kernel_rfl)) (fun _ _ _ h => h) (Or.inl ⟨by rfl, ?_⟩) ?_ ?_
        rotate_left
        ·intro w'
         go_simp
         with_reducible rfl
        rotate_left
        ·simp only [Act.put, List.setIfInBounds_toArray, List.set_cons_zero, List.set_cons_succ, bI, bM]
         rfl
        refine dX (i := 5) (N := some 22) (v := ?_) (a' := ?_) #[true, true, false, false, false, true, false, false, false, false, false, false] rfl rfl (dD HT_.out (by kernel_rfl)) (fun _ _ _ h => h) (Or.inl ⟨by rfl, ?_⟩) ?_ ?_
        rotate_left
        ·intro w'
         go_simp
         with_reducible rfl
        rotate_left
        ·simp only [Act.put, List.setIfInBounds_toArray, List.set_cons_zero, List.set_cons_succ, bI, bM]
         rfl
        refine dX (i := 6) (N := some 23) (v := ?_) (a' := ?_) #[true, true, false, false, false, true, true, false, false, false, false, false] rfl rfl (dD HT_.out (by kernel_rfl)) (fun _ _ _ h => h) (Or.inl ⟨by rfl, ?_⟩) ?_ ?_
        rotate_left
        ·intro w'
         go_simp
         with_reducible rfl
        rotate_left
        ·simp only [Act.put, List.setIfInBounds_toArray, List.set_cons_zero, List.set_cons_succ, bI, bM]
         rfl
        refine jT (i := 2) (N := some 19) (v := ?_) (a' := ?_) #[true, true, true, false, false, true, true, false, false, false, false, false] rfl rfl (fM HT_.out HW_.out (by kernel_rfl)) (fun _ _ _ h => h) (Or.inl ⟨by rfl, ?_⟩) hHeld ?_ ?_
        rotate_left
        ·rintro w' ⟨s0, s1⟩
         go_simp
         with_reducible rfl
        rotate_left
        ·simp only [Act.put, List.setIfInBounds_toArray, List.set_cons_zero, List.set_cons_succ, bI, bM]
         rfl
        refine jT (i := 7) (N := some 24) (v := ?_) (a' := ?_) #[true, true, true, false, false, true, true, true, false, false, false, false] rfl rfl (fM HT_.out HW_.out (by kernel_rfl)) (fun _ _ _ h => h) (Or.inl ⟨by rfl, ?_⟩) hHeld ?_ ?_
        rotate_left
        ·rintro w' ⟨s0, s1⟩
         go_simp
         with_reducible rfl
        rotate_left
        ·simp only [Act.put, List.setIfInBounds_toArray, List.set_cons_zero, List.set_cons_succ, bI, bM]
         rfl
        refine Vl (σ := Value × Value × Value) 3 #[true, true, true, true, true, true, true, true, true, false, false, false] (fun s_ => [(20, s_.1), (21, s_.2.1), (25, s_.2.2)]) (fun s_ w' => (w'.cell? ⟨aI, 0, none⟩ = some (.int .i64 ((bf l0 bH).f0)) ∧ w'.cell? ⟨aI, 1, none⟩ = some (.int .u64 ((bf l0 bH).f1))) ∧ (Kd.R (Kd.int .i64) 3 w' w.heap.size (fun k_ => some k_ ≠ (s_.2.1 : Value).ownBlock) s_.1 gy) ∧ (Kd.R (Kd.int .i64) 3 w' w.heap.size (fun k_ => some k_ ≠ (s_.1 : Value).ownBlock) s_.2.1 xJ) ∧ (Kd.R (Kd.int .u64) 25 w' w.heap.size (fun k_ => some k_ ≠ (.slice tK fP.length tN : Value).ownBlock) s_.2.2 lV) ∧ (Kd.R (Kd.int .u64) 25 w' w.heap.size (fun k_ => some k_ ≠ (s_.2.2 : Value).ownBlock) (.slice tK fP.length tN) fP) ∧ (w'.heap[aI]? = some (.cells #[.int .i64 ((bf l0 bH).f0), .int .u64 ((bf l0 bH).f1)] 192 (0, 0))) ∧ (Below w.heap.size w w')) ?_ ?_
        rotate_left
        ·intro hCont
         refine TY (i := 3) (j := 8) (Ni := some 20) (Nj := some 25) #[true, true, true, true, false, true, true, true, false, false, false, false] #[true, true, true, false, false, true, true, true, true, false, false, false] rfl rfl rfl rfl (IG HT_.out (by kernel_rfl)) (by decide) (by decide) (fun K hK => ?_) (fun K hK => ?_)
         ·skip
          refine Kd.lF (Kd.int .i64) _ 3 ?hg (N := 20) ?hd (xs := ([(bf l0 bH).f0] : List Int)) (inner := [.int .i64 ((bf l0 bH).f0)]) (ok := fun _ => True) (okp := fun _ => True) ?hr ?hp (fun _ hk => hk) trivial (Below.refl _ _) (Nat.le_refl _) (by simp) ?_; (case hd => rfl); (case hg => rfl); (case hr => first | (go_simp; done) | (go_simp; rfl)); (case hp => exact (jl.one (show Kd.M (Kd.int .i64) _ _ _ ((bf l0 bH).f0) [.int .i64 ((bf l0 bH).f0)] from rfl) (jl.none _ _)))
          intro xH Rt rW hb hg_ hnew_
          clear hg_ hnew_
          (first | rw [← sN.out] at rW | (simp only [Int.reduceToNat] at rW; rw [← sN.out] at rW))
          have fZ := ah (Kd.fV (Kd.fJ HO_5.out) (Kd.iI rW) hb)
          have gG := ah (Kd.lu HO_6.out hb)
          have iC := ah (Kd.dh (Kd.jh rW (Kd.kW (Kd.fJ HO_5.out))) (aQ (by repeat (first | (with_reducible first | exact HB.out | refine bJ ?_ | refine aA ?_ bU.out) | exact HB.out))))
          have jg := ah (eH aJ.out hb)
          have kF := ah (aZ (by repeat (first | (with_reducible first | exact HB.out | refine bJ ?_ | refine aA ?_ bU.out) | exact HB.out)) hb)
          clear HO_5
          clear HO_6
          clear aJ
          clear HB
          have HO_5 := fZ
          have HO_6 := gG
          have eF := iC
          have aJ := jg
          have HB := kF
          clear fZ gG iC jg kF
          clear hb rW
          obtain ⟨Nq, Kw, Jd⟩ := Kd.dw eF.out
          (first | subst Jd | (injection Jd with pG uY pI; have uZ := pG.symm; have vg := pI.symm; clear pG uY pI; subst uZ; subst vg))
          refine hK.out _ _ ⟨(au aJ.out 0).trans rfl, (au aJ.out 1).trans rfl⟩ (fun hHeld => ?_)
          clear hK K
          refine jo (a' := ?_) ?_ ?_
          rotate_left
          ·show Act.put _ (some 20) _ = _
           simp only [Act.put, List.setIfInBounds_toArray, List.set_cons_zero, List.set_cons_succ, bI, bM]
           rfl
          refine TY (i := 4) (j := 8) (Ni := some 21) (Nj := some 25) #[true, true, true, true, true, true, true, true, false, false, false, false] #[true, true, true, true, false, true, true, true, true, false, false, false] rfl rfl rfl rfl (IG HT_.out (by kernel_rfl)) (by decide) (by decide) (fun K hK => ?_) (fun K hK => ?_)
          ·skip
           refine Kd.ji (Kd.int .i64) (w0 := w) w.heap.size (by rfl) (.tmp 17) (.tmp 20) 30 3 (.int .i64 0) 8 rfl Try.underlying30 info3 rfl (by decide) (by omega) (.slice JI bG.length Jc) bG gy _ _ _ (fun k_ => some k_ ≠ (.slice Nq gy.length Kw : Value).ownBlock) (fun _ => False) rfl rfl ?aO ?aR (fun _ _ h => h) (fun _ h => h.elim) ?aF ?aB ?aS ?aL ?_
           (case aR => exact Kd.jV (Kd.bF eF.out).2.2)
           (case aB => exact (by repeat (first | (with_reducible first | exact HB.out | refine bJ ?_ | refine aA ?_ bU.out) | exact HB.out)))
           (case aF => exact (fun k_ hk => Kd.fresh' (Kd.kW (Kd.fJ eF.out)) k_ hk))
           (case aO => exact (Kd.fJ (Kd.bZ HO_5.out (fun _ hk => hk.2))))
           (case aS => exact (aQ (by repeat (first | (with_reducible first | exact HB.out | refine bJ ?_ | refine aA ?_ bU.out) | exact HB.out))))
           (case aL => have := Es.out; omega)
           intro v107 DF ho hb hg hat
           rw [← AL.out] at ho
           have fZ := ah (Kd.jG (Kd.fJ HO_6.out) (Kd.jF (Kd.fJ HO_5.out)) (by decide) hg)
           have gG := ah (jc (g := aI) (o := .cells #[.int .i64 ((bf l0 bH).f0), .int .u64 ((bf l0 bH).f1)] 192 (0, 0)) (jJ aJ.out) hg (Kd.BI HO_5.out aJ.out (by decide)))
           have iC := ah (Kd.qA (ok := (fun _ => True)) (Kd.fJ eF.out) hg hat)
           have jg := ah (hb)
           have kF := ah (ho)
           clear HO_6
           clear aJ
           clear eF
           clear HB
           clear HO_5
           have HO_6 := fZ
           have aJ := gG
           have eF := iC
           have HB := jg
           have iQ := kF
           clear fZ gG iC jg kF
           clear ho hb hg hat
           refine hK.out _ _ ⟨(au aJ.out 0).trans rfl, (au aJ.out 1).trans rfl⟩ (fun hHeld => ?_)
           clear hK K
           refine jo (a' := ?_) ?_ ?_
           rotate_left
           ·show Act.put _ (some 21) _ = _
            simp only [Act.put, List.setIfInBounds_toArray, List.set_cons_zero, List.set_cons_succ, bI, bM]
            rfl
           refine o9 (i := 8) (N := some 25) #[true, true, true, true, true, true, true, true, true, false, false, false] rfl rfl (jD HT_.out (by kernel_rfl)) (by decide) (fun K hK => ?_)
           refine Kd.lF (Kd.int .u64) _ 25 ?hg (N := 25) ?hd (xs := ([(bf l0 bH).f1] : List Int)) (inner := [.int .u64 ((bf l0 bH).f1)]) (ok := fun _ => True) (okp := fun _ => True) ?hr ?hp (fun _ hk => hk) trivial (Below.refl _ _) (Nat.le_refl _) (by simp) ?_; (case hd => rfl); (case hg => rfl); (case hr => first | (go_simp; done) | (go_simp; rfl)); (case hp => exact (jl.one (show Kd.M (Kd.int .u64) _ _ _ ((bf l0 bH).f1) [.int .u64 ((bf l0 bH).f1)] from rfl) (jl.none _ _)))
           intro qw VG BX hb hg_ hnew_
           clear hg_ hnew_
           (first | rw [← pF.out] at BX | (simp only [Int.reduceToNat] at BX; rw [← pF.out] at BX))
           have fZ := ah (Kd.fV (Kd.fJ HO_6.out) (Kd.iI BX) hb)
           have gG := ah (Kd.lu eF.out hb)
           have iC := ah (Kd.lu iQ.out hb)
           have jg := ah (Kd.dh (Kd.jh BX (Kd.kW (Kd.fJ HO_6.out))) (aQ (by repeat (first | (with_reducible first | exact HB.out | refine bJ ?_ | refine aA ?_ bU.out) | exact HB.out))))
           have kF := ah (eH aJ.out hb)
           have mJ := ah (aZ (by repeat (first | (with_reducible first | exact HB.out | refine bJ ?_ | refine aA ?_ bU.out) | exact HB.out)) hb)
           clear HO_6
           clear eF
           clear iQ
           clear aJ
           clear HB
           have HO_6 := fZ
           have eF := gG
           have iQ := iC
           have eu := jg
           have aJ := kF
           have HB := mJ
           clear fZ gG iC jg kF mJ
           clear hb BX
           refine hK.out _ _ ⟨(au aJ.out 0).trans rfl, (au aJ.out 1).trans rfl⟩ (fun hHeld => ?_)
           clear hK K
           refine jo (a' := ?_) ?_ ?_
           rotate_left
           ·show Act.put _ (some 25) _ = _
            simp only [Act.put, List.setIfInBounds_toArray, List.set_cons_zero, List.set_cons_succ, bI, bM]
            rfl
           exact jo (by simp only [tZ, Act.put, List.setIfInBounds_toArray, List.set_cons_zero, List.set_cons_succ]) (hCont (.slice Nq gy.length Kw, v107, qw) _ ⟨hHeld, (Kd.fJ (Kd.bZ eF.out (fun _ hk => hk.2))), (Kd.fJ iQ.out), (Kd.fJ (Kd.bZ eu.out (fun _ hk => hk.2))), (Kd.fJ (Kd.bZ HO_6.out (fun _ hk => hk.2))), (jJ aJ.out), (by repeat (first | (with_reducible first | exact HB.out | refine bJ ?_ | refine aA ?_ bU.out) | exact HB.out))⟩)
          skip
          refine Kd.lF (Kd.int .u64) _ 25 ?hg (N := 25) ?hd (xs := ([(bf l0 bH).f1] : List Int)) (inner := [.int .u64 ((bf l0 bH).f1)]) (ok := fun _ => True) (okp := fun _ => True) ?hr ?hp (fun _ hk => hk) trivial (Below.refl _ _) (Nat.le_refl _) (by simp) ?_; (case hd => rfl); (case hg => rfl); (case hr => first | (go_simp; done) | (go_simp; rfl)); (case hp => exact (jl.one (show Kd.M (Kd.int .u64) _ _ _ ((bf l0 bH).f1) [.int .u64 ((bf l0 bH).f1)] from rfl) (jl.none _ _)))
          intro qw DF rX hb hg_ hnew_
          clear hg_ hnew_
          (first | rw [← pF.out] at rX | (simp only [Int.reduceToNat] at rX; rw [← pF.out] at rX))
          have fZ := ah (Kd.lu HO_5.out hb)
          have gG := ah (Kd.fV (Kd.fJ HO_6.out) (Kd.iI rX) hb)
          have iC := ah (Kd.lu eF.out hb)
          have jg := ah (Kd.dh (Kd.jh rX (Kd.kW (Kd.fJ HO_6.out))) (aQ (by repeat (first | (with_reducible first | exact HB.out | refine bJ ?_ | refine aA ?_ bU.out) | exact HB.out))))
          have kF := ah (eH aJ.out hb)
          have mJ := ah (aZ (by repeat (first | (with_reducible first | exact HB.out | refine bJ ?_ | refine aA ?_ bU.out) | exact HB.out)) hb)
          clear HO_5
          clear HO_6
          clear eF
          clear aJ
          clear HB
          have HO_5 := fZ
          have HO_6 := gG
          have eF := iC
          have eu := jg
          have aJ := kF
          have HB := mJ
          clear fZ gG iC jg kF mJ
          clear hb rX
          obtain ⟨Et, Eu, Ew⟩ := Kd.dw eF.out
          (first | subst Ew | (injection Ew with pG uY pI; have uZ := pG.symm; have vg := pI.symm; clear pG uY pI; subst uZ; subst vg))
          refine hK.out _ _ ⟨(au aJ.out 0).trans rfl, (au aJ.out 1).trans rfl⟩ (fun hHeld => ?_)
          clear hK K
          refine jo (a' := ?_) ?_ ?_
          rotate_left
          ·show Act.put _ (some 25) _ = _
           simp only [Act.put, List.setIfInBounds_toArray, List.set_cons_zero, List.set_cons_succ, bI, bM]
           rfl
          refine o9 (i := 4) (N := some 21) #[true, true, true, true, true, true, true, true, true, false, false, false] rfl rfl (jD HT_.out (by kernel_rfl)) (by decide) (fun K hK => ?_)
          refine Kd.ji (Kd.int .i64) (w0 := w) w.heap.size (by rfl) (.tmp 17) (.tmp 20) 30 3 (.int .i64 0) 8 rfl Try.underlying30 info3 rfl (by decide) (by omega) (.slice JI bG.length Jc) bG gy _ _ _ (fun k_ => some k_ ≠ (.slice Et gy.length Eu : Value).ownBlock) (fun _ => False) rfl rfl ?aO ?aR (fun _ _ h => h) (fun _ h => h.elim) ?aF ?aB ?aS ?aL ?_
          (case aR => exact Kd.jV (Kd.bF eF.out).2.2)
          (case aB => exact (by repeat (first | (with_reducible first | exact HB.out | refine bJ ?_ | refine aA ?_ bU.out) | exact HB.out)))
          (case aF => exact (fun k_ hk => Kd.fresh' (Kd.kW (Kd.fJ eF.out)) k_ hk))
          (case aO => exact (Kd.fJ (Kd.bZ HO_5.out (fun _ hk => hk.2))))
          (case aS => exact (aQ (by repeat (first | (with_reducible first | exact HB.out | refine bJ ?_ | refine aA ?_ bU.out) | exact HB.out))))
          (case aL => have := Es.out; omega)
          intro v107 VG ho hb hg hat
          rw [← AL.out] at ho
          have fZ := ah (Kd.jG (Kd.fJ HO_6.out) (Kd.jF (Kd.fJ HO_5.out)) (by decide) hg)
          have gG := ah (jc (g := aI) (o := .cells #[.int .i64 ((bf l0 bH).f0), .int .u64 ((bf l0 bH).f1)] 192 (0, 0)) (jJ aJ.out) hg (Kd.BI HO_5.out aJ.out (by decide)))
          have iC := ah (Kd.qA (ok := (fun _ => True)) (Kd.fJ eF.out) hg hat)
          have jg := ah (Kd.jG (Kd.fJ eu.out) (Kd.jF (Kd.fJ HO_5.out)) (by decide) hg)
          have kF := ah (hb)
          have mJ := ah (ho)
          clear HO_6
          clear aJ
          clear eF
          clear eu
          clear HB
          clear HO_5
          have HO_6 := fZ
          have aJ := gG
          have eF := iC
          have eu := jg
          have HB := kF
          have iQ := mJ
          clear fZ gG iC jg kF mJ
          clear ho hb hg hat
          refine hK.out _ _ ⟨(au aJ.out 0).trans rfl, (au aJ.out 1).trans rfl⟩ (fun hHeld => ?_)
          clear hK K
          refine jo (a' := ?_) ?_ ?_
          rotate_left
          ·show Act.put _ (some 21) _ = _
           simp only [Act.put, List.setIfInBounds_toArray, List.set_cons_zero, List.set_cons_succ, bI, bM]
           rfl
          exact jo (by simp only [tZ, Act.put, List.setIfInBounds_toArray, List.set_cons_zero, List.set_cons_succ]) (hCont (.slice Et gy.length Eu, v107, qw) _ ⟨hHeld, (Kd.fJ (Kd.bZ eF.out (fun _ hk => hk.2))), (Kd.fJ iQ.out), (Kd.fJ (Kd.bZ eu.out (fun _ hk => hk.2))), (Kd.fJ (Kd.bZ HO_6.out (fun _ hk => hk.2))), (jJ aJ.out), (by repeat (first | (with_reducible first | exact HB.out | refine bJ ?_ | refine aA ?_ bU.out) | exact HB.out))⟩)
         skip
         refine Kd.lF (Kd.int .u64) _ 25 ?hg (N := 25) ?hd (xs := ([(bf l0 bH).f1] : List Int)) (inner := [.int .u64 ((bf l0 bH).f1)]) (ok := fun _ => True) (okp := fun _ => True) ?hr ?hp (fun _ hk => hk) trivial (Below.refl _ _) (Nat.le_refl _) (by simp) ?_; (case hd => rfl); (case hg => rfl); (case hr => first | (go_simp; done) | (go_simp; rfl)); (case hp => exact (jl.one (show Kd.M (Kd.int .u64) _ _ _ ((bf l0 bH).f1) [.int .u64 ((bf l0 bH).f1)] from rfl) (jl.none _ _)))
         intro qw Rt rW hb hg_ hnew_
         clear hg_ hnew_
         (first | rw [← pF.out] at rW | (simp only [Int.reduceToNat] at rW; rw [← pF.out] at rW))
         have fZ := ah (Kd.lu HO_5.out hb)
         have gG := ah (Kd.fV (Kd.fJ HO_6.out) (Kd.iI rW) hb)
         have iC := ah (Kd.dh (Kd.jh rW (Kd.kW (Kd.fJ HO_6.out))) (aQ (by repeat (first | (with_reducible first | exact HB.out | refine bJ ?_ | refine aA ?_ bU.out) | exact HB.out))))
         have jg := ah (eH aJ.out hb)
         have kF := ah (aZ (by repeat (first | (with_reducible first | exact HB.out | refine bJ ?_ | refine aA ?_ bU.out) | exact HB.out)) hb)
         clear HO_5
         clear HO_6
         clear aJ
         clear HB
         have HO_5 := fZ
         have HO_6 := gG
         have eu := iC
         have aJ := jg
         have HB := kF
         clear fZ gG iC jg kF
         clear hb rW
         refine hK.out _ _ ⟨(au aJ.out 0).trans rfl, (au aJ.out 1).trans rfl⟩ (fun hHeld => ?_)
         clear hK K
         refine jo (a' := ?_) ?_ ?_
         rotate_left
         ·show Act.put _ (some 25) _ = _
          simp only [Act.put, List.setIfInBounds_toArray, List.set_cons_zero, List.set_cons_succ, bI, bM]
          rfl
         refine o9 (i := 3) (N := some 20) #[true, true, true, true, false, true, true, true, true, false, false, false] rfl rfl (jD HT_.out (by kernel_rfl)) (by decide) (fun K hK => ?_)
         refine Kd.lF (Kd.int .i64) _ 3 ?hg (N := 20) ?hd (xs := ([(bf l0 bH).f0] : List Int)) (inner := [.int .i64 ((bf l0 bH).f0)]) (ok := fun _ => True) (okp := fun _ => True) ?hr ?hp (fun _ hk => hk) trivial (Below.refl _ _) (Nat.le_refl _) (by simp) ?_; (case hd => rfl); (case hg => rfl); (case hr => first | (go_simp; done) | (go_simp; rfl)); (case hp => exact (jl.one (show Kd.M (Kd.int .i64) _ _ _ ((bf l0 bH).f0) [.int .i64 ((bf l0 bH).f0)] from rfl) (jl.none _ _)))
         intro xH DF rX hb hg_ hnew_
         clear hg_ hnew_
         (first | rw [← sN.out] at rX | (simp only [Int.reduceToNat] at rX; rw [← sN.out] at rX))
         have fZ := ah (Kd.fV (Kd.fJ HO_5.out) (Kd.iI rX) hb)
         have gG := ah (Kd.lu HO_6.out hb)
         have iC := ah (Kd.lu eu.out hb)
         have jg := ah (Kd.dh (Kd.jh rX (Kd.kW (Kd.fJ HO_5.out))) (aQ (by repeat (first | (with_reducible first | exact HB.out | refine bJ ?_ | refine aA ?_ bU.out) | exact HB.out))))
         have kF := ah (eH aJ.out hb)
         have mJ := ah (aZ (by repeat (first | (with_reducible first | exact HB.out | refine bJ ?_ | refine aA ?_ bU.out) | exact HB.out)) hb)
         clear HO_5
         clear HO_6
         clear eu
         clear aJ
         clear HB
         have HO_5 := fZ
         have HO_6 := gG
         have eu := iC
         have eF := jg
         have aJ := kF
         have HB := mJ
         clear fZ gG iC jg kF mJ
         clear hb rX
         obtain ⟨Et, Eu, Ew⟩ := Kd.dw eF.out
         (first | subst Ew | (injection Ew with pG uY pI; have uZ := pG.symm; have vg := pI.symm; clear pG uY pI; subst uZ; subst vg))
         refine hK.out _ _ ⟨(au aJ.out 0).trans rfl, (au aJ.out 1).trans rfl⟩ (fun hHeld => ?_)
         clear hK K
         refine jo (a' := ?_) ?_ ?_
         rotate_left
         ·show Act.put _ (some 20) _ = _
          simp only [Act.put, List.setIfInBounds_toArray, List.set_cons_zero, List.set_cons_succ, bI, bM]
          rfl
         refine o9 (i := 4) (N := some 21) #[true, true, true, true, true, true, true, true, true, false, false, false] rfl rfl (jD HT_.out (by kernel_rfl)) (by decide) (fun K hK => ?_)
         refine Kd.ji (Kd.int .i64) (w0 := w) w.heap.size (by rfl) (.tmp 17) (.tmp 20) 30 3 (.int .i64 0) 8 rfl Try.underlying30 info3 rfl (by decide) (by omega) (.slice JI bG.length Jc) bG gy _ _ _ (fun k_ => some k_ ≠ (.slice Et gy.length Eu : Value).ownBlock) (fun _ => False) rfl rfl ?aO ?aR (fun _ _ h => h) (fun _ h => h.elim) ?aF ?aB ?aS ?aL ?_
         (case aR => exact Kd.jV (Kd.bF eF.out).2.2)
         (case aB => exact (by repeat (first | (with_reducible first | exact HB.out | refine bJ ?_ | refine aA ?_ bU.out) | exact HB.out)))
         (case aF => exact (fun k_ hk => Kd.fresh' (Kd.kW (Kd.fJ eF.out)) k_ hk))
         (case aO => exact (Kd.fJ (Kd.bZ HO_5.out (fun _ hk => hk.2))))
         (case aS => exact (aQ (by repeat (first | (with_reducible first | exact HB.out | refine bJ ?_ | refine aA ?_ bU.out) | exact HB.out))))
         (case aL => have := Es.out; omega)
         intro v107 VG ho hb hg hat
         rw [← AL.out] at ho
         have fZ := ah (Kd.jG (Kd.fJ HO_6.out) (Kd.jF (Kd.fJ HO_5.out)) (by decide) hg)
         have gG := ah (jc (g := aI) (o := .cells #[.int .i64 ((bf l0 bH).f0), .int .u64 ((bf l0 bH).f1)] 192 (0, 0)) (jJ aJ.out) hg (Kd.BI HO_5.out aJ.out (by decide)))
         have iC := ah (Kd.jG (Kd.fJ eu.out) (Kd.jF (Kd.fJ HO_5.out)) (by decide) hg)
         have jg := ah (Kd.qA (ok := (fun _ => True)) (Kd.fJ eF.out) hg hat)
         have kF := ah (hb)
         have mJ := ah (ho)
         clear HO_6
         clear aJ
         clear eu
         clear eF
         clear HB
         clear HO_5
         have HO_6 := fZ
         have aJ := gG
         have eu := iC
         have eF := jg
         have HB := kF
         have iQ := mJ
         clear fZ gG iC jg kF mJ
         clear ho hb hg hat
         refine hK.out _ _ ⟨(au aJ.out 0).trans rfl, (au aJ.out 1).trans rfl⟩ (fun hHeld => ?_)
         clear hK K
         refine jo (a' := ?_) ?_ ?_
         rotate_left
         ·show Act.put _ (some 21) _ = _
          simp only [Act.put, List.setIfInBounds_toArray, List.set_cons_zero, List.set_cons_succ, bI, bM]
          rfl
         exact jo (by simp only [tZ, Act.put, List.setIfInBounds_toArray, List.set_cons_zero, List.set_cons_succ]) (hCont (.slice Et gy.length Eu, v107, qw) _ ⟨hHeld, (Kd.fJ (Kd.bZ eF.out (fun _ hk => hk.2))), (Kd.fJ iQ.out), (Kd.fJ (Kd.bZ eu.out (fun _ hk => hk.2))), (Kd.fJ (Kd.bZ HO_6.out (fun _ hk => hk.2))), (jJ aJ.out), (by repeat (first | (with_reducible first | exact HB.out | refine bJ ?_ | refine aA ?_ bU.out) | exact HB.out))⟩)
        rintro ⟨xH, v107, qw⟩ zo ⟨hS_, Zl, Zm, Zn, Zo, Zp, Zq⟩
        have fZ : aj (Kd.R (Kd.int .i64) 3 zo w.heap.size (fun k_ => some k_ ≠ (v107 : Value).ownBlock) xH gy) := ⟨Zl⟩
        have gG : aj (Kd.R (Kd.int .i64) 3 zo w.heap.size (fun k_ => some k_ ≠ (xH : Value).ownBlock) v107 xJ) := ⟨Zm⟩
        have iC : aj (Kd.R (Kd.int .u64) 25 zo w.heap.size (fun k_ => some k_ ≠ (.slice tK fP.length tN : Value).ownBlock) qw lV) := ⟨Zn⟩
        have jg : aj (Kd.R (Kd.int .u64) 25 zo w.heap.size (fun k_ => some k_ ≠ (qw : Value).ownBlock) (.slice tK fP.length tN) fP) := ⟨Zo⟩
        have kF : aj (zo.heap[aI]? = some (.cells #[.int .i64 ((bf l0 bH).f0), .int .u64 ((bf l0 bH).f1)] 192 (0, 0))) := ⟨Zp⟩
        have mJ : aj (Below w.heap.size w zo) := ⟨Zq⟩
        clear HO_5
        clear HO_6
        clear aJ
        clear HB
        clear Zl Zm Zn Zo Zp Zq
        have eF := fZ
        have iQ := gG
        have eu := iC
        have HO_6 := jg
        have aJ := kF
        have HB := mJ
        clear fZ gG iC jg kF mJ
        have hHeld : zo.cell? ⟨aI, 0, none⟩ = some (.int .i64 ((bf l0 bH).f0)) ∧ zo.cell? ⟨aI, 1, none⟩ = some (.int .u64 ((bf l0 bH).f1)) := hS_
        obtain ⟨Gf, Gg, Ky⟩ := Kd.dw eu.out
        (first | subst Ky | (injection Ky with pG uY pI; have uZ := pG.symm; have vg := pI.symm; clear pG uY pI; subst uZ; subst vg))
        refine jo (a' := ?_) ?_ ?_
        rotate_left
        ·simp only [tZ, Act.put, List.setIfInBounds_toArray, List.set_cons_zero, List.set_cons_succ]
         rfl
        refine o9 (i := 9) (N := some 26) #[true, true, true, true, true, true, true, true, true, true, false, false] rfl rfl (jD HT_.out (by kernel_rfl)) (by decide) (fun K hK => ?_)
        refine Kd.ji (Kd.int .u64) (w0 := w) w.heap.size (by rfl) (.tmp 22) (.tmp 25) 53 25 (.int .u64 0) 8 rfl Try.underlying53 info25 rfl (by decide) (by omega) (.slice tK fP.length tN) fP lV _ _ _ (fun k_ => some k_ ≠ (.slice Gf lV.length Gg : Value).ownBlock) (fun _ => False) rfl rfl ?aO ?aR (fun _ _ h => h) (fun _ h => h.elim) ?aF ?aB ?aS ?aL ?_
        (case aR => exact Kd.jV (Kd.bF eu.out).2.2)
        (case aB => exact (by repeat (first | (with_reducible first | exact HB.out | refine bJ ?_ | refine aA ?_ bU.out) | exact HB.out)))
        (case aF => exact (fun k_ hk => Kd.fresh' (Kd.kW (Kd.fJ eu.out)) k_ hk))
        (case aO => exact (Kd.fJ HO_6.out))
        (case aS => exact (aQ (by repeat (first | (with_reducible first | exact HB.out | refine bJ ?_ | refine aA ?_ bU.out) | exact HB.out))))
        (case aL => have := WX.out; omega)
        intro Zr w20 ho hb hg hat
        rw [← JZ.out] at ho
        have fZ := ah (jc (g := aI) (o := .cells #[.int .i64 ((bf l0 bH).f0), .int .u64 ((bf l0 bH).f1)] 192 (0, 0)) (jJ aJ.out) hg (Kd.BI HO_6.out aJ.out (by decide)))
        have gG := ah (Kd.jG (Kd.fJ eF.out) (Kd.jF (Kd.fJ HO_6.out)) (by decide) hg)
        have iC := ah (Kd.jG (Kd.fJ iQ.out) (Kd.jF (Kd.fJ HO_6.out)) (by decide) hg)
        have jg := ah (Kd.qA (ok := (fun _ => True)) (Kd.fJ (Kd.bZ eu.out (fun _ hk => ⟨trivial, hk⟩))) hg hat)
        have kF := ah (hb)
        have mJ := ah (ho)
        clear aJ
        clear eF
        clear iQ
        clear eu
        clear HB
        clear HO_6
        have aJ := fZ
        have eF := gG
        have iQ := iC
        have eu := jg
        have HB := kF
        have zi := mJ
        clear fZ gG iC jg kF mJ
        clear ho hb hg hat
        refine hK.out _ _ ⟨(au aJ.out 0).trans rfl, (au aJ.out 1).trans rfl⟩ (fun hHeld => ?_)
        clear hK K
        refine jo (a' := ?_) ?_ ?_
        rotate_left
        ·show Act.put _ (some 26) _ = _
         simp only [Act.put, List.setIfInBounds_toArray, List.set_cons_zero, List.set_cons_succ, bI, bM]
         rfl
        refine dX (i := 10) (N := some 5) (v := ?_) (a' := ?_) #[true, true, true, true, true, true, true, true, true, true, true, false] rfl rfl (dD HT_.out (by kernel_rfl)) (fun _ _ _ h => h) (Or.inl ⟨by rfl, ?_⟩) ?_ ?_
        rotate_left
        ·intro w'
         go_simp
         with_reducible rfl
        rotate_left
        ·simp only [Act.put, List.setIfInBounds_toArray, List.set_cons_zero, List.set_cons_succ, bI, bM]
         rfl
        refine dX (i := 11) (N := some 6) (v := ?_) (a' := ?_) #[true, true, true, true, true, true, true, true, true, true, true, true] rfl rfl (dD HT_.out (by kernel_rfl)) (fun _ _ _ h => h) (Or.inl ⟨by rfl, ?_⟩) ?_ ?_
        rotate_left
        ·intro w'
         go_simp
         with_reducible rfl
        rotate_left
        ·simp only [Act.put, List.setIfInBounds_toArray, List.set_cons_zero, List.set_cons_succ, bI, bM]
         rfl
        refine y9 (su HT_.out (by kernel_rfl)) ?_
        try go_wp2
        go_roundg k1
        case measure => have := jy.out; omega
        case rel => exact ⟨(xJ), (y112), (wrap64 (bH + 1)), (by first | rfl | (simp; done) | (simp [*]; done)), H', ⟨by have := jy.out; omega⟩, ⟨by (repeat with_reducible refine Kd.kQ ?_); exact Kd.bZ iQ.out (fun _ hk => trivial)⟩, ⟨by (repeat with_reducible refine Kd.kQ ?_); exact Kd.bZ zi.out (fun _ hk => trivial)⟩, ⟨by repeat (first | (with_reducible first | exact HB.out | apply ak | apply ay | apply aH | refine aA ?_ bU.out) | exact HB.out)⟩⟩
       rw [if_neg c6] at H
       exact absurd H (by simp)
      rw [if_neg c5] at H
      exact absurd H (by simp)
     rw [if_neg c4] at H
     exact absurd H (by simp)
    rw [if_neg c3] at H
    exact absurd H (by simp)
   rw [if_neg c2] at H
   have c2b0 : decide (bH < (l0.length : Int)) = false := ahH c2
   clear c2
   replace H := Option.bind_eq_some_iff.mp H
   obtain ⟨⟨qg, t116⟩, Ry, H⟩ := H
   replace H : (if t116 = 0 then (some (qg, fP, 0)) else (some (([] : List (dQ)), ([] : List Int), t116))) = some (r1, r2, r3) := H
   have UC := ah Ry
   clear Ry
   by_cases c23 : t116 = 0
   ·rw [if_pos c23] at H
    have c23b0 : (t116 == 0) = true := beq_iff_eq.mpr c23
    have c23b1 : (t116 != 0) = false := bne_eq_false_iff_eq.mpr c23
    clear c23
    simp only [Option.some.injEq, Prod.mk.injEq] at H
    obtain ⟨rfl, rfl, rfl⟩ := H
    obtain ⟨Rz, RD, PD⟩ := Kd.dw HO_5.out
    subst PD
    go_wp2_with (first | ((with_reducible refine bP (f := 172) rfl ?_); refine gU (some 30) Try.func172 #[.slice Rz bG.length RD] ?_; (with_reducible refine (span_From.calls k1 _ _ bG qg t116 _ ?dK ?dL UC.out).mono ?_); (case dK => exact Kd.jV (Kd.bF HO_5.out).2.2); (case dL => exact (Kd.bF HO_5.out).2.1); rintro e BZ ⟨v117, rfl, ho0, hb⟩; refine ⟨_, rfl, ?_⟩; have Kz := ah (Kd.dh ho0 (aQ (bg HB.out))); replace HO_5 := ah (Kd.lu HO_5.out hb); replace HO_6 := ah (Kd.lu HO_6.out hb); replace HB := ah (aZ (bg HB.out) hb); (try clear hb); (try clear hb2); (try clear hk); (try clear hi); (try clear ho0); clear UC))
    go_ret3
    exact ⟨_, _, by first | rfl | (simp [aU, aV] <;> rfl) | (simp [*, aU, aV] <;> rfl), by (repeat with_reducible refine Kd.kQ ?_); exact Kz.out, by (repeat with_reducible refine Kd.kQ ?_); exact HO_6.out, by repeat (first | (with_reducible first | exact HB.out | apply ak | apply ay | apply aH) | exact HB.out)⟩
   rw [if_neg c23] at H
   have c23b0 : (t116 == 0) = false := beq_eq_false_iff_ne.mpr c23
   have c23b1 : (t116 != 0) = true := bne_iff_ne.mpr c23
   simp only [Option.some.injEq, Prod.mk.injEq] at H
   obtain ⟨rfl, rfl, rfl⟩ := H
   obtain ⟨WY, W9, Xa⟩ := Kd.dw HO_5.out
   subst Xa
   go_wp2_with (first | ((with_reducible refine bP (f := 172) rfl ?_); refine gU (some 30) Try.func172 #[.slice WY bG.length W9] ?_; (with_reducible refine (span_From.calls k1 _ _ bG qg t116 _ ?dK ?dL UC.out).mono ?_); (case dK => exact Kd.jV (Kd.bF HO_5.out).2.2); (case dL => exact (Kd.bF HO_5.out).2.1); rintro e w27 ⟨v117, rfl, ho0, hb⟩; refine ⟨_, rfl, ?_⟩; have Kz := ah (Kd.dh ho0 (aQ (bg HB.out))); replace HO_5 := ah (Kd.lu HO_5.out hb); replace HO_6 := ah (Kd.lu HO_6.out hb); replace HB := ah (aZ (bg HB.out) hb); (try clear hb); (try clear hb2); (try clear hk); (try clear hi); (try clear ho0); clear UC))
   go_ret3
   exact ⟨_, _, by first | rfl | (simp [aU, aV] <;> rfl) | (simp [*, aU, aV] <;> rfl), by first | exact Kd.eY _ _ _ _ _ | exact Kd.ig _ _ _ _ _ | exact Kd.iq _ _ _ _ _ | exact Kd.gY _ _ _ _ _ | exact Kd.gZ _ _ _ _ _, by first | exact Kd.eY _ _ _ _ _ | exact Kd.ig _ _ _ _ _ | exact Kd.iq _ _ _ _ _ | exact Kd.gY _ _ _ _ _ | exact Kd.gZ _ _ _ _ _, by repeat (first | (with_reducible first | exact HB.out | apply ak | apply ay | apply aH) | exact HB.out)⟩
end Go.Proofs.Ytooiccpmngmapaa.P
namespace Go.Proofs.Ytooiccpmngmapaa.P
open Go.RowKit Go.Shelf Go.Proofs.YtooiccpmngmapaaW.PrintWords Go.Proofs.YtooiccpmngmapaaW.PrintLast Go.Proofs.YtooiccpmngmapaaW.PrintMore
abbrev Pu := gI
instance : DecidableEq Pu := fun a b => if h : a.f0 = b.f0 ∧ a.f1 = b.f1 then isTrue (by cases a; cases b; simp only at h; rw [h.1, h.2]) else isFalse (by rintro rfl; exact h ⟨rfl, rfl⟩)
theorem DY {l : List Pu} {i : Nat} (h : i < l.length) : bf l (i : Int) = l[i] := by unfold bf; simp [List.getD, h]
def Sr (l : List Pu) : Prop := ∀ s ∈ l, i64 s.f0 ∧ u64 s.f1
def gQ (l : List Pu) : List Sp × List Int × Int := if (jO (l.map (·.f0))).2 = 0 then ((jO (l.map (·.f0))).1, l.map (·.f1), 0) else ([], [], (jO (l.map (·.f0))).2)
theorem Ld (l : List Pu) (hw : Sr l) (hm : l.length < 4398046511104) : ∀ (d k i : Nat), l.length - i = d → d + 2 * l.length + 1 < k → i ≤ l.length →
    pairs_Unzip_uint64.l0 k ((l.take i).map (·.f0)) ((l.take i).map (·.f1)) l (l.length : Int) (i : Int) = some (gQ l) := by
  intro d
  induction d with
  | zero =>
    intro k i hd hk hi
    obtain ⟨k, rfl⟩ : ∃ m, k = m + 1 := ⟨k - 1, by omega⟩
    simp only [pairs_Unzip_uint64.l0]
    rw [if_neg (by omega), List.take_of_length_le (by omega), OC _ (by intro x hx; obtain ⟨s, hs, rfl⟩ := List.mem_map.1 hx; exact (hw s hs).1) (by simpa using hm) k (by simp; omega)]
    simp only [Option.bind_some]
    unfold gQ
    split <;> rfl
  | succ d ih =>
    intro k i hd hk hi
    obtain ⟨k, rfl⟩ : ∃ m, k = m + 1 := ⟨k - 1, by omega⟩
    have hlt : i < l.length := by omega
    have hl1 : ((l.take i).map (·.f0)).length = i := by simp; omega
    have hl2 : ((l.take i).map (·.f1)).length = i := by simp; omega
    simp only [pairs_Unzip_uint64.l0, Option.bind_some]
    rw [if_pos (by omega), if_pos (by omega), if_pos (by omega), hl1, hl2, DY hlt, if_pos (by simp; omega), if_pos (by simp; omega), wrap_succ (by omega), ← ih k (i + 1) (by omega) (by omega) (by omega), take_at hlt]
    simp only [List.map_append, List.map_cons, List.map_nil]
theorem PY (l : List Pu) (hw : Sr l) (hm : l.length < 4398046511104) (k : Nat) (hk : 3 * l.length + 1 < k) : pairs_Unzip_uint64.f k l = some (gQ l) := by
 unfold pairs_Unzip_uint64.f
 exact Ld l hw hm l.length k 0 (by omega) (by omega) (by omega)
def wK (l : List Sp) (v : List Int) : List Pu × Int := if fU l = 0 then (if (uN 0 l).length = v.length then (List.zipWith (fun p x => (⟨p, x⟩ : Pu)) (uN 0 l) v, 0) else ([], 10)) else ([], fU l)
theorem PZ (ps v : List Int) (hl : ps.length = v.length) (hm : ps.length < 8796093022208) : ∀ (d k i : Nat), ps.length - i = d → d < k → i ≤ ps.length →
    pairs_Zip_uint64.l0 k v (List.zipWith (fun p x => (⟨p, x⟩ : Pu)) (ps.take i) (v.take i)) ps (ps.length : Int) (i : Int) = some (List.zipWith (fun p x => (⟨p, x⟩ : Pu)) ps v, 0) := by
  intro d
  induction d with
  | zero =>
    intro k i hd hk hi
    obtain ⟨k, rfl⟩ : ∃ m, k = m + 1 := ⟨k - 1, by omega⟩
    simp only [pairs_Zip_uint64.l0]
    rw [if_neg (by omega), List.take_of_length_le (by omega), List.take_of_length_le (by omega)]
  | succ d ih =>
    intro k i hd hk hi
    obtain ⟨k, rfl⟩ : ∃ m, k = m + 1 := ⟨k - 1, by omega⟩
    have hlt : i < ps.length := by omega
    have hlv : i < v.length := by omega
    have hl1 : (List.zipWith (fun p x => (⟨p, x⟩ : Pu)) (ps.take i) (v.take i)).length = i := by simp; omega
    simp only [pairs_Zip_uint64.l0]
    rw [if_pos (by omega), if_pos (by omega), if_pos (by omega), if_pos (by omega), hl1, sK hlt, sK hlv, if_pos (by omega), wrap_succ (by omega), ← ih k (i + 1) (by omega) (by omega) (by omega), take_at hlt, take_at hlv, List.zipWith_append (by simp; omega)]
    rfl
theorem UM (l : List Sp) (v : List Int) (hw : kU l) (k : Nat) (hk : 4100 < k) : pairs_Zip_uint64.f k l v = some (wK l v) := by
 unfold pairs_Zip_uint64.f wK
 rw [Hf l hw k (by omega)]
 simp only [Option.bind_some, yM]
 by_cases h : fU l = 0
 ·have hl := uj h
  rw [if_pos h, if_pos h]
  simp only [if_true]
  by_cases h1 : (uN 0 l).length = v.length
  ·rw [if_pos (by omega), if_pos h1]
   exact PZ (uN 0 l) v h1 (by omega) (uN 0 l).length k 0 (by omega) (by omega) (by omega)
  ·rw [if_neg (by omega), if_neg h1]
 ·rw [if_neg h, if_neg h]
  simp only
  rw [if_neg h]
def Bg (g : Nat) (cap : Array Value) (p : Int → Bool) (w : World) : Prop :=
 ∀ (W : World) (x : Int), Below w.heap.size w W → Calls Try.prog g (#[.int .u64 x] ++ cap) W fun e w' => e = .returned (.bool (p x)) ∧ Below W.heap.size W w'
set_option maxHeartbeats 2000000 in
theorem yc (g : Nat) (cap : Array Value) (p : Int → Bool) (A : Option Addr) (c : Nat) (l : List Int) (w : World)
    (hr : Kd.C (Kd.int .u64) w A l.length l) (hc : l.length ≤ c) (hm : l.length ≤ 9223372036854775807) (hp : Bg g cap p w) (eg : ∀ args w, (callFunc g args).run Try.prog w = .ok (.enter g args) w) :
    Calls Try.prog 183 #[.slice A l.length c, .func (.func g) #[] cap] w fun e w' => e = .returned (.int .i64 (vI p l)) ∧ Below w.heap.size w w' := by
  have HR := ah hr
  have HP := ah hp
  clear hr hp
  go_enter Try.func183, Try.ntmps183
  go_wp2
  go_loopg [5, 8] l.length (fun gg _ s8 wr => ∃ kk : Nat, kk ≤ l.length ∧ l.length - kk ≤ gg ∧ s8 = .int .i64 kk ∧ aj (Below w.heap.size w wr) ∧ aj (∀ j (hj : j < kk) (hj2 : j < l.length), p l[j] = false))
  case atStart => exact ⟨0, Nat.zero_le _, by omega, rfl, ⟨Below.refl _ w⟩, ⟨fun j hj => absurd hj (Nat.not_lt_zero _)⟩⟩
  case round =>
    obtain ⟨kk, hkk, hg, rfl, HB, HA⟩ := hrel
    by_cases hlt : kk < l.length
    · have hlti : (kk : Int) < (l.length : Int) := by omega
      obtain ⟨ad, e1, hx0⟩ := Kd.gB HR.out kk (by omega) (by omega)
      cases e1
      replace hx0 := (HB.out.cell (World.block_lt_of_cell? w _ hx0)).trans hx0
      have hrd : rd l (kk : Int) = l[kk] := by unfold rd; simp [List.getD, hlt]
      rw [hrd, Int.toNat_natCast] at hx0
      have hcall := HP.out wr l[kk] HB.out
      generalize hy : l[kk] = y at hx0 hcall
      have HY := ah hy
      clear hy hrd
      cases hq : p y with
      | true =>
        rw [hq] at hcall
        have HQ := ah hq
        clear hq
        have HC := ah hcall
        clear hcall
        go_wp2_with (go_at_fn g; refine HC.out.mono ?_; rintro e w' ⟨rfl, hb'⟩)
        go_ret
        refine ⟨?_, HB.out.trans (hb'.mono HB.out.size)⟩
        rw [Ac p l kk hlt (by rw [HY.out]; exact HQ.out) (fun j hj => HA.out j hj (by omega))]; rfl
      | false =>
        rw [hq] at hcall
        have HQ := ah hq
        clear hq
        have HC := ah hcall
        clear hcall
        go_wp2_with (go_at_fn g; refine HC.out.mono ?_; rintro e w' ⟨rfl, hb'⟩)
        go_roundg (l.length - (kk + 1))
        case measure => omega
        case rel =>
          refine ⟨kk + 1, by omega, by omega, by go_num, ⟨HB.out.trans (hb'.mono HB.out.size)⟩, ⟨fun j hj hj2 => ?_⟩⟩
          by_cases e : j = kk
          · subst e
            rw [HY.out]; exact HQ.out
          · exact HA.out j (by omega) hj2
    · have hlti : ¬ (kk : Int) < (l.length : Int) := by omega
      have hk : kk = l.length := by omega
      go_wp2
      go_ret
      refine ⟨?_, HB.out⟩
      rw [yF p l (fun j hj => HA.out j (by omega) hj)]; rfl
theorem DJ (p : Int → Bool) (l : List Int) : decide (vI p l ≥ 0) = l.any p := by
 rcases JU p l with ⟨h1, h2⟩ | ⟨i, h, h1, h2⟩
 ·rw [h1, Bool.eq_iff_iff, decide_eq_true_iff]
  constructor
  ·intro h; omega
  ·intro h
   obtain ⟨x, hx, hp⟩ := List.any_eq_true.1 h
   rw [List.find?_eq_none] at h2
   exact absurd hp (h2 x hx)
 ·rw [h1, Bool.eq_iff_iff, decide_eq_true_iff]
  constructor
  ·intro _; exact List.any_eq_true.2 ⟨_, List.getElem_mem h, by have := List.find?_some h2; exact this⟩
  ·intro _; omega
set_option maxHeartbeats 2000000 in
theorem vP (g : Nat) (cap : Array Value) (p : Int → Bool) (A : Option Addr) (c : Nat) (l : List Int) (w : World)
  (hr : Kd.C (Kd.int .u64) w A l.length l) (hc : l.length ≤ c) (hm : l.length ≤ 9223372036854775807) (hp : Bg g cap p w) (eg : ∀ args w, (callFunc g args).run Try.prog w = .ok (.enter g args) w) :
  Calls Try.prog 174 #[.slice A l.length c, .func (.func g) #[] cap] w fun e w' => e = .returned (.bool (l.any p)) ∧ Below w.heap.size w w' := by
 have H := ah (yc g cap p A c l w hr hc hm hp eg)
 have HE := ah (DJ p l)
 clear hr hp
 generalize vI p l = ix at H HE
 go_enter Try.func174, Try.ntmps174
 go_wp2_with (go_at_call 183; refine H.out.mono ?_; rintro e w' ⟨rfl, hb'⟩)
 go_ret
 exact ⟨by rw [← HE.out]; rfl, hb'⟩
abbrev kPu := kL
def Jl (l : List Int) : Prop := ∀ x ∈ l, u64 x
instance (l : List Int) : Decidable (Jl l) := by unfold Jl; exact inferInstance
def dY (v : Int) : Bool := decide (v < 9218868437227405312)
theorem Le (v : Int) (w : World) : Calls Try.prog 131 #[.int .u64 v] w fun e w' => e = .returned (.bool (dY v)) ∧ Below w.heap.size w w' := (hist_Threshold.calls v _ w rfl).mono fun e w1 h => ⟨h.1, h.2.below⟩
theorem UN (v : Int) (w : World) : Calls Try.prog 146 #[.int .u64 v] w fun e w' => e = .returned (.bool (dY v)) ∧ Below w.heap.size w w' := by
 have HT := Le v
 generalize dY v = b at *
 go_enter Try.func146, Try.ntmps146
 go_wp2_with (go_at_call 131; (with_reducible refine (HT _).mono ?_); rintro e w1 ⟨rfl, hb⟩)
 go_ret
 exact ⟨rfl, hb⟩
theorem Jm (v : Int) (w : World) : Calls Try.prog 153 #[.int .u64 v] w fun e w' => e = .returned (.bool (!dY v)) ∧ Below w.heap.size w w' := by
 have HT := UN v
 generalize dY v = b at *
 go_enter Try.func153, Try.ntmps153
 go_wp2_with (go_at_call 146; (with_reducible refine (HT _).mono ?_); rintro e w1 ⟨rfl, hb⟩)
 go_ret
 exact ⟨rfl, hb⟩
def jR (l : List Sp) (c : List Int) : List Pu × Int :=
 if fU l = 0 then (if nK l = c.length then (if c.any (fun v => !dY v) = true then ([], 22) else (List.zipWith (fun p x => (⟨p, x⟩ : Pu)) (uN 0 l) c, 0)) else ([], 23)) else ([], fU l)
theorem P7 (l : List Sp) (hw : kU l) (w : World) (v : Value) (hv : SI kSp w v l) : Calls Try.prog 164 #[v] w fun e w' => e = .returned (.int .i64 (fU l)) ∧ Below w.heap.size w w' := by
 obtain ⟨A, c, rfl, hc, hr⟩ := hv
 exact span_Check.calls 2049 A c l _ w hr hc (Au l hw 2049 (by omega))
theorem P8 (l : List Sp) (hw : kU l) (h0 : fU l = 0) (w : World) (v : Value) (hv : SI kSp w v l) : Calls Try.prog 165 #[v] w fun e w' => e = .returned (.int .i64 (nK l)) ∧ Below w.heap.size w w' := by
 obtain ⟨A, c, rfl, hc, hr⟩ := hv
 exact span_Count.calls 2049 A c l _ w hr hc (by rw [count_eq l hw 2049 (by omega), if_pos h0])
theorem NH (c : List Int) (hm : c.length < 4398046511104) (w : World) (v : Value) (hv : SI (Kd.int .u64) w v c) : Calls Try.prog 174 #[v, .func (.func 153) #[] #[]] w fun e w' => e = .returned (.bool (c.any (fun v => !dY v))) ∧ Below w.heap.size w w' := by
 obtain ⟨A, c', rfl, hc, hr⟩ := hv
 exact vP 153 #[] (fun v => !dY v) A c' c w hr hc (by omega) (fun W x _ => Jm x W) (enters_of Try.func153 (by kernel_rfl) rfl)
theorem Xk (l : List Sp) (c : List Int) (hw : kU l) (w : World) (v u : Value) (hv : SI kSp w v l) (hu : SI (Kd.int .u64) w u c) : Calls Try.prog 175 #[v, u] w fun e w' => ∃ v0, e = .returned (.tuple #[v0, .int .i64 (wK l c).2]) ∧ FI kPu w.heap.size w' v0 (wK l c).1 ∧ Below w.heap.size w w' := by
 obtain ⟨A, c1, rfl, hc, hr⟩ := hv
 obtain ⟨B, c2, rfl, hd, hs⟩ := hu
 refine (pairs_Zip_uint64.calls 4101 A c1 l B c2 c (wK l c).1 (wK l c).2 w hr hc hs hd (UM l c hw 4101 (by omega))).mono ?_
 rintro e w1 ⟨v0, rfl, h0, hb⟩
 exact ⟨v0, rfl, .rC h0 (Nat.le_refl _), hb⟩
set_option maxHeartbeats 8000000 in
set_option maxRecDepth 100000 in
theorem OU (l : List Sp) (c : List Int) (hw : kU l) (hm : c.length < 4398046511104) (w : World) (v u : Value) (hv : SI kSp w v l) (hu : SI (Kd.int .u64) w u c) : Calls Try.prog 154 #[v, u] w fun e w' => ∃ v0, e = .returned (.tuple #[v0, .int .i64 (jR l c).2]) ∧ FI kPu w.heap.size w' v0 (jR l c).1 ∧ Below w.heap.size w w' := by
  have hv' := hv
  have hu' := hu
  obtain ⟨A, c1, e1, -⟩ := hv'
  obtain ⟨A1, c2, e2, -⟩ := hu'
  subst e1; subst e2
  have B := ah (Below.refl w.heap.size w)
  have HV := ah hv
  have HU := ah hu
  have kc := P7 l hw
  have kn := P8 l hw
  have kf := NH c hm
  have kz := Xk l c hw
  have hpl : fU l = 0 → ((uN 0 l).length : Int) = nK l := fun h => rQ l 0 (fun s hs => (nM l _ _ _ (kS h).2 s hs).1)
  have hzr : wK l c = if fU l = 0 then (if (uN 0 l).length = c.length then (List.zipWith (fun p x => (⟨p, x⟩ : Pu)) (uN 0 l) c, 0) else ([], 10)) else ([], fU l) := rfl
  clear hv hu hw hm
  unfold jR
  by_cases he : fU l = 0
  rotate_left
  · rw [if_neg he]
    generalize fU l = r at *
    have d1 : (r == 0) = false := beq_eq_false_iff_ne.2 he
    have d2 : (r != 0) = true := bne_iff_ne.2 he
    have KC := ah kc
    clear kc kn kf kz hpl hzr he
    go_enter Try.func154, Try.ntmps154
    go_wp2_with (first | (go_at_call 164; (with_reducible refine (KC.out _ _ HV.out).mono ?_); rintro e W1 ⟨rfl, hb⟩; replace B := ah (aG B.out B.out.size hb); replace HV := ah (HV.out.below hb); replace HU := ah (HU.out.below hb); clear  hb))
    go_ret2
    exact ⟨_, rfl, fun w _ => SI.nil _ w, B.out⟩
  rw [if_pos he]
  rw [he] at kc
  have KC := ah kc
  have KN := ah (kn he)
  have hp := hpl he
  rw [if_pos he] at hzr
  clear kc kn hpl he
  generalize nK l = n at *
  by_cases hc : n = (c.length : Int)
  rotate_left
  · rw [if_neg hc]
    have d1 : (n == (c.length : Int)) = false := beq_eq_false_iff_ne.2 hc
    have d2 : (n != (c.length : Int)) = true := bne_iff_ne.2 hc
    clear kf kz hzr hp hc
    go_enter Try.func154, Try.ntmps154
    go_wp2_with (first | (go_at_call 164; (with_reducible refine (KC.out _ _ HV.out).mono ?_); rintro e W1 ⟨rfl, hb⟩; replace B := ah (aG B.out B.out.size hb); replace HV := ah (HV.out.below hb); replace HU := ah (HU.out.below hb); clear  hb) | (go_at_call 165; (with_reducible refine (KN.out _ _ HV.out).mono ?_); rintro e W2 ⟨rfl, hb⟩; replace B := ah (aG B.out B.out.size hb); replace HV := ah (HV.out.below hb); replace HU := ah (HU.out.below hb); clear  hb))
    go_ret2
    exact ⟨_, rfl, fun w _ => SI.nil _ w, B.out⟩
  rw [if_pos hc]
  have d1 : (n == (c.length : Int)) = true := beq_iff_eq.2 hc
  have d2 : (n != (c.length : Int)) = false := by rw [bne, d1]; rfl
  rw [if_pos (by omega)] at hzr
  rw [hzr] at kz
  clear hzr hp hc
  generalize List.zipWith (fun p x => (⟨p, x⟩ : Pu)) (uN 0 l) c = z at *
  have KZ := ah kz
  clear kz
  generalize c.any (fun v => !dY v) = b at *
  have KF := ah kf
  clear kf
  cases b with
  | true =>
    rw [if_pos rfl]
    go_enter Try.func154, Try.ntmps154
    go_wp2_with (first | (go_at_call 164; (with_reducible refine (KC.out _ _ HV.out).mono ?_); rintro e W1 ⟨rfl, hb⟩; replace B := ah (aG B.out B.out.size hb); replace HV := ah (HV.out.below hb); replace HU := ah (HU.out.below hb); clear  hb) | (go_at_call 165; (with_reducible refine (KN.out _ _ HV.out).mono ?_); rintro e W2 ⟨rfl, hb⟩; replace B := ah (aG B.out B.out.size hb); replace HV := ah (HV.out.below hb); replace HU := ah (HU.out.below hb); clear  hb) | (go_at_call 174; (with_reducible refine (KF.out _ _ HU.out).mono ?_); rintro e W3 ⟨rfl, hb⟩; replace B := ah (aG B.out B.out.size hb); replace HV := ah (HV.out.below hb); replace HU := ah (HU.out.below hb); clear  hb))
    go_ret2
    exact ⟨_, rfl, fun w _ => SI.nil _ w, B.out⟩
  | false =>
    rw [if_neg (by simp)]
    go_enter Try.func154, Try.ntmps154
    go_wp2_with (first | (go_at_call 164; (with_reducible refine (KC.out _ _ HV.out).mono ?_); rintro e W1 ⟨rfl, hb⟩; replace B := ah (aG B.out B.out.size hb); replace HV := ah (HV.out.below hb); replace HU := ah (HU.out.below hb); clear  hb) | (go_at_call 165; (with_reducible refine (KN.out _ _ HV.out).mono ?_); rintro e W2 ⟨rfl, hb⟩; replace B := ah (aG B.out B.out.size hb); replace HV := ah (HV.out.below hb); replace HU := ah (HU.out.below hb); clear  hb) | (go_at_call 174; (with_reducible refine (KF.out _ _ HU.out).mono ?_); rintro e W3 ⟨rfl, hb⟩; replace B := ah (aG B.out B.out.size hb); replace HV := ah (HV.out.below hb); replace HU := ah (HU.out.below hb); clear  hb) | (go_at_call 175; (with_reducible refine (KZ.out _ _ _ HV.out HU.out).mono ?_); rintro e W4 ⟨v0, rfl, hz, hb⟩; have B0 := ah B.out.size; replace B := ah (aG B.out B.out.size hb); replace HV := ah (HV.out.below hb); replace HU := ah (HU.out.below hb); have Z := ah hz; have hz' := Z.out; obtain ⟨zA, zc, ez⟩ := hz'.slice; subst ez; clear hz hb))
    go_ret2
    exact ⟨_, rfl, Z.out.lower B0.out, B.out⟩
abbrev Fh := Vq
def GI (w : World) (v : Value) (h : Fh) : Prop :=
 ∃ v5 v6 v7 v8, v = .agg #[.int .i64 h.f0, .int .u64 h.f1, .int .u64 h.f2, .int .u64 h.f3, .int .u64 h.f4, v5, v6, v7, v8] ∧ SI kSp w v5 h.f5 ∧ SI kSp w v6 h.f6 ∧ SI (Kd.int .u64) w v7 h.f7 ∧ SI (Kd.int .u64) w v8 h.f8
theorem GI.below {w w' : World} {v : Value} {h : Fh} (x : GI w v h) (hb : Below w.heap.size w w') : GI w' v h := by
 obtain ⟨v5, v6, v7, v8, e, h5, h6, h7, h8⟩ := x
 exact ⟨v5, v6, v7, v8, e, h5.below hb, h6.below hb, h7.below hb, h8.below hb⟩
theorem GI.open_ {w : World} {v : Value} {h : Fh} (x : GI w v h) : ∃ A5 c5 A6 c6 A7 c7 A8 c8, v = .agg #[.int .i64 h.f0, .int .u64 h.f1, .int .u64 h.f2, .int .u64 h.f3, .int .u64 h.f4, .slice A5 h.f5.length c5, .slice A6 h.f6.length c6, .slice A7 h.f7.length c7, .slice A8 h.f8.length c8] ∧
  SI kSp w (.slice A5 h.f5.length c5) h.f5 ∧ SI kSp w (.slice A6 h.f6.length c6) h.f6 ∧ SI (Kd.int .u64) w (.slice A7 h.f7.length c7) h.f7 ∧ SI (Kd.int .u64) w (.slice A8 h.f8.length c8) h.f8 := by
 obtain ⟨v5, v6, v7, v8, rfl, h5, h6, h7, h8⟩ := x
 obtain ⟨A5, c5, rfl, KG, KH⟩ := h5
 obtain ⟨A6, c6, rfl, KI, KJ⟩ := h6
 obtain ⟨A7, c7, rfl, KL, h72⟩ := h7
 obtain ⟨A8, c8, rfl, KO, KP⟩ := h8
 exact ⟨A5, c5, A6, c6, A7, c7, A8, c8, rfl, .of KH KG, .of KJ KI, .of h72 KL, .of KP KO⟩
theorem GI.mk {w : World} {h : Fh} {v5 v6 v7 v8 : Value} (h5 : SI kSp w v5 h.f5) (h6 : SI kSp w v6 h.f6) (h7 : SI (Kd.int .u64) w v7 h.f7) (h8 : SI (Kd.int .u64) w v8 h.f8) :
 GI w (.agg #[.int .i64 h.f0, .int .u64 h.f1, .int .u64 h.f2, .int .u64 h.f3, .int .u64 h.f4, v5, v6, v7, v8]) h := ⟨v5, v6, v7, v8, rfl, h5, h6, h7, h8⟩
def qV : Fh := ⟨0, 0, 0, 0, 0, [], [], [], []⟩
def GF (base : Nat) (w : World) (v : Value) (h : Fh) : Prop :=
 ∃ v5 v6 v7 v8, v = .agg #[.int .i64 h.f0, .int .u64 h.f1, .int .u64 h.f2, .int .u64 h.f3, .int .u64 h.f4, v5, v6, v7, v8] ∧ FI kSp base w v5 h.f5 ∧ FI kSp base w v6 h.f6 ∧ FI (Kd.int .u64) base w v7 h.f7 ∧ FI (Kd.int .u64) base w v8 h.f8
theorem GF.now {base : Nat} {w : World} {v : Value} {h : Fh} (x : GF base w v h) : GI w v h := by
 obtain ⟨v5, v6, v7, v8, e, h5, h6, h7, h8⟩ := x
 exact ⟨v5, v6, v7, v8, e, h5.now, h6.now, h7.now, h8.now⟩
theorem GF.step {base : Nat} {w w' : World} {v : Value} {h : Fh} (x : GF base w v h) (k : KA base w w') : GF base w' v h := by
 obtain ⟨v5, v6, v7, v8, e, h5, h6, h7, h8⟩ := x
 exact ⟨v5, v6, v7, v8, e, h5.step k, h6.step k, h7.step k, h8.step k⟩
theorem GF.lower {base b : Nat} {w : World} {v : Value} {h : Fh} (x : GF b w v h) (hb : base ≤ b) : GF base w v h := by
 obtain ⟨v5, v6, v7, v8, e, h5, h6, h7, h8⟩ := x
 exact ⟨v5, v6, v7, v8, e, h5.lower hb, h6.lower hb, h7.lower hb, h8.lower hb⟩
theorem GF.mk {base : Nat} {w : World} {h : Fh} {v5 v6 v7 v8 : Value} (h5 : FI kSp base w v5 h.f5) (h6 : FI kSp base w v6 h.f6) (h7 : FI (Kd.int .u64) base w v7 h.f7) (h8 : FI (Kd.int .u64) base w v8 h.f8) :
 GF base w (.agg #[.int .i64 h.f0, .int .u64 h.f1, .int .u64 h.f2, .int .u64 h.f3, .int .u64 h.f4, v5, v6, v7, v8]) h := ⟨v5, v6, v7, v8, rfl, h5, h6, h7, h8⟩
theorem GF.empty (base : Nat) (w : World) : GF base w (.agg #[.int .i64 0, .int .u64 0, .int .u64 0, .int .u64 0, .int .u64 0, .slice none 0 0, .slice none 0 0, .slice none 0 0, .slice none 0 0]) qV :=
 GF.mk (h := qV) (fun w _ => SI.nil _ w) (fun w _ => SI.nil _ w) (fun w _ => SI.nil _ w) (fun w _ => SI.nil _ w)
theorem GF.open_ {base : Nat} {w : World} {v : Value} {h : Fh} (x : GF base w v h) : ∃ A5 c5 A6 c6 A7 c7 A8 c8, v = .agg #[.int .i64 h.f0, .int .u64 h.f1, .int .u64 h.f2, .int .u64 h.f3, .int .u64 h.f4, .slice A5 h.f5.length c5, .slice A6 h.f6.length c6, .slice A7 h.f7.length c7, .slice A8 h.f8.length c8] := by
 obtain ⟨A5, c5, A6, c6, A7, c7, A8, c8, e, -⟩ := x.now.open_
 exact ⟨A5, c5, A6, c6, A7, c7, A8, c8, e⟩
def EZ (h : Fh) : Prop := i64 h.f0 ∧ u64 h.f1 ∧ u64 h.f2 ∧ u64 h.f3 ∧ u64 h.f4 ∧ kU h.f5 ∧ kU h.f6 ∧ Jl h.f7 ∧ Jl h.f8 ∧ h.f7.length < 4398046511104 ∧ h.f8.length < 4398046511104
def jw (h : Fh) : List Pu × List Pu × Int :=
 if h.f0 < -4 ∨ h.f0 > 8 then ([], [], 21) else if dY h.f1 = false then ([], [], 11) else if (!dY h.f2 || !dY h.f3) = true then ([], [], 22)
 else if (jR h.f5 h.f7).2 ≠ 0 then ([], [], (jR h.f5 h.f7).2) else if (jR h.f6 h.f8).2 ≠ 0 then ([], [], (jR h.f6 h.f8).2)
 else ((jR h.f5 h.f7).1, (jR h.f6 h.f8).1, 0)
def jU (h : Fh) : Int := (jw h).2.2
set_option maxHeartbeats 16000000 in
set_option maxRecDepth 100000 in
theorem UO (h : Fh) (hw : EZ h) (w : World) (v : Value) (hv : GI w v h) : Calls Try.prog 99 #[v] w fun e w' =>
    ∃ v0 v1 : Value, e = .returned (.tuple #[v0, v1, .int .i64 (jw h).2.2]) ∧ FI kPu w.heap.size w' v0 (jw h).1 ∧ FI kPu w.heap.size w' v1 (jw h).2.1 ∧ Below w.heap.size w w' := by
  have hud := Try.underlying55
  have th := Le h.f1
  have wz := Jm h.f2
  have wc := Jm h.f3
  have s5 := OU h.f5 h.f7 hw.2.2.2.2.2.1 hw.2.2.2.2.2.2.2.2.2.1
  have s6 := OU h.f6 h.f8 hw.2.2.2.2.2.2.1 hw.2.2.2.2.2.2.2.2.2.2
  obtain ⟨A5, c5, A6, c6, A7, c7, A8, c8, e, h5, h6, h7, h8⟩ := hv.open_
  subst e
  have B := ah (ak (Below.refl w.heap.size w) (.cells #[.int .i64 h.f0, .int .u64 h.f1, .int .u64 h.f2, .int .u64 h.f3, .int .u64 h.f4, .slice A5 h.f5.length c5, .slice A6 h.f6.length c6, .slice A7 h.f7.length c7, .slice A8 h.f8.length c8] 55))
  have X := ah (rD.new w #[.int .i64 h.f0, .int .u64 h.f1, .int .u64 h.f2, .int .u64 h.f3, .int .u64 h.f4, .slice A5 h.f5.length c5, .slice A6 h.f6.length c6, .slice A7 h.f7.length c7, .slice A8 h.f8.length c8] 55)
  have hx := fun i => X.out.cell i
  have H5 := ah (h5.below B.out)
  have H6 := ah (h6.below B.out)
  have H7 := ah (h7.below B.out)
  have H8 := ah (h8.below B.out)
  clear hv h5 h6 h7 h8
  unfold jw
  generalize dY h.f1 = r1 at *
  generalize dY h.f2 = r2 at *
  generalize dY h.f3 = r3 at *
  generalize jR h.f5 h.f7 = q5 at *
  generalize jR h.f6 h.f8 = q6 at *
  obtain ⟨p, e5⟩ := q5
  obtain ⟨n, e6⟩ := q6
  simp only at s5 s6 ⊢
  have TH := ah th
  have WZ := ah wz
  have WC := ah wc
  have S5 := ah s5
  have S6 := ah s6
  clear th wz wc s5 s6 hw
  by_cases k1 : h.f0 < -4
  · rw [if_pos (Or.inl k1)]
    have k1b : decide (h.f0 < -4) = true := ahG k1
    clear k1
    go_enter Try.func99, Try.ntmps99
    go_wp2
    go_ret3
    exact ⟨_, _, rfl, fun w _ => SI.nil _ w, fun w _ => SI.nil _ w, B.out⟩
  by_cases k2 : h.f0 > 8
  · rw [if_pos (Or.inr k2)]
    have k1b : decide (h.f0 < -4) = false := ahH k1
    have k2b : decide (8 < h.f0) = true := ahG k2
    clear k1 k2
    go_enter Try.func99, Try.ntmps99
    go_wp2
    go_ret3
    exact ⟨_, _, rfl, fun w _ => SI.nil _ w, fun w _ => SI.nil _ w, B.out⟩
  rw [if_neg (by omega)]
  have k1b : decide (h.f0 < -4) = false := ahH k1
  have k2b : decide (8 < h.f0) = false := ahH k2
  clear k1 k2
  cases r1 with
  | false =>
    rw [if_pos rfl]
    go_enter Try.func99, Try.ntmps99
    go_wp2_with (first | (go_at_call 131; (with_reducible refine (TH.out _).mono ?_); rintro e W1 ⟨rfl, hb⟩; replace B := ah (aG B.out B.out.size hb); replace H5 := ah (H5.out.below hb); replace H6 := ah (H6.out.below hb); replace H7 := ah (H7.out.below hb); replace H8 := ah (H8.out.below hb); replace X := ah (X.out.below hb); replace hx := fun i => X.out.cell i; clear  hb))
    go_ret3
    exact ⟨_, _, rfl, fun w _ => SI.nil _ w, fun w _ => SI.nil _ w, B.out⟩
  | true =>
    rw [if_neg (by simp)]
    cases r2 with
    | false =>
      rw [if_pos (by simp)]
      go_enter Try.func99, Try.ntmps99
      go_wp2_with (first | (go_at_call 131; (with_reducible refine (TH.out _).mono ?_); rintro e W1 ⟨rfl, hb⟩; replace B := ah (aG B.out B.out.size hb); replace H5 := ah (H5.out.below hb); replace H6 := ah (H6.out.below hb); replace H7 := ah (H7.out.below hb); replace H8 := ah (H8.out.below hb); replace X := ah (X.out.below hb); replace hx := fun i => X.out.cell i; clear  hb) | (go_at_call 153; (with_reducible refine (WZ.out _).mono ?_); rintro e W2 ⟨rfl, hb⟩; replace B := ah (aG B.out B.out.size hb); replace H5 := ah (H5.out.below hb); replace H6 := ah (H6.out.below hb); replace H7 := ah (H7.out.below hb); replace H8 := ah (H8.out.below hb); replace X := ah (X.out.below hb); replace hx := fun i => X.out.cell i; clear  hb))
      go_ret3
      exact ⟨_, _, rfl, fun w _ => SI.nil _ w, fun w _ => SI.nil _ w, B.out⟩
    | true =>
      cases r3 with
      | false =>
        rw [if_pos (by simp)]
        go_enter Try.func99, Try.ntmps99
        go_wp2_with (first | (go_at_call 131; (with_reducible refine (TH.out _).mono ?_); rintro e W1 ⟨rfl, hb⟩; replace B := ah (aG B.out B.out.size hb); replace H5 := ah (H5.out.below hb); replace H6 := ah (H6.out.below hb); replace H7 := ah (H7.out.below hb); replace H8 := ah (H8.out.below hb); replace X := ah (X.out.below hb); replace hx := fun i => X.out.cell i; clear  hb) | (go_at_call 153; (with_reducible refine (WZ.out _).mono ?_); rintro e W2 ⟨rfl, hb⟩; replace B := ah (aG B.out B.out.size hb); replace H5 := ah (H5.out.below hb); replace H6 := ah (H6.out.below hb); replace H7 := ah (H7.out.below hb); replace H8 := ah (H8.out.below hb); replace X := ah (X.out.below hb); replace hx := fun i => X.out.cell i; clear  hb) | (go_at_call 153; (with_reducible refine (WC.out _).mono ?_); rintro e W3 ⟨rfl, hb⟩; replace B := ah (aG B.out B.out.size hb); replace H5 := ah (H5.out.below hb); replace H6 := ah (H6.out.below hb); replace H7 := ah (H7.out.below hb); replace H8 := ah (H8.out.below hb); replace X := ah (X.out.below hb); replace hx := fun i => X.out.cell i; clear  hb))
        go_ret3
        exact ⟨_, _, rfl, fun w _ => SI.nil _ w, fun w _ => SI.nil _ w, B.out⟩
      | true =>
        rw [if_neg (by simp)]
        by_cases d5 : e5 = 0
        rotate_left
        · rw [if_pos d5]
          have d5a : (e5 == 0) = false := beq_eq_false_iff_ne.2 d5
          have d5b : (e5 != 0) = true := bne_iff_ne.2 d5
          clear d5
          go_enter Try.func99, Try.ntmps99
          go_wp2_with (first | (go_at_call 131; (with_reducible refine (TH.out _).mono ?_); rintro e W1 ⟨rfl, hb⟩; replace B := ah (aG B.out B.out.size hb); replace H5 := ah (H5.out.below hb); replace H6 := ah (H6.out.below hb); replace H7 := ah (H7.out.below hb); replace H8 := ah (H8.out.below hb); replace X := ah (X.out.below hb); replace hx := fun i => X.out.cell i; clear  hb) | (go_at_call 153; (with_reducible refine (WZ.out _).mono ?_); rintro e W2 ⟨rfl, hb⟩; replace B := ah (aG B.out B.out.size hb); replace H5 := ah (H5.out.below hb); replace H6 := ah (H6.out.below hb); replace H7 := ah (H7.out.below hb); replace H8 := ah (H8.out.below hb); replace X := ah (X.out.below hb); replace hx := fun i => X.out.cell i; clear  hb) | (go_at_call 153; (with_reducible refine (WC.out _).mono ?_); rintro e W3 ⟨rfl, hb⟩; replace B := ah (aG B.out B.out.size hb); replace H5 := ah (H5.out.below hb); replace H6 := ah (H6.out.below hb); replace H7 := ah (H7.out.below hb); replace H8 := ah (H8.out.below hb); replace X := ah (X.out.below hb); replace hx := fun i => X.out.cell i; clear  hb) | (go_at_call 154; (with_reducible refine (S5.out _ _ _ H5.out H7.out).mono ?_); rintro e W4 ⟨v5, rfl, hp, hb⟩; have hp := FI.lower hp B.out.size; replace B := ah (aG B.out B.out.size hb); replace H5 := ah (H5.out.below hb); replace H6 := ah (H6.out.below hb); replace H7 := ah (H7.out.below hb); replace H8 := ah (H8.out.below hb); replace X := ah (X.out.below hb); replace hx := fun i => X.out.cell i; have P5 := ah hp; have Q5 := ah (show W4.heap.size = W4.heap.size from rfl); have hp' := P5.out; obtain ⟨pA, pc, ep⟩ := hp'.slice; subst ep; clear hp hb))
          go_ret3
          exact ⟨_, _, rfl, fun w _ => SI.nil _ w, fun w _ => SI.nil _ w, B.out⟩
        subst d5
        rw [if_neg (by simp)]
        by_cases d6 : e6 = 0
        rotate_left
        · rw [if_pos d6]
          have d6a : (e6 == 0) = false := beq_eq_false_iff_ne.2 d6
          have d6b : (e6 != 0) = true := bne_iff_ne.2 d6
          clear d6
          go_enter Try.func99, Try.ntmps99
          go_wp2_with (first | (go_at_call 131; (with_reducible refine (TH.out _).mono ?_); rintro e W1 ⟨rfl, hb⟩; replace B := ah (aG B.out B.out.size hb); replace H5 := ah (H5.out.below hb); replace H6 := ah (H6.out.below hb); replace H7 := ah (H7.out.below hb); replace H8 := ah (H8.out.below hb); replace X := ah (X.out.below hb); replace hx := fun i => X.out.cell i; clear  hb) | (go_at_call 153; (with_reducible refine (WZ.out _).mono ?_); rintro e W2 ⟨rfl, hb⟩; replace B := ah (aG B.out B.out.size hb); replace H5 := ah (H5.out.below hb); replace H6 := ah (H6.out.below hb); replace H7 := ah (H7.out.below hb); replace H8 := ah (H8.out.below hb); replace X := ah (X.out.below hb); replace hx := fun i => X.out.cell i; clear  hb) | (go_at_call 153; (with_reducible refine (WC.out _).mono ?_); rintro e W3 ⟨rfl, hb⟩; replace B := ah (aG B.out B.out.size hb); replace H5 := ah (H5.out.below hb); replace H6 := ah (H6.out.below hb); replace H7 := ah (H7.out.below hb); replace H8 := ah (H8.out.below hb); replace X := ah (X.out.below hb); replace hx := fun i => X.out.cell i; clear  hb) | (go_at_call 154; (with_reducible refine (S5.out _ _ _ H5.out H7.out).mono ?_); rintro e W4 ⟨v5, rfl, hp, hb⟩; have hp := FI.lower hp B.out.size; replace B := ah (aG B.out B.out.size hb); replace H5 := ah (H5.out.below hb); replace H6 := ah (H6.out.below hb); replace H7 := ah (H7.out.below hb); replace H8 := ah (H8.out.below hb); replace X := ah (X.out.below hb); replace hx := fun i => X.out.cell i; have P5 := ah hp; have Q5 := ah (show W4.heap.size = W4.heap.size from rfl); have hp' := P5.out; obtain ⟨pA, pc, ep⟩ := hp'.slice; subst ep; clear hp hb) | (go_at_call 154; (with_reducible refine (S6.out _ _ _ H6.out H8.out).mono ?_); rintro e W5 ⟨v6, rfl, hp, hb⟩; have hp := FI.lower hp B.out.size; replace B := ah (aG B.out B.out.size hb); replace H5 := ah (H5.out.below hb); replace H6 := ah (H6.out.below hb); replace H7 := ah (H7.out.below hb); replace H8 := ah (H8.out.below hb); replace P5 := ah (P5.out.step (KA.below hb)); replace X := ah (X.out.below hb); replace hx := fun i => X.out.cell i; have P6 := ah hp; have hp' := P6.out; obtain ⟨nA, nc, en⟩ := hp'.slice; subst en; clear hp hb))
          go_ret3
          exact ⟨_, _, rfl, fun w _ => SI.nil _ w, fun w _ => SI.nil _ w, B.out⟩
        subst d6
        rw [if_neg (by simp)]
        go_enter Try.func99, Try.ntmps99
        go_wp2_with (first | (go_at_call 131; (with_reducible refine (TH.out _).mono ?_); rintro e W1 ⟨rfl, hb⟩; replace B := ah (aG B.out B.out.size hb); replace H5 := ah (H5.out.below hb); replace H6 := ah (H6.out.below hb); replace H7 := ah (H7.out.below hb); replace H8 := ah (H8.out.below hb); replace X := ah (X.out.below hb); replace hx := fun i => X.out.cell i; clear  hb) | (go_at_call 153; (with_reducible refine (WZ.out _).mono ?_); rintro e W2 ⟨rfl, hb⟩; replace B := ah (aG B.out B.out.size hb); replace H5 := ah (H5.out.below hb); replace H6 := ah (H6.out.below hb); replace H7 := ah (H7.out.below hb); replace H8 := ah (H8.out.below hb); replace X := ah (X.out.below hb); replace hx := fun i => X.out.cell i; clear  hb) | (go_at_call 153; (with_reducible refine (WC.out _).mono ?_); rintro e W3 ⟨rfl, hb⟩; replace B := ah (aG B.out B.out.size hb); replace H5 := ah (H5.out.below hb); replace H6 := ah (H6.out.below hb); replace H7 := ah (H7.out.below hb); replace H8 := ah (H8.out.below hb); replace X := ah (X.out.below hb); replace hx := fun i => X.out.cell i; clear  hb) | (go_at_call 154; (with_reducible refine (S5.out _ _ _ H5.out H7.out).mono ?_); rintro e W4 ⟨v5, rfl, hp, hb⟩; have hp := FI.lower hp B.out.size; replace B := ah (aG B.out B.out.size hb); replace H5 := ah (H5.out.below hb); replace H6 := ah (H6.out.below hb); replace H7 := ah (H7.out.below hb); replace H8 := ah (H8.out.below hb); replace X := ah (X.out.below hb); replace hx := fun i => X.out.cell i; have P5 := ah hp; have Q5 := ah (show W4.heap.size = W4.heap.size from rfl); have hp' := P5.out; obtain ⟨pA, pc, ep⟩ := hp'.slice; subst ep; clear hp hb) | (go_at_call 154; (with_reducible refine (S6.out _ _ _ H6.out H8.out).mono ?_); rintro e W5 ⟨v6, rfl, hp, hb⟩; have hp := FI.lower hp B.out.size; replace B := ah (aG B.out B.out.size hb); replace H5 := ah (H5.out.below hb); replace H6 := ah (H6.out.below hb); replace H7 := ah (H7.out.below hb); replace H8 := ah (H8.out.below hb); replace P5 := ah (P5.out.step (KA.below hb)); replace X := ah (X.out.below hb); replace hx := fun i => X.out.cell i; have P6 := ah hp; have hp' := P6.out; obtain ⟨nA, nc, en⟩ := hp'.slice; subst en; clear hp hb))
        go_ret3
        exact ⟨_, _, rfl, P5.out, P6.out, B.out⟩
theorem DZ (h : Fh) (hw : EZ h) (w : World) (v : Value) (hv : GI w v h) : Calls Try.prog 99 #[v] w fun e w' =>
  ∃ v0 v1 : Value, e = .returned (.tuple #[v0, v1, .int .i64 (jw h).2.2]) ∧ SI kPu w' v0 (jw h).1 ∧ SI kPu w' v1 (jw h).2.1 ∧ Below w.heap.size w w' :=
 (UO h hw w v hv).mono fun e w1 ⟨v0, v1, e1, h0, h1, hb⟩ => ⟨v0, v1, e1, h0.now, h1.now, hb⟩
set_option maxHeartbeats 4000000 in
set_option maxRecDepth 100000 in
theorem Lh (h : Fh) (hw : EZ h) (w : World) (v : Value) (hv : GI w v h) : Calls Try.prog 37 #[v] w fun e w' =>
  e = .returned (.int .i64 (jU h)) ∧ Below w.heap.size w w' := by
 have hu := Try.underlying55
 obtain ⟨A5, c5, A6, c6, A7, c7, A8, c8, e, -⟩ := hv.open_
 subst e
 have HV := ah hv
 have HW := ah hw
 clear hv hw
 go_enter Try.func37, Try.ntmps37
 go_wp2_with (go_at_call 99; (with_reducible refine (DZ h HW.out _ _ (HV.out.below (ak (Below.refl _ _) _))).mono ?_); rintro e w1 ⟨v0, v1, rfl, h0, h1, hb⟩; have HB := ah (aG (ak (Below.refl w.heap.size w) _) (by simp) hb); clear h0 h1 hb)
 go_ret
 exact ⟨rfl, HB.out⟩
def zL (h : Fh) (side : Int) : List Pu × Int := if side = 0 then ((jw h).1, (jw h).2.2) else if side = 1 then ((jw h).2.1, (jw h).2.2) else ([], 11)
set_option maxHeartbeats 4000000 in
set_option maxRecDepth 100000 in
theorem Lj (h : Fh) (hw : EZ h) (side : Int) (w : World) (v : Value) (hv : GI w v h) : Calls Try.prog 90 #[v, .int .i64 side] w fun e w' =>
  ∃ v0, e = .returned (.tuple #[v0, .int .i64 (zL h side).2]) ∧ SI kPu w' v0 (zL h side).1 ∧ Below w.heap.size w w' := by
 have hu := Try.underlying55
 obtain ⟨A5, c5, A6, c6, A7, c7, A8, c8, e, -⟩ := hv.open_
 subst e
 have HV := ah hv
 have HW := ah hw
 clear hv hw
 unfold zL
 by_cases c0 : side = 0
 ·subst c0
  rw [if_pos rfl]
  go_enter Try.func90, Try.ntmps90
  go_wp2_with (go_at_call 99; (with_reducible refine (DZ h HW.out _ _ (HV.out.below (ak (Below.refl _ _) _))).mono ?_); rintro e w1 ⟨v0, v1, rfl, h0, h1, hb⟩; have HO := ah h0; have HB := ah (aG (ak (Below.refl w.heap.size w) _) (by simp) hb); clear h0 h1 hb)
  go_ret2
  exact ⟨_, rfl, HO.out, HB.out⟩
 ·rw [if_neg c0]
  have c0a : (side == 0) = false := beq_eq_false_iff_ne.2 c0
  have c0b : (side != 0) = true := bne_iff_ne.2 c0
  by_cases c1 : side = 1
  ·subst c1
   rw [if_pos rfl]
   clear c0
   go_enter Try.func90, Try.ntmps90
   go_wp2_with (go_at_call 99; (with_reducible refine (DZ h HW.out _ _ (HV.out.below (ak (Below.refl _ _) _))).mono ?_); rintro e w1 ⟨v0, v1, rfl, h0, h1, hb⟩; have HO := ah h1; have HB := ah (aG (ak (Below.refl w.heap.size w) _) (by simp) hb); clear h0 h1 hb)
   go_ret2
   exact ⟨_, rfl, HO.out, HB.out⟩
  ·rw [if_neg c1]
   have c1a : (side == 1) = false := beq_eq_false_iff_ne.2 c1
   have c1b : (side != 1) = true := bne_iff_ne.2 c1
   clear c0 c1
   go_enter Try.func90, Try.ntmps90
   go_wp2_with (go_at_call 99; (with_reducible refine (DZ h HW.out _ _ (HV.out.below (ak (Below.refl _ _) _))).mono ?_); rintro e w1 ⟨v0, v1, rfl, h0, h1, hb⟩; have HO := ah h1; have HB := ah (aG (ak (Below.refl w.heap.size w) _) (by simp) hb); clear h0 h1 hb)
   go_ret2
   exact ⟨_, rfl, SI.nil _ _, HB.out⟩
def wL (g : Nat) (cap : Array Value) (p : gI → Bool) (w : World) : Prop :=
 ∀ (W : World) (x : gI), Below w.heap.size w W → Calls Try.prog g (#[.agg #[.int .i64 x.f0, .int .u64 x.f1]] ++ cap) W fun e w' => e = .returned (.bool (p x)) ∧ Below W.heap.size W w'
theorem zk (l : List gI) (i : Nat) (h : i < l.length) : bf l (i : Int) = l[i] := by
 unfold bf; simp [List.getD, h]
set_option maxHeartbeats 2000000 in
theorem wM (g : Nat) (cap : Array Value) (p : gI → Bool) (A : Option Addr) (c : Nat) (l : List gI) (w : World)
    (hr : Kd.C kL w A l.length l) (hc : l.length ≤ c) (hm : l.length ≤ 9223372036854775807) (hp : wL g cap p w) (eg : ∀ args w, (callFunc g args).run Try.prog w = .ok (.enter g args) w) :
    Calls Try.prog 173 #[.slice A l.length c, .func (.func g) #[] cap] w fun e w' => e = .returned (.int .i64 (vI p l)) ∧ Below w.heap.size w w' := by
  have hu := Try.underlying192
  have HR := ah hr
  have HP := ah hp
  clear hr hp
  go_enter Try.func173, Try.ntmps173
  go_wp2
  go_loopg [5, 8] l.length (fun gg _ s8 wr => ∃ kk : Nat, kk ≤ l.length ∧ l.length - kk ≤ gg ∧ s8 = .int .i64 kk ∧ aj (Below w.heap.size w wr) ∧ aj (∀ j (hj : j < kk) (hj2 : j < l.length), p l[j] = false))
  case atStart => exact ⟨0, Nat.zero_le _, by omega, rfl, ⟨Below.refl _ w⟩, ⟨fun j hj => absurd hj (Nat.not_lt_zero _)⟩⟩
  case round =>
    obtain ⟨kk, hkk, hg, rfl, HB, HA⟩ := hrel
    by_cases hlt : kk < l.length
    · have hlti : (kk : Int) < (l.length : Int) := by omega
      obtain ⟨ad, e1, hx0, hx1⟩ := vX HR.out kk (by omega) (by omega)
      cases e1
      replace hx0 := (HB.out.cell (World.block_lt_of_cell? w _ hx0)).trans hx0
      replace hx1 := (HB.out.cell (World.block_lt_of_cell? w _ hx1)).trans hx1
      rw [zk l kk hlt, Int.toNat_natCast] at hx0 hx1
      have hcall := HP.out wr l[kk] HB.out
      generalize hy : l[kk] = y at hx0 hx1 hcall
      have HY := ah hy
      clear hy
      cases hq : p y with
      | true =>
        rw [hq] at hcall
        have HQ := ah hq
        clear hq
        have HC := ah hcall
        clear hcall
        go_wp2_with (go_at_fn g; refine HC.out.mono ?_; rintro e w' ⟨rfl, hb'⟩)
        go_ret
        refine ⟨?_, HB.out.trans (hb'.mono HB.out.size)⟩
        rw [Ac p l kk hlt (by rw [HY.out]; exact HQ.out) (fun j hj => HA.out j hj (by omega))]; rfl
      | false =>
        rw [hq] at hcall
        have HQ := ah hq
        clear hq
        have HC := ah hcall
        clear hcall
        go_wp2_with (go_at_fn g; refine HC.out.mono ?_; rintro e w' ⟨rfl, hb'⟩)
        go_roundg (l.length - (kk + 1))
        case measure => omega
        case rel =>
          refine ⟨kk + 1, by omega, by omega, by go_num, ⟨HB.out.trans (hb'.mono HB.out.size)⟩, ⟨fun j hj hj2 => ?_⟩⟩
          by_cases e : j = kk
          · subst e
            rw [HY.out]; exact HQ.out
          · exact HA.out j (by omega) hj2
    · have hlti : ¬ (kk : Int) < (l.length : Int) := by omega
      have hk : kk = l.length := by omega
      go_wp2
      go_ret
      refine ⟨?_, HB.out⟩
      rw [yF p l (fun j hj => HA.out j (by omega) hj)]; rfl
def slices_Clone_pairU.f (l0 : List gI) : Option (List gI) := if l0.length < 8796093022208 then some l0 else none
set_option maxHeartbeats 2000000 in
set_option maxRecDepth 100000 in
theorem slices_Clone_pairU.calls (A0 : Option Addr) (c0 : Nat) (l0 r : List gI) (w : World) (hr0 : Kd.C kL w A0 l0.length l0) (hc0 : l0.length ≤ c0) (h : slices_Clone_pairU.f l0 = some r) :
    Calls Try.prog 149 #[.slice A0 l0.length c0] w fun e w' => ∃ mW : Value, e = .returned (mW) ∧ Kd.R kL 192 w' w.heap.size (fun _ => True) mW r ∧ Below w.heap.size w w' := by
  obtain ⟨hm, h2⟩ := lC h
  subst h2
  clear h
  have hu := Try.underlying129
  have HM := ah hm
  clear hm
  cases A0 with
  | none =>
    have hl : l0 = [] := by
      rcases Nat.eq_zero_or_pos l0.length with h | h
      · exact List.length_eq_zero_iff.1 h
      · obtain ⟨ad, e, _⟩ := hr0.2.2 h
        cases e
    subst hl
    have hn : ∀ W n c, (binOp .eql 129 (.slice none n c) (.slice none 0 0)).run Try.prog W = .ok (.bool true) W := fun W n c => by
      exact Lib.run_eql_slice_nil W _ _ none n c 0 0 Try.underlying129
    go_enter Try.func149, Try.ntmps149
    go_wp2
    go_ret
    exact ⟨_, rfl, Kd.eY _ _ _ _ _, Below.refl _ _⟩
  | some ad =>
    have hn : ∀ W n c, (binOp .eql 129 (.slice (some ad) n c) (.slice none 0 0)).run Try.prog W = .ok (.bool false) W := fun W n c => by
      exact Lib.run_eql_slice_nil W _ _ (some ad) n c 0 0 Try.underlying129
    have HR := ah hr0
    clear hr0
    go_enter Try.func149, Try.ntmps149
    go_wp2_with ((with_reducible refine eG (b := .append) (xs := #[.tmp 5, .tmp 6]) rfl ?_); at_builtin; refine Kd.uV kL (w0 := w) (Rr := kL.K w) w.heap.size rfl (.tmp 5) (.tmp 6) 129 192 _ 16 rfl Try.underlying129 Aa rfl (by decide) (by omega) (.slice (some ⟨w.heap.size, 0, none⟩) 0 0) [] l0 (some ad) l0.length c0 (fun _ => True) (fun _ => False) rfl rfl ?aO ?aR ?aK (fun _ hk => hk.elim) (fun _ _ => trivial) ?aB ?aS ?aL ?_; (case aO => exact ⟨fun _ _ => trivial, [], ⟨rfl, .inr ⟨w.heap.size, 0, #[], rfl, Nat.le_refl _, by simpa using iL w _, Nat.le_refl _, by unfold maxLen; omega, rfl, rfl⟩⟩, jl.none _ _⟩); (case aR => exact HR.out.qZ (ak (Below.refl _ _) _) (fun _ _ h => h)); (case aK => intro x cs hx; rw [G5 hx]; exact lU _ _ _ x); (case aB => exact ak (Below.refl _ _) _); (case aS => simp); (case aL => have := HM.out; simp; omega); intro v1 w1 ho hb hg hat; rw [List.nil_append] at ho; have HO := ah ho; have HB := ah hb; clear ho hb hg hat)
    go_ret
    exact ⟨_, rfl, HO.out, HB.out⟩
theorem Ll : ∀ w w1 base ok x cs, kL.M w base ok x cs → kL.M w1 base ok x cs := fun w w1 base ok x cs h => by
 rw [lI h]; exact lU _ _ _ x
theorem Lm (n : Nat) : (Builtin.zeroCells (Value.agg #[.int .i64 0, .int .u64 0]).cells n).toList.length = n * 2 ∧ ∀ v ∈ (Builtin.zeroCells (Value.agg #[.int .i64 0, .int .u64 0]).cells n).toList, v.oneCell' = true := by
 have hc : (Value.agg #[.int .i64 0, .int .u64 0]).cells = #[.int .i64 0, .int .u64 0] := by kernel_rfl
 rw [hc]
 refine ⟨by simp [Builtin.zeroCells], fun v hv => ?_⟩
 simp only [Builtin.zeroCells, Array.toList_map, List.mem_map] at hv
 obtain ⟨i, _, rfl⟩ := hv
 have : i % 2 = 0 ∨ i % 2 = 1 := by omega
 rcases this with h | h <;> simp [h] <;> rfl
set_option maxHeartbeats 4000000 in
set_option maxRecDepth 100000 in
theorem Bh (g : Nat) (cap : Array Value) (p : gI → Bool) (w0 w : World) (v : Value) (xs : List gI)
    (HO : Kd.R kL 192 w w0.heap.size (fun _ => True) v xs) (HB : Below w0.heap.size w0 w) (hp : wL g cap p w0) (eg : ∀ args w, (callFunc g args).run Try.prog w = .ok (.enter g args) w) :
    Calls Try.prog 148 #[v, .func (.func g) #[] cap] w fun e w' => ∃ v' : Value, e = .returned v' ∧ Kd.R kL 192 w' w0.heap.size (fun _ => True) v' (xs.filter (fun x => !p x)) ∧ Below w0.heap.size w0 w' := by
  have hu := Try.underlying192
  obtain ⟨A, c, rfl, hlc, hC⟩ := Kd.qy HO
  have hm : xs.length ≤ 9223372036854775807 := hC.2.1
  have HI := wM g cap p A c xs w hC hlc hm (fun W x hb => hp W x (aG HB HB.size hb)) eg
  have HX := Eh p xs
  have HP := ah hp
  clear hp
  generalize vI p xs = ix at HI HX
  rcases HX with ⟨rfl, hfil⟩ | ⟨i0, hi0, rfl, hhit, hbef⟩
  · rw [hfil]
    have HI := ah HI
    have HO := ah HO
    have HB := ah HB
    clear hC hfil
    go_enter Try.func148, Try.ntmps148
    go_wp2_with (go_at_call 173; refine HI.out.mono ?_; rintro e w' ⟨rfl, hb'⟩)
    go_ret
    exact ⟨_, rfl, Kd.eU HO.out hb', aG HB.out HB.out.size hb'⟩
  · obtain ⟨gb, cp, hv, hbg, hgl, cells, hcells⟩ := Kd.qC HO (by omega)
    injection hv with hA _ hcp
    subst hA; subst hcp
    have hne : (((i0 : Int)) == -1) = false := beq_eq_false_iff_ne.2 (by omega)
    have HS := DelInv.start hi0 hhit hbef
    have HI := ah HI
    have HO := ah HO
    have HB := ah HB
    have HS := ah HS
    have HM := ah hm
    have hi0' : i0 + 1 ≤ xs.length := hi0
    clear hC hhit hbef hcells
    go_enter Try.func148, Try.ntmps148
    go_wp2_with (go_at_call 173; refine HI.out.mono ?_; rintro e w' ⟨rfl, hb'⟩; have KR := ah (Kd.eU HO.out hb'); have HB1 := ah (aG HB.out HB.out.size hb'); clear hb' HI HO HB)
    go_loopg [5, 6] xs.length (fun gg s5 s6 wr => ∃ (i j : Nat) (ys : List gI), s5 = .int .i64 i ∧ s6 = .int .i64 j ∧ j ≤ xs.length ∧ xs.length - j ≤ gg ∧ aj (DelInv p xs i j ys) ∧ aj (Kd.R kL 192 wr w0.heap.size (fun _ => True) (.slice (some ⟨gb, 0, none⟩) xs.length c) ys) ∧ aj (Below w0.heap.size w0 wr))
    case atStart => exact ⟨i0, i0 + 1, xs, rfl, by go_num, by omega, by omega, HS, KR, HB1⟩
    case round =>
      obtain ⟨i, j, ys, rfl, rfl, hj, hg, HD, HO, HB⟩ := hrel
      clear HS KR HB1
      have hlen := HD.out.len
      have hij := HD.out.lt
      by_cases hlt : j < xs.length
      · have hlti : (j : Int) < (xs.length : Int) := by omega
        have hii : (i : Int) < (xs.length : Int) := by omega
        obtain ⟨hj2, hyx⟩ := HD.out.at_ hlt
        have hC := (Kd.bF HO.out).2.2
        obtain ⟨ad, e1, hx0, hx1⟩ := vX hC j (by omega) (by omega)
        cases e1
        rw [zk ys j hj2, Int.toNat_natCast, hyx] at hx0 hx1
        rw [add_plain] at hx0 hx1
        dsimp only at hx1
        have hcall := HP.out (wr.alloc (.cells #[.int .i64 xs[j].f0, .int .u64 xs[j].f1] 192)) xs[j] (aG HB.out HB.out.size (ak (Below.refl _ _) _))
        clear hC
        cases hq : p xs[j] with
        | true =>
          rw [hq] at hcall
          have HD' := ah (HD.out.skip hlt hq)
          have HC := ah hcall
          clear hcall hq hyx
          generalize xs[j] = y at hx0 hx1 HC
          go_wp2_with (go_at_fn g; refine HC.out.mono ?_; rintro e w' ⟨rfl, hb'⟩; have HB1 := ah (aG (aG HB.out HB.out.size (ak (Below.refl _ _) _)) (by have := HB.out.size; simp; omega) hb'); have KR := ah (Kd.eU (Kd.eU HO.out (ak (Below.refl _ _) _)) hb'); clear hb' HO HB)
          go_roundg (xs.length - (j + 1))
          case measure => omega
          case rel => exact ⟨i, j + 1, ys, rfl, by go_num, by omega, by omega, HD', KR, HB1⟩
        | false =>
          rw [hq] at hcall
          have HD' := ah (HD.out.keep hlt hq)
          have HC := ah hcall
          clear hcall hq hyx
          generalize xs[j] = y at hx0 hx1 HC HD'
          go_wp2_with (first | (go_at_fn g; refine HC.out.mono ?_; rintro e w' ⟨rfl, hb'⟩; have hv0 : w'.cell? ⟨wr.heap.size, 0, none⟩ = some (.int .i64 y.f0) := (hb'.cell (p := ⟨wr.heap.size, 0, none⟩) (by simp)).trans (by simp); have hv1 : w'.cell? ⟨wr.heap.size, 1, none⟩ = some (.int .u64 y.f1) := (hb'.cell (p := ⟨wr.heap.size, 1, none⟩) (by simp)).trans (by simp); have HB1 := ah (aG (aG HB.out HB.out.size (ak (Below.refl _ _) _)) (by have := HB.out.size; simp; omega) hb'); have KR := ah (Kd.eU (Kd.eU HO.out (ak (Below.refl _ _) _)) hb'); clear hb' HO HB) | ((with_reducible refine Vk (.store 192 (.tmp 33) (.tmp 32)) rfl ?_); obtain ⟨ce, hcl, hcM, hcc, hcf⟩ := Kd.jC KR.out Dy (i : Int) (by omega) (by omega); refine Kd.Ol kL (w0 := w0) w0.heap.size rfl rfl 192 (.tmp 33) (.tmp 32) rfl 192 (i : Int) 0 ys y (.agg #[.int .i64 y.f0, .int .u64 y.f1]) [.int .i64 y.f0, .int .u64 y.f1] ce (fun _ => True) (fun _ => False) (by first | rfl | simp) rfl rfl rfl (by kernel_rfl) (by intro q hq; simp at hq; rcases hq with rfl | rfl <;> rfl) KR.out (by omega) (by omega) hcl hcc (by show 0 + 2 ≤ 2; omega) (by rw [show ce.drop (0 + [Value.int .i64 y.f0, Value.int .u64 y.f1].length) = [] from List.drop_eq_nil_of_le (by rw [hcl]; exact Nat.le_refl 2)]; exact lU _ _ _ y) (fun _ h => h.elim) HB1.out ?_; intro w1 ho hb hg; rw [Int.toNat_natCast] at ho; have EF := ah ho; have HB2 := ah hb; clear ho hb hg hcl hcM hcc hcf KR HB1))
          go_roundg (xs.length - (j + 1))
          case measure => omega
          case rel => exact ⟨i + 1, j + 1, ys.set i y, by go_num, by go_num, by omega, by omega, HD', EF, HB2⟩
      · have hjx : j = xs.length := by omega
        subst hjx
        have hlti : ¬ (xs.length : Int) < (xs.length : Int) := by omega
        have hii : (i : Int) < (xs.length : Int) := by omega
        obtain ⟨inner, hown⟩ := Kd.GL HO.out
        obtain ⟨cur, hcur, hcs, hnc⟩ : ∃ cur, wr.heap[gb]? = some (.cells cur 192 (0, 0)) ∧ cur.size = c * 2 ∧ xs.length ≤ c := by
          rcases hown.2 with ⟨hv, _⟩ | ⟨g', cap', cur, hv, hb, hh, hnc, hcm, hcs, ht⟩
          · cases hv
          · injection hv with ha _ hc
            injection ha with ha
            injection ha with hg'
            subst hg'; subst hc
            exact ⟨cur, hh, hcs, by omega⟩
        have hzl := Lm (xs.length - i)
        have hpc := Dc hcur (i * 2) (Builtin.zeroCells (Value.agg #[.int .i64 0, .int .u64 0]).cells (xs.length - i)).toList.length (by rw [hzl.1]; omega)
        have hcl : ∀ ty, (Builtin.clear_ #[129] ty #[.slice (some ⟨gb, i * 2, none⟩) (xs.length - i) (c - i)]).run Try.prog wr = .ok (.tuple #[]) (wr.setCells gb (i * 2) (Builtin.zeroCells (Value.agg #[.int .i64 0, .int .u64 0]).cells (xs.length - i)).toList) := fun ty =>
          wX wr _ _ ty (Value.agg #[.int .i64 0, .int .u64 0]) Try.underlying129 (fun w => by kernel_rfl) gb (i * 2) _ _ (by omega) hzl.2 hpc.1 hpc.2
        have HF := ah HD.out.done
        have HR2 : aj (Kd.R kL 192 (wr.setCells gb (i * 2) (Builtin.zeroCells (Value.agg #[.int .i64 0, .int .u64 0]).cells (xs.length - i)).toList) w0.heap.size (fun _ => True) (.slice (some ⟨gb, 0, none⟩) i c) (ys.take i)) := ⟨JV Ll (Kd.Qx HO.out (by omega)) _ _ (by show i * 2 ≤ i * 2; omega) (by rw [hzl.1]; show i * 2 + (xs.length - i) * 2 ≤ c * 2; omega)⟩
        have HB2 : aj (Below w0.heap.size w0 (wr.setCells gb (i * 2) (Builtin.zeroCells (Value.agg #[.int .i64 0, .int .u64 0]).cells (xs.length - i)).toList)) := ⟨by
          obtain ⟨h1, h2, h3, h4⟩ := rZ gb (Builtin.zeroCells (Value.agg #[.int .i64 0, .int .u64 0]).cells (xs.length - i)).toList (i * 2) wr
          refine HB.out.trans ⟨h1, h2, h3, by rw [h4]; exact Nat.le_refl _, fun k hk => qE _ _ k (by omega)⟩⟩
        have hic : (c = i) = False := by simp; omega
        clear HO HB hpc hzl hcur hcs hown HD
        generalize (Builtin.zeroCells (Value.agg #[.int .i64 0, .int .u64 0]).cells (xs.length - i)).toList = seg at hcl HR2 HB2
        go_wp2
        go_ret
        exact ⟨_, rfl, by rw [← HF.out]; exact HR2.out, HB2.out⟩
set_option maxRecDepth 100000 in
theorem DK (W : World) (x : gI) (B : Nat) (pl : Int) (hc : W.cell? ⟨B, 0, none⟩ = some (.int .u64 pl)) :
  Calls Try.prog 150 #[.agg #[.int .i64 x.f0, .int .u64 x.f1], .pointer (some ⟨B, 0, none⟩)] W fun e w' => e = .returned (.bool (x.f1 == pl)) ∧ Below W.heap.size W w' := by
 have hu := Try.underlying192
 have hB : B < W.heap.size := World.block_lt_of_cell? W ⟨B, 0, none⟩ hc
 have hc2 : (W.alloc (.cells #[.int .i64 x.f0, .int .u64 x.f1] 192)).cell? ⟨B, 0, none⟩ = some (.int .u64 pl) := ((ak (Below.refl _ _) _).cell (p := ⟨B, 0, none⟩) hB).trans hc
 go_enter Try.func150, Try.ntmps150
 go_wp2
 go_ret
 exact ⟨rfl, (Below.refl _ _).alloc (Nat.le_refl _) _⟩
def pairs_Without_uint64.f (l0 : List gI) (a1 : Int) : Option (List gI) :=
 if l0.length < 8796093022208 then some (l0.filter (fun x => !(x.f1 == a1))) else none
set_option maxHeartbeats 2000000 in
set_option maxRecDepth 100000 in
theorem pairs_Without_uint64.calls (A0 : Option Addr) (c0 : Nat) (l0 : List gI) (a1 : Int) (r : List gI) (w : World) (hr0 : Kd.C kL w A0 l0.length l0) (hc0 : l0.length ≤ c0) (h : pairs_Without_uint64.f l0 a1 = some r) :
  Calls Try.prog 94 #[.slice A0 l0.length c0, .int .u64 a1] w fun e w' => ∃ mW : Value, e = .returned (mW) ∧ Kd.R kL 192 w' w.heap.size (fun _ => True) mW r ∧ Below w.heap.size w w' := by
 obtain ⟨hm, h2⟩ := lC h
 subst h2
 clear h
 have HC := ah (slices_Clone_pairU.calls A0 c0 l0 l0 (w.alloc (.cells #[.int .u64 a1] 25)) (Kd.bT hr0 (ak (Below.refl _ _) _)) hc0 (by unfold slices_Clone_pairU.f; rw [if_pos hm]))
 have hp : wL 150 #[.pointer (some ⟨w.heap.size, 0, none⟩)] (fun x => x.f1 == a1) (w.alloc (.cells #[.int .u64 a1] 25)) :=
  fun W x hb => DK W x w.heap.size a1 ((hb.cell (p := ⟨w.heap.size, 0, none⟩) (by simp)).trans (by simp))
 have HD := ah (fun w1 v ho hb => Bh 150 #[.pointer (some ⟨w.heap.size, 0, none⟩)] (fun x => x.f1 == a1) (w.alloc (.cells #[.int .u64 a1] 25)) w1 v l0 ho hb hp (enters_of Try.func150 (by kernel_rfl) rfl))
 clear hp hm hr0 hc0
 go_enter Try.func94, Try.ntmps94
 go_wp2_with (first | (go_at_call 149; refine HC.out.mono ?_; rintro e w' ⟨v, rfl, ho, hb⟩; have HO := ah ho; have HB := ah hb; clear ho hb HC) | (go_at_call 148; refine (HD.out _ _ HO.out HB.out).mono ?_; rintro e w' ⟨v', rfl, ho, hb⟩; have EF := ah ho; have HB2 := ah hb; clear ho hb HD))
 go_ret
 refine ⟨_, rfl, Kd.dh EF.out (by simp), aG (ak (Below.refl _ _) _) (by simp) HB2.out⟩
def gK (l : List Pu) : List Pu := l.filter (fun x => !(x.f1 == 0))
def sW (l : List Pu) : Prop := Sr l ∧ l.length < 4398046511104
structure RowOKU (l : List Pu) : Prop where
 wf : sW l
 len : l.length ≤ 4096
 cnt : ∀ p ∈ l, dY p.f1 = true
 ups : DI (fun p : Pu => p.f0) l
theorem RowOKU.nil : RowOKU [] := ⟨⟨fun s hs => by simp at hs, by simp⟩, by simp, fun s hs => by simp at hs, DI.nil⟩
theorem Lp : ∀ (ps v : List Int), ps.Pairwise (· < ·) → DI (fun p : Pu => p.f0) (List.zipWith (fun p x => (⟨p, x⟩ : Pu)) ps v)
  | [], _, _ => by simp [DI]
  | p :: ps, [], _ => by simp [DI]
  | p :: ps, x :: v, h => by
    have h1 := List.pairwise_cons.1 h
    refine List.pairwise_cons.2 ⟨fun y hy => ?_, Lp ps v h1.2⟩
    have : y.f0 ∈ ps := by
      obtain ⟨i, hi, rfl⟩ := List.mem_iff_getElem.1 hy
      simp only [List.getElem_zipWith]; exact List.getElem_mem _
    exact h1.1 _ this
theorem Hw {l : List Sp} {c : List Int} (hc : Jl c) : RowOKU (jR l c).1 := by
 unfold jR
 by_cases c1 : fU l = 0
 rotate_left
 ·rw [if_neg c1]; exact RowOKU.nil
 rw [if_pos c1]
 by_cases c2 : nK l = c.length
 rotate_left
 ·rw [if_neg c2]; exact RowOKU.nil
 rw [if_pos c2]
 by_cases c3 : c.any (fun v => !dY v) = true
 ·rw [if_pos c3]; exact RowOKU.nil
 rw [if_neg c3]
 have hr := um c1
 have hf : ∀ p ∈ List.zipWith (fun p x => (⟨p, x⟩ : Pu)) (uN 0 l) c, (-1048576 ≤ p.f0 ∧ p.f0 ≤ 1048576) ∧ p.f1 ∈ c := by
  intro y hy
  obtain ⟨i, hi, rfl⟩ := List.mem_iff_getElem.1 hy
  simp only [List.getElem_zipWith]
  exact ⟨yO hr _ (List.getElem_mem _), List.getElem_mem _⟩
 have hl : (List.zipWith (fun p x => (⟨p, x⟩ : Pu)) (uN 0 l) c).length ≤ 4096 := by have := uj c1; simp; omega
 simp only
 refine ⟨⟨fun p hp => ?_, by omega⟩, hl, fun p hp => ?_, Lp _ _ (yQ _ _ hr).1⟩
 ·have h1 := hf p hp; have h2 := h1.1; exact ⟨⟨by omega, by omega⟩, hc _ h1.2⟩
 ·have h1 := hf p hp
  cases hq : dY p.f1 with
  | true => rfl
  | false => exact absurd (List.any_eq_true.2 ⟨_, h1.2, by rw [hq]; rfl⟩) c3
theorem yS {h : Fh} (hw : EZ h) : RowOKU (jw h).1 ∧ RowOKU (jw h).2.1 := by
 obtain ⟨-, -, -, -, -, -, -, h7, h8, -⟩ := hw
 have a := Hw (l := h.f5) h7
 have b := Hw (l := h.f6) h8
 unfold jw
 repeat' split
 all_goals first | exact ⟨a, b⟩ | exact ⟨RowOKU.nil, RowOKU.nil⟩
theorem Fa (l : List Pu) (hl : l.length ≤ 4611686018427) (w : World) (v : Value) (hv : SI kPu w v l) : Calls Try.prog 94 #[v, .int .u64 0] w fun e w' =>
  ∃ v', e = .returned v' ∧ SI kPu w' v' (gK l) ∧ Below w.heap.size w w' := by
 obtain ⟨A, c, rfl, hc, hr⟩ := hv
 refine (pairs_Without_uint64.calls A c l 0 (gK l) w hr hc (if_pos (by omega))).mono ?_
 rintro e w1 ⟨v0, rfl, h0, hb⟩
 exact ⟨v0, rfl, .rC h0, hb⟩
theorem CG {l : List Pu} (h : sW l) : sW (gK l) := ⟨fun s hs => h.1 s (List.mem_filter.1 hs).1, Nat.lt_of_le_of_lt (List.length_filter_le _ _) h.2⟩
theorem Lr (l : List Pu) (hw : sW l) (w : World) (v : Value) (hv : SI kPu w v l) : Calls Try.prog 147 #[v] w fun e w' =>
  ∃ v0 v1 : Value, e = .returned (.tuple #[v0, v1, .int .i64 (gQ l).2.2]) ∧ FI kSp w.heap.size w' v0 (gQ l).1 ∧ FI (Kd.int .u64) w.heap.size w' v1 (gQ l).2.1 ∧ Below w.heap.size w w' := by
 obtain ⟨A, c, rfl, hc, hr⟩ := hv
 refine (pairs_Unzip_uint64.calls (3 * l.length + 2) A c l (gQ l).1 (gQ l).2.1 (gQ l).2.2 w hr hc (PY l hw.1 hw.2 _ (by omega))).mono ?_
 rintro e w1 ⟨v0, v1, rfl, h0, h1, hb⟩
 exact ⟨v0, v1, rfl, .rC h0 (Nat.le_refl _), .rC h1 (Nat.le_refl _), hb⟩
theorem oM {l : List Pu} (hw : sW l) : kU (gQ l).1 ∧ Jl (gQ l).2.1 ∧ (gQ l).2.1.length < 4398046511104 := by
 unfold gQ
 by_cases h : (jO (l.map (·.f0))).2 = 0
 ·rw [if_pos h]
  obtain ⟨hr, hl, hl2, he⟩ := Ey h
  refine ⟨by rw [he]; exact Ez hr hl, fun x hx => ?_, by simpa using hw.2⟩
  obtain ⟨p, hp, rfl⟩ := List.mem_map.1 hx
  exact (hw.1 p hp).2
 ·rw [if_neg h]; exact ⟨fun s hs => by simp at hs, fun s hs => by simp at hs, by simp⟩
def yg (h : Fh) (p n : List Pu) : Fh := ⟨h.f0, h.f1, h.f2, h.f3, h.f4, (gQ p).1, (gQ n).1, (gQ p).2.1, (gQ n).2.1⟩
def zl (h : Fh) (p n : List Pu) : Fh × Int := if (gQ p).2.2 ≠ 0 then (qV, (gQ p).2.2) else if (gQ n).2.2 ≠ 0 then (qV, (gQ n).2.2) else if jU (yg h p n) ≠ 0 then (qV, jU (yg h p n)) else (yg h p n, 0)
theorem Ls {h : Fh} {p n : List Pu} (hw : EZ h) (hp : sW p) (hn : sW n) : EZ (yg h p n) := by
 obtain ⟨a0, a1, a2, a3, a4, -⟩ := hw
 exact ⟨a0, a1, a2, a3, a4, (oM hp).1, (oM hn).1, (oM hp).2.1, (oM hn).2.1, (oM hp).2.2, (oM hn).2.2⟩
set_option maxHeartbeats 8000000 in
set_option maxRecDepth 100000 in
theorem UQ (h : Fh) (p n : List Pu) (hw : EZ (yg h p n)) (hp : sW p) (hn : sW n) (w : World) (v vp vn : Value) (hv : GI w v h) (hvp : SI kPu w vp p) (hvn : SI kPu w vn n) : Calls Try.prog 93 #[v, vp, vn] w fun e w' =>
  ∃ v', e = .returned (.tuple #[v', .int .i64 (zl h p n).2]) ∧ GF w.heap.size w' v' (zl h p n).1 ∧ Below w.heap.size w w' := by
 have hu := Try.underlying55
 obtain ⟨A5, c5, A6, c6, A7, c7, A8, c8, e, -⟩ := hv.open_
 subst e
 have HP := ah hvp
 have HN := ah hvn
 have HW := ah hw
 have F9 := fun w hv => Lr p hp w vp hv
 have HC2 := fun w hv => Lr n hn w vn hv
 clear hv hvp hvn hw hp hn
 unfold zl yg at *
 generalize gQ p = lp at *
 generalize gQ n = ln at *
 obtain ⟨sp, dp, ep⟩ := lp
 obtain ⟨sn, dn, en⟩ := ln
 simp only at HW F9 HC2 ⊢
 replace F9 := ah F9
 replace HC2 := ah HC2
 by_cases c1 : ep = 0
 rotate_left
 ·rw [if_pos c1]
  have c1a : (ep != 0) = true := bne_iff_ne.2 c1
  clear c1
  go_enter Try.func93, Try.ntmps93
  go_wp2_with (first | (go_at_call 147; (with_reducible refine (F9.out _ (HP.out.below (ak (ak (Below.refl _ _) _) _))).mono ?_); rintro e w1 ⟨v0, v1, rfl, h0, h1, hb⟩; obtain ⟨B0, d0, rfl⟩ := h0.slice; obtain ⟨B1, d1, rfl⟩ := h1.slice; have PO := ah (show FI kSp (w.heap.size + 1 + 1) w1 (.slice B0 sp.length d0) sp by simpa using h0); have PS := ah (show FI (Kd.int .u64) (w.heap.size + 1 + 1) w1 (.slice B1 dp.length d1) dp by simpa using h1); have HB1 := ah (aG (ak (ak (Below.refl w.heap.size w) (.cells #[.int .i64 h.f0, .int .u64 h.f1, .int .u64 h.f2, .int .u64 h.f3, .int .u64 h.f4, .slice A5 h.f5.length c5, .slice A6 h.f6.length c6, .slice A7 h.f7.length c7, .slice A8 h.f8.length c8] 55)) (.cells #[.int .i64 0, .int .u64 0, .int .u64 0, .int .u64 0, .int .u64 0, .slice none 0 0, .slice none 0 0, .slice none 0 0, .slice none 0 0] 55)) (by simp; omega) hb); have oO := ah (bD (nZ (iL w (.cells #[.int .i64 h.f0, .int .u64 h.f1, .int .u64 h.f2, .int .u64 h.f3, .int .u64 h.f4, .slice A5 h.f5.length c5, .slice A6 h.f6.length c6, .slice A7 h.f7.length c7, .slice A8 h.f8.length c8] 55)) (.cells #[.int .i64 0, .int .u64 0, .int .u64 0, .int .u64 0, .int .u64 0, .slice none 0 0, .slice none 0 0, .slice none 0 0, .slice none 0 0] 55)) hb); have qh := ah (show w1.heap[w.heap.size + 1]? = some (.cells #[.int .i64 0, .int .u64 0, .int .u64 0, .int .u64 0, .int .u64 0, .slice none 0 0, .slice none 0 0, .slice none 0 0, .slice none 0 0] 55 (0, 0)) from (bD (show ((w.alloc (.cells #[.int .i64 h.f0, .int .u64 h.f1, .int .u64 h.f2, .int .u64 h.f3, .int .u64 h.f4, .slice A5 h.f5.length c5, .slice A6 h.f6.length c6, .slice A7 h.f7.length c7, .slice A8 h.f8.length c8] 55)).alloc (.cells #[.int .i64 0, .int .u64 0, .int .u64 0, .int .u64 0, .int .u64 0, .slice none 0 0, .slice none 0 0, .slice none 0 0, .slice none 0 0] 55)).heap[w.heap.size + 1]? = _ by simpa using iL (w.alloc (.cells #[.int .i64 h.f0, .int .u64 h.f1, .int .u64 h.f2, .int .u64 h.f3, .int .u64 h.f4, .slice A5 h.f5.length c5, .slice A6 h.f6.length c6, .slice A7 h.f7.length c7, .slice A8 h.f8.length c8] 55)) (.cells #[.int .i64 0, .int .u64 0, .int .u64 0, .int .u64 0, .int .u64 0, .slice none 0 0, .slice none 0 0, .slice none 0 0, .slice none 0 0] 55)) hb)); have hfx := fun i => au oO.out i; have hzx := fun i => aC oO.out i; have hfy := fun i => au qh.out i; have hzy := fun i => aC qh.out i; clear h0 h1 hb))
  refine bodyPost_ret (gu rfl _ _ (w.heap.size + 1) 55 #[.int .i64 0, .int .u64 0, .int .u64 0, .int .u64 0, .int .u64 0, .slice none 0 0, .slice none 0 0, .slice none 0 0, .slice none 0 0] (0, 0) _ rfl (nine (iG (iG qh.out (by show w.heap.size + 1 ≠ w.heap.size; omega) _) (by show w.heap.size + 1 ≠ w.heap.size; omega) _) _ _ _ _ _ _ _ _ _) Try.underlying55 rfl (by kernel_rfl)) rfl ?_
  exact ⟨_, rfl, GF.empty _ _, jd (lX HB1.out.size HB1.out) (by omega) _ _ _ _ _ _ _ _ _⟩
 subst c1
 rw [if_neg (by simp)]
 by_cases c2 : en = 0
 rotate_left
 ·rw [if_pos c2]
  have c2a : (en != 0) = true := bne_iff_ne.2 c2
  clear c2
  go_enter Try.func93, Try.ntmps93
  go_wp2_with (first | (go_at_call 147; (with_reducible refine (F9.out _ (HP.out.below (ak (ak (Below.refl _ _) _) _))).mono ?_); rintro e w1 ⟨v0, v1, rfl, h0, h1, hb⟩; obtain ⟨B0, d0, rfl⟩ := h0.slice; obtain ⟨B1, d1, rfl⟩ := h1.slice; have PO := ah (show FI kSp (w.heap.size + 1 + 1) w1 (.slice B0 sp.length d0) sp by simpa using h0); have PS := ah (show FI (Kd.int .u64) (w.heap.size + 1 + 1) w1 (.slice B1 dp.length d1) dp by simpa using h1); have HB1 := ah (aG (ak (ak (Below.refl w.heap.size w) (.cells #[.int .i64 h.f0, .int .u64 h.f1, .int .u64 h.f2, .int .u64 h.f3, .int .u64 h.f4, .slice A5 h.f5.length c5, .slice A6 h.f6.length c6, .slice A7 h.f7.length c7, .slice A8 h.f8.length c8] 55)) (.cells #[.int .i64 0, .int .u64 0, .int .u64 0, .int .u64 0, .int .u64 0, .slice none 0 0, .slice none 0 0, .slice none 0 0, .slice none 0 0] 55)) (by simp; omega) hb); have oO := ah (bD (nZ (iL w (.cells #[.int .i64 h.f0, .int .u64 h.f1, .int .u64 h.f2, .int .u64 h.f3, .int .u64 h.f4, .slice A5 h.f5.length c5, .slice A6 h.f6.length c6, .slice A7 h.f7.length c7, .slice A8 h.f8.length c8] 55)) (.cells #[.int .i64 0, .int .u64 0, .int .u64 0, .int .u64 0, .int .u64 0, .slice none 0 0, .slice none 0 0, .slice none 0 0, .slice none 0 0] 55)) hb); have qh := ah (show w1.heap[w.heap.size + 1]? = some (.cells #[.int .i64 0, .int .u64 0, .int .u64 0, .int .u64 0, .int .u64 0, .slice none 0 0, .slice none 0 0, .slice none 0 0, .slice none 0 0] 55 (0, 0)) from (bD (show ((w.alloc (.cells #[.int .i64 h.f0, .int .u64 h.f1, .int .u64 h.f2, .int .u64 h.f3, .int .u64 h.f4, .slice A5 h.f5.length c5, .slice A6 h.f6.length c6, .slice A7 h.f7.length c7, .slice A8 h.f8.length c8] 55)).alloc (.cells #[.int .i64 0, .int .u64 0, .int .u64 0, .int .u64 0, .int .u64 0, .slice none 0 0, .slice none 0 0, .slice none 0 0, .slice none 0 0] 55)).heap[w.heap.size + 1]? = _ by simpa using iL (w.alloc (.cells #[.int .i64 h.f0, .int .u64 h.f1, .int .u64 h.f2, .int .u64 h.f3, .int .u64 h.f4, .slice A5 h.f5.length c5, .slice A6 h.f6.length c6, .slice A7 h.f7.length c7, .slice A8 h.f8.length c8] 55)) (.cells #[.int .i64 0, .int .u64 0, .int .u64 0, .int .u64 0, .int .u64 0, .slice none 0 0, .slice none 0 0, .slice none 0 0, .slice none 0 0] 55)) hb)); have hfx := fun i => au oO.out i; have hzx := fun i => aC oO.out i; have hfy := fun i => au qh.out i; have hzy := fun i => aC qh.out i; clear h0 h1 hb) | (go_at_call 147; (with_reducible refine (HC2.out _ (HN.out.below (lX (HB1.out.size) HB1.out))).mono ?_); rintro e w3 ⟨v2, v3, rfl, h2, h3, hb⟩; obtain ⟨B2, d2, rfl⟩ := h2.slice; obtain ⟨B3, d3, rfl⟩ := h3.slice; have HS2 := ah (show w.heap.size + 1 + 1 ≤ w1.heap.size from by have := jX qh.out; omega); have HF2 := ah (show FI kSp (w.heap.size + 1 + 1) w3 (.slice B2 sn.length d2) sn from FI.lower h2 (by have := HS2.out; simpa [World.setCell] using this)); have HF3 := ah (show FI (Kd.int .u64) (w.heap.size + 1 + 1) w3 (.slice B3 dn.length d3) dn from FI.lower h3 (by have := HS2.out; simpa [World.setCell] using this)); have KQ := ah (show KA (w.heap.size + 1 + 1) w1 w3 from ((KA.set _ (by omega) _).trans (KA.set _ (by omega) _)).trans (KA.below hb)); have HB3 := ah (aG (lX (HB1.out.size) HB1.out) (by have := HB1.out.size; simpa [World.setCell] using this) hb); have xk := ah (bD (show ((w1.setCell ⟨w.heap.size, 5, none⟩ (.slice B0 sp.length d0)).setCell ⟨w.heap.size, 7, none⟩ (.slice B1 dp.length d1)).heap[w.heap.size]? = some (.cells #[.int .i64 h.f0, .int .u64 h.f1, .int .u64 h.f2, .int .u64 h.f3, .int .u64 h.f4, .slice B0 sp.length d0, .slice A6 h.f6.length c6, .slice B1 dp.length d1, .slice A8 h.f8.length c8] 55 (0, 0)) from bC (bC oO.out 5 _ rfl) 7 _ rfl) hb); have EH := ah (bD (show ((w1.setCell ⟨w.heap.size, 5, none⟩ (.slice B0 sp.length d0)).setCell ⟨w.heap.size, 7, none⟩ (.slice B1 dp.length d1)).heap[w.heap.size + 1]? = some (.cells #[.int .i64 0, .int .u64 0, .int .u64 0, .int .u64 0, .int .u64 0, .slice none 0 0, .slice none 0 0, .slice none 0 0, .slice none 0 0] 55 (0, 0)) from iG (iG qh.out (by show w.heap.size + 1 ≠ w.heap.size; omega) _) (by show w.heap.size + 1 ≠ w.heap.size; omega) _) hb); clear hfx hzx hfy hzy; have hfx := fun i => au xk.out i; have hzx := fun i => aC xk.out i; have hfy := fun i => au EH.out i; have hzy := fun i => aC EH.out i; clear h2 h3 hb))
  refine bodyPost_ret (gu rfl _ _ (w.heap.size + 1) 55 #[.int .i64 0, .int .u64 0, .int .u64 0, .int .u64 0, .int .u64 0, .slice none 0 0, .slice none 0 0, .slice none 0 0, .slice none 0 0] (0, 0) _ rfl (nine (iG (iG EH.out (by show w.heap.size + 1 ≠ w.heap.size; omega) _) (by show w.heap.size + 1 ≠ w.heap.size; omega) _) _ _ _ _ _ _ _ _ _) Try.underlying55 rfl (by kernel_rfl)) rfl ?_
  exact ⟨_, rfl, GF.empty _ _, jd (lX HB3.out.size HB3.out) (by omega) _ _ _ _ _ _ _ _ _⟩
 subst c2
 rw [if_neg (by simp)]
 have hck : ∀ w v5 v6 v7 v8, SI kSp w v5 sp → SI kSp w v6 sn → SI (Kd.int .u64) w v7 dp → SI (Kd.int .u64) w v8 dn → Calls Try.prog 37 #[.agg #[.int .i64 h.f0, .int .u64 h.f1, .int .u64 h.f2, .int .u64 h.f3, .int .u64 h.f4, v5, v6, v7, v8]] w fun e w' => e = .returned (.int .i64 (jU ⟨h.f0, h.f1, h.f2, h.f3, h.f4, sp, sn, dp, dn⟩)) ∧ Below w.heap.size w w' :=
  fun w v5 v6 v7 v8 h5 h6 h7 h8 => Lh _ HW.out w _ (GI.mk (h := ⟨h.f0, h.f1, h.f2, h.f3, h.f4, sp, sn, dp, dn⟩) h5 h6 h7 h8)
 generalize jU ⟨h.f0, h.f1, h.f2, h.f3, h.f4, sp, sn, dp, dn⟩ = ec at hck ⊢
 have HCK := ah hck
 clear hck
 by_cases c3 : ec = 0
 rotate_left
 ·rw [if_pos c3]
  have c3a : (ec != 0) = true := bne_iff_ne.2 c3
  clear c3
  go_enter Try.func93, Try.ntmps93
  go_wp2_with (first | (go_at_call 147; (with_reducible refine (F9.out _ (HP.out.below (ak (ak (Below.refl _ _) _) _))).mono ?_); rintro e w1 ⟨v0, v1, rfl, h0, h1, hb⟩; obtain ⟨B0, d0, rfl⟩ := h0.slice; obtain ⟨B1, d1, rfl⟩ := h1.slice; have PO := ah (show FI kSp (w.heap.size + 1 + 1) w1 (.slice B0 sp.length d0) sp by simpa using h0); have PS := ah (show FI (Kd.int .u64) (w.heap.size + 1 + 1) w1 (.slice B1 dp.length d1) dp by simpa using h1); have HB1 := ah (aG (ak (ak (Below.refl w.heap.size w) (.cells #[.int .i64 h.f0, .int .u64 h.f1, .int .u64 h.f2, .int .u64 h.f3, .int .u64 h.f4, .slice A5 h.f5.length c5, .slice A6 h.f6.length c6, .slice A7 h.f7.length c7, .slice A8 h.f8.length c8] 55)) (.cells #[.int .i64 0, .int .u64 0, .int .u64 0, .int .u64 0, .int .u64 0, .slice none 0 0, .slice none 0 0, .slice none 0 0, .slice none 0 0] 55)) (by simp; omega) hb); have oO := ah (bD (nZ (iL w (.cells #[.int .i64 h.f0, .int .u64 h.f1, .int .u64 h.f2, .int .u64 h.f3, .int .u64 h.f4, .slice A5 h.f5.length c5, .slice A6 h.f6.length c6, .slice A7 h.f7.length c7, .slice A8 h.f8.length c8] 55)) (.cells #[.int .i64 0, .int .u64 0, .int .u64 0, .int .u64 0, .int .u64 0, .slice none 0 0, .slice none 0 0, .slice none 0 0, .slice none 0 0] 55)) hb); have qh := ah (show w1.heap[w.heap.size + 1]? = some (.cells #[.int .i64 0, .int .u64 0, .int .u64 0, .int .u64 0, .int .u64 0, .slice none 0 0, .slice none 0 0, .slice none 0 0, .slice none 0 0] 55 (0, 0)) from (bD (show ((w.alloc (.cells #[.int .i64 h.f0, .int .u64 h.f1, .int .u64 h.f2, .int .u64 h.f3, .int .u64 h.f4, .slice A5 h.f5.length c5, .slice A6 h.f6.length c6, .slice A7 h.f7.length c7, .slice A8 h.f8.length c8] 55)).alloc (.cells #[.int .i64 0, .int .u64 0, .int .u64 0, .int .u64 0, .int .u64 0, .slice none 0 0, .slice none 0 0, .slice none 0 0, .slice none 0 0] 55)).heap[w.heap.size + 1]? = _ by simpa using iL (w.alloc (.cells #[.int .i64 h.f0, .int .u64 h.f1, .int .u64 h.f2, .int .u64 h.f3, .int .u64 h.f4, .slice A5 h.f5.length c5, .slice A6 h.f6.length c6, .slice A7 h.f7.length c7, .slice A8 h.f8.length c8] 55)) (.cells #[.int .i64 0, .int .u64 0, .int .u64 0, .int .u64 0, .int .u64 0, .slice none 0 0, .slice none 0 0, .slice none 0 0, .slice none 0 0] 55)) hb)); have hfx := fun i => au oO.out i; have hzx := fun i => aC oO.out i; have hfy := fun i => au qh.out i; have hzy := fun i => aC qh.out i; clear h0 h1 hb) | (go_at_call 147; (with_reducible refine (HC2.out _ (HN.out.below (lX (HB1.out.size) HB1.out))).mono ?_); rintro e w3 ⟨v2, v3, rfl, h2, h3, hb⟩; obtain ⟨B2, d2, rfl⟩ := h2.slice; obtain ⟨B3, d3, rfl⟩ := h3.slice; have HS2 := ah (show w.heap.size + 1 + 1 ≤ w1.heap.size from by have := jX qh.out; omega); have HF2 := ah (show FI kSp (w.heap.size + 1 + 1) w3 (.slice B2 sn.length d2) sn from FI.lower h2 (by have := HS2.out; simpa [World.setCell] using this)); have HF3 := ah (show FI (Kd.int .u64) (w.heap.size + 1 + 1) w3 (.slice B3 dn.length d3) dn from FI.lower h3 (by have := HS2.out; simpa [World.setCell] using this)); have KQ := ah (show KA (w.heap.size + 1 + 1) w1 w3 from ((KA.set _ (by omega) _).trans (KA.set _ (by omega) _)).trans (KA.below hb)); have HB3 := ah (aG (lX (HB1.out.size) HB1.out) (by have := HB1.out.size; simpa [World.setCell] using this) hb); have xk := ah (bD (show ((w1.setCell ⟨w.heap.size, 5, none⟩ (.slice B0 sp.length d0)).setCell ⟨w.heap.size, 7, none⟩ (.slice B1 dp.length d1)).heap[w.heap.size]? = some (.cells #[.int .i64 h.f0, .int .u64 h.f1, .int .u64 h.f2, .int .u64 h.f3, .int .u64 h.f4, .slice B0 sp.length d0, .slice A6 h.f6.length c6, .slice B1 dp.length d1, .slice A8 h.f8.length c8] 55 (0, 0)) from bC (bC oO.out 5 _ rfl) 7 _ rfl) hb); have EH := ah (bD (show ((w1.setCell ⟨w.heap.size, 5, none⟩ (.slice B0 sp.length d0)).setCell ⟨w.heap.size, 7, none⟩ (.slice B1 dp.length d1)).heap[w.heap.size + 1]? = some (.cells #[.int .i64 0, .int .u64 0, .int .u64 0, .int .u64 0, .int .u64 0, .slice none 0 0, .slice none 0 0, .slice none 0 0, .slice none 0 0] 55 (0, 0)) from iG (iG qh.out (by show w.heap.size + 1 ≠ w.heap.size; omega) _) (by show w.heap.size + 1 ≠ w.heap.size; omega) _) hb); clear hfx hzx hfy hzy; have hfx := fun i => au xk.out i; have hzx := fun i => aC xk.out i; have hfy := fun i => au EH.out i; have hzy := fun i => aC EH.out i; clear h2 h3 hb) | (go_at_call 37; (with_reducible refine (HCK.out _ _ _ _ _ (PO.out.at_ (KQ.out.trans ((KA.set _ (by omega) _).trans (KA.set _ (by omega) _)))) (HF2.out.at_ ((KA.set _ (by omega) _).trans (KA.set _ (by omega) _))) (PS.out.at_ (KQ.out.trans ((KA.set _ (by omega) _).trans (KA.set _ (by omega) _)))) (HF3.out.at_ ((KA.set _ (by omega) _).trans (KA.set _ (by omega) _)))).mono ?_); rintro e w5 ⟨rfl, hb⟩; have RS := ah (show KA (w.heap.size + 1 + 1) w3 w5 from ((KA.set _ (by omega) _).trans (KA.set _ (by omega) _)).trans (KA.below hb)); have KE := ah (aG (lX (HB3.out.size) HB3.out) (by have := HB3.out.size; simpa [World.setCell] using this) hb); have Nv := ah (bD (show ((w3.setCell ⟨w.heap.size, 6, none⟩ (.slice B2 sn.length d2)).setCell ⟨w.heap.size, 8, none⟩ (.slice B3 dn.length d3)).heap[w.heap.size]? = some (.cells #[.int .i64 h.f0, .int .u64 h.f1, .int .u64 h.f2, .int .u64 h.f3, .int .u64 h.f4, .slice B0 sp.length d0, .slice B2 sn.length d2, .slice B1 dp.length d1, .slice B3 dn.length d3] 55 (0, 0)) from bC (bC xk.out 6 _ rfl) 8 _ rfl) hb); have EI := ah (bD (show ((w3.setCell ⟨w.heap.size, 6, none⟩ (.slice B2 sn.length d2)).setCell ⟨w.heap.size, 8, none⟩ (.slice B3 dn.length d3)).heap[w.heap.size + 1]? = some (.cells #[.int .i64 0, .int .u64 0, .int .u64 0, .int .u64 0, .int .u64 0, .slice none 0 0, .slice none 0 0, .slice none 0 0, .slice none 0 0] 55 (0, 0)) from iG (iG EH.out (by show w.heap.size + 1 ≠ w.heap.size; omega) _) (by show w.heap.size + 1 ≠ w.heap.size; omega) _) hb); clear hfx hzx hfy hzy; have hfx := fun i => au Nv.out i; have hzx := fun i => aC Nv.out i; have hfy := fun i => au EI.out i; have hzy := fun i => aC EI.out i; clear hb))
  refine bodyPost_ret (gu rfl _ _ (w.heap.size + 1) 55 #[.int .i64 0, .int .u64 0, .int .u64 0, .int .u64 0, .int .u64 0, .slice none 0 0, .slice none 0 0, .slice none 0 0, .slice none 0 0] (0, 0) _ rfl (nine (EI.out) _ _ _ _ _ _ _ _ _) Try.underlying55 rfl (by kernel_rfl)) rfl ?_
  exact ⟨_, rfl, GF.empty _ _, jd KE.out (by omega) _ _ _ _ _ _ _ _ _⟩
 subst c3
 rw [if_neg (by simp)]
 go_enter Try.func93, Try.ntmps93
 go_wp2_with (first | (go_at_call 147; (with_reducible refine (F9.out _ (HP.out.below (ak (ak (Below.refl _ _) _) _))).mono ?_); rintro e w1 ⟨v0, v1, rfl, h0, h1, hb⟩; obtain ⟨B0, d0, rfl⟩ := h0.slice; obtain ⟨B1, d1, rfl⟩ := h1.slice; have PO := ah (show FI kSp (w.heap.size + 1 + 1) w1 (.slice B0 sp.length d0) sp by simpa using h0); have PS := ah (show FI (Kd.int .u64) (w.heap.size + 1 + 1) w1 (.slice B1 dp.length d1) dp by simpa using h1); have HB1 := ah (aG (ak (ak (Below.refl w.heap.size w) (.cells #[.int .i64 h.f0, .int .u64 h.f1, .int .u64 h.f2, .int .u64 h.f3, .int .u64 h.f4, .slice A5 h.f5.length c5, .slice A6 h.f6.length c6, .slice A7 h.f7.length c7, .slice A8 h.f8.length c8] 55)) (.cells #[.int .i64 0, .int .u64 0, .int .u64 0, .int .u64 0, .int .u64 0, .slice none 0 0, .slice none 0 0, .slice none 0 0, .slice none 0 0] 55)) (by simp; omega) hb); have oO := ah (bD (nZ (iL w (.cells #[.int .i64 h.f0, .int .u64 h.f1, .int .u64 h.f2, .int .u64 h.f3, .int .u64 h.f4, .slice A5 h.f5.length c5, .slice A6 h.f6.length c6, .slice A7 h.f7.length c7, .slice A8 h.f8.length c8] 55)) (.cells #[.int .i64 0, .int .u64 0, .int .u64 0, .int .u64 0, .int .u64 0, .slice none 0 0, .slice none 0 0, .slice none 0 0, .slice none 0 0] 55)) hb); have qh := ah (show w1.heap[w.heap.size + 1]? = some (.cells #[.int .i64 0, .int .u64 0, .int .u64 0, .int .u64 0, .int .u64 0, .slice none 0 0, .slice none 0 0, .slice none 0 0, .slice none 0 0] 55 (0, 0)) from (bD (show ((w.alloc (.cells #[.int .i64 h.f0, .int .u64 h.f1, .int .u64 h.f2, .int .u64 h.f3, .int .u64 h.f4, .slice A5 h.f5.length c5, .slice A6 h.f6.length c6, .slice A7 h.f7.length c7, .slice A8 h.f8.length c8] 55)).alloc (.cells #[.int .i64 0, .int .u64 0, .int .u64 0, .int .u64 0, .int .u64 0, .slice none 0 0, .slice none 0 0, .slice none 0 0, .slice none 0 0] 55)).heap[w.heap.size + 1]? = _ by simpa using iL (w.alloc (.cells #[.int .i64 h.f0, .int .u64 h.f1, .int .u64 h.f2, .int .u64 h.f3, .int .u64 h.f4, .slice A5 h.f5.length c5, .slice A6 h.f6.length c6, .slice A7 h.f7.length c7, .slice A8 h.f8.length c8] 55)) (.cells #[.int .i64 0, .int .u64 0, .int .u64 0, .int .u64 0, .int .u64 0, .slice none 0 0, .slice none 0 0, .slice none 0 0, .slice none 0 0] 55)) hb)); have hfx := fun i => au oO.out i; have hzx := fun i => aC oO.out i; have hfy := fun i => au qh.out i; have hzy := fun i => aC qh.out i; clear h0 h1 hb) | (go_at_call 147; (with_reducible refine (HC2.out _ (HN.out.below (lX (HB1.out.size) HB1.out))).mono ?_); rintro e w3 ⟨v2, v3, rfl, h2, h3, hb⟩; obtain ⟨B2, d2, rfl⟩ := h2.slice; obtain ⟨B3, d3, rfl⟩ := h3.slice; have HS2 := ah (show w.heap.size + 1 + 1 ≤ w1.heap.size from by have := jX qh.out; omega); have HF2 := ah (show FI kSp (w.heap.size + 1 + 1) w3 (.slice B2 sn.length d2) sn from FI.lower h2 (by have := HS2.out; simpa [World.setCell] using this)); have HF3 := ah (show FI (Kd.int .u64) (w.heap.size + 1 + 1) w3 (.slice B3 dn.length d3) dn from FI.lower h3 (by have := HS2.out; simpa [World.setCell] using this)); have KQ := ah (show KA (w.heap.size + 1 + 1) w1 w3 from ((KA.set _ (by omega) _).trans (KA.set _ (by omega) _)).trans (KA.below hb)); have HB3 := ah (aG (lX (HB1.out.size) HB1.out) (by have := HB1.out.size; simpa [World.setCell] using this) hb); have xk := ah (bD (show ((w1.setCell ⟨w.heap.size, 5, none⟩ (.slice B0 sp.length d0)).setCell ⟨w.heap.size, 7, none⟩ (.slice B1 dp.length d1)).heap[w.heap.size]? = some (.cells #[.int .i64 h.f0, .int .u64 h.f1, .int .u64 h.f2, .int .u64 h.f3, .int .u64 h.f4, .slice B0 sp.length d0, .slice A6 h.f6.length c6, .slice B1 dp.length d1, .slice A8 h.f8.length c8] 55 (0, 0)) from bC (bC oO.out 5 _ rfl) 7 _ rfl) hb); have EH := ah (bD (show ((w1.setCell ⟨w.heap.size, 5, none⟩ (.slice B0 sp.length d0)).setCell ⟨w.heap.size, 7, none⟩ (.slice B1 dp.length d1)).heap[w.heap.size + 1]? = some (.cells #[.int .i64 0, .int .u64 0, .int .u64 0, .int .u64 0, .int .u64 0, .slice none 0 0, .slice none 0 0, .slice none 0 0, .slice none 0 0] 55 (0, 0)) from iG (iG qh.out (by show w.heap.size + 1 ≠ w.heap.size; omega) _) (by show w.heap.size + 1 ≠ w.heap.size; omega) _) hb); clear hfx hzx hfy hzy; have hfx := fun i => au xk.out i; have hzx := fun i => aC xk.out i; have hfy := fun i => au EH.out i; have hzy := fun i => aC EH.out i; clear h2 h3 hb) | (go_at_call 37; (with_reducible refine (HCK.out _ _ _ _ _ (PO.out.at_ (KQ.out.trans ((KA.set _ (by omega) _).trans (KA.set _ (by omega) _)))) (HF2.out.at_ ((KA.set _ (by omega) _).trans (KA.set _ (by omega) _))) (PS.out.at_ (KQ.out.trans ((KA.set _ (by omega) _).trans (KA.set _ (by omega) _)))) (HF3.out.at_ ((KA.set _ (by omega) _).trans (KA.set _ (by omega) _)))).mono ?_); rintro e w5 ⟨rfl, hb⟩; have RS := ah (show KA (w.heap.size + 1 + 1) w3 w5 from ((KA.set _ (by omega) _).trans (KA.set _ (by omega) _)).trans (KA.below hb)); have KE := ah (aG (lX (HB3.out.size) HB3.out) (by have := HB3.out.size; simpa [World.setCell] using this) hb); have Nv := ah (bD (show ((w3.setCell ⟨w.heap.size, 6, none⟩ (.slice B2 sn.length d2)).setCell ⟨w.heap.size, 8, none⟩ (.slice B3 dn.length d3)).heap[w.heap.size]? = some (.cells #[.int .i64 h.f0, .int .u64 h.f1, .int .u64 h.f2, .int .u64 h.f3, .int .u64 h.f4, .slice B0 sp.length d0, .slice B2 sn.length d2, .slice B1 dp.length d1, .slice B3 dn.length d3] 55 (0, 0)) from bC (bC xk.out 6 _ rfl) 8 _ rfl) hb); have EI := ah (bD (show ((w3.setCell ⟨w.heap.size, 6, none⟩ (.slice B2 sn.length d2)).setCell ⟨w.heap.size, 8, none⟩ (.slice B3 dn.length d3)).heap[w.heap.size + 1]? = some (.cells #[.int .i64 0, .int .u64 0, .int .u64 0, .int .u64 0, .int .u64 0, .slice none 0 0, .slice none 0 0, .slice none 0 0, .slice none 0 0] 55 (0, 0)) from iG (iG EH.out (by show w.heap.size + 1 ≠ w.heap.size; omega) _) (by show w.heap.size + 1 ≠ w.heap.size; omega) _) hb); clear hfx hzx hfy hzy; have hfx := fun i => au Nv.out i; have hzx := fun i => aC Nv.out i; have hfy := fun i => au EI.out i; have hzy := fun i => aC EI.out i; clear hb))
 refine bodyPost_ret (gu rfl _ _ (w.heap.size + 1) 55 #[.int .i64 h.f0, .int .u64 h.f1, .int .u64 h.f2, .int .u64 h.f3, .int .u64 h.f4, .slice B0 sp.length d0, .slice B2 sn.length d2, .slice B1 dp.length d1, .slice B3 dn.length d3] (0, 0) _ rfl (nine (EI.out) _ _ _ _ _ _ _ _ _) Try.underlying55 rfl (by kernel_rfl)) rfl ?_
 exact ⟨_, rfl, GF.mk (h := ⟨h.f0, h.f1, h.f2, h.f3, h.f4, sp, sn, dp, dn⟩) ((PO.out.step (KQ.out.trans (sG RS.out (by omega) _ _ _ _ _ _ _ _ _))).lower (by omega)) ((HF2.out.step (sG RS.out (by omega) _ _ _ _ _ _ _ _ _)).lower (by omega)) ((PS.out.step (KQ.out.trans (sG RS.out (by omega) _ _ _ _ _ _ _ _ _))).lower (by omega)) ((HF3.out.step (sG RS.out (by omega) _ _ _ _ _ _ _ _ _)).lower (by omega)), jd KE.out (by omega) _ _ _ _ _ _ _ _ _⟩
theorem UR (h : Fh) (hw : EZ h) (p n : List Pu) (hp : sW p) (hn : sW n) (w : World) (v vp vn : Value) (hv : GI w v h) (hvp : SI kPu w vp p) (hvn : SI kPu w vn n) : Calls Try.prog 93 #[v, vp, vn] w fun e w' =>
 ∃ v', e = .returned (.tuple #[v', .int .i64 (zl h p n).2]) ∧ GF w.heap.size w' v' (zl h p n).1 ∧ Below w.heap.size w w' := UQ h p n (Ls hw hp hn) hp hn w v vp vn hv hvp hvn
attribute [local go_sem] iV iW jH jI gW gX iY iZ
def fhist_Right.f (a0 : Int) : Option (Bool) := (hist_Threshold.f a0).bind fun dV => (some dV)
set_option maxHeartbeats 8000000 in
set_option maxRecDepth 100000 in
theorem fhist_Right.calls (a0 : Int) (r : Bool) (w : World) (h : fhist_Right.f a0 = some r) :
  Calls Try.prog 146 #[.int .u64 a0] w fun e w' => e = .returned (.bool r) ∧ cZ w w' := by
 have H : ((hist_Threshold.f a0).bind fun dV => (some dV)) = some r := h
 clear h
 replace H := Option.bind_eq_some_iff.mp H
 obtain ⟨dV, tC, H⟩ := H
 replace H : (some dV) = some r := H
 have A2 := ah tC
 clear tC
 obtain rfl := Option.some.inj H
 go_enter Try.func146, Try.ntmps146
 go_wp2_with (first | ((with_reducible refine bP (f := 131) rfl ?_); refine gU (some 4) Try.func131 #[.int .u64 a0] ?_; (with_reducible refine (hist_Threshold.calls a0 dV _ A2.out).mono ?_); rintro e w' ⟨rfl, ⟨nd, rfl⟩⟩; refine ⟨_, rfl, ?_⟩; clear A2))
 go_ret
 exact ⟨by first | rfl | (simp; done) | (simp [*]; done), by repeat (first | exact cZ.refl _ | apply cZ.step)⟩
end Go.Proofs.Ytooiccpmngmapaa.P
namespace Go.Proofs.Ytooiccpmngmapaa.P
open Go.RowKit Go.Proofs.YtooiccpmngmapaaW.PrintWords Go.Proofs.YtooiccpmngmapaaW.PrintLast Go.Proofs.YtooiccpmngmapaaW.PrintMore
theorem CJ (v : Int) (w : World) : (callFunc 106 #[.int .u64 v]).run Try.prog w = .ok (.value (.float .f64 v.toNat)) w := by
 rw [run_callFunc_extern Try.func106 (by kernel_rfl) (by kernel_rfl) (by kernel_rfl) (e := Extern.MathFloatBits.float64frombits) (by kernel_rfl)]
 rfl
theorem CO (v : Nat) (w : World) : (callFunc 145 #[.float .f64 v]).run Try.prog w = .ok (.value (.int .u64 v)) w := by
 rw [run_callFunc_extern Try.func145 (by kernel_rfl) (by kernel_rfl) (by kernel_rfl) (e := Extern.MathFloatBits.float64bits) (by kernel_rfl)]
 rfl
def Bj (a b : Int) : Option Nat := FloatKind.f64.format.add a.toNat b.toNat
theorem Lu (a b : Int) (s : Nat) (h : Bj a b = some s) (t : TypeId) (w : World) : (binOp .add t (.float .f64 a.toNat) (.float .f64 b.toNat)).run Try.prog w = .ok (.float .f64 s) w := by
 unfold Bj at h
 simp only [binOp, Op.floatArith, h]
 rfl
theorem UU (n : Int) (w : World) : (convert 25 150 (.int .u64 n)).run Try.prog w = .ok (.float .f64 (FloatKind.f64.nearest n)) w := by
 kernel_rfl
def fhist_Float.f (v : Int) : Option Int := some (FloatKind.f64.nearest v : Nat)
theorem fhist_Float.calls (a0 : Int) (r : Int) (w : World) (h : fhist_Float.f a0 = some r) : Calls Try.prog 137 #[.int .u64 a0] w fun e w' => e = .returned (.int .u64 r) ∧ cZ w w' := by
 unfold fhist_Float.f at h
 have hc := UU a0
 generalize FloatKind.f64.nearest a0 = n at *
 cases h
 have hb := CO n
 go_enter Try.func137, Try.ntmps137
 go_wp2
 go_ret
 exact ⟨rfl, cZ.refl _⟩
def Jo (v : Int) : Bool := decide (v < 9218868437227405312)
theorem Gs (v : Int) : fhist_Right.f v = some (Jo v) := rfl
def scale_float.f (a b : Int) : Option (Int × Bool) := (Bj a b).bind fun s => some ((s : Int), Jo s)
theorem scale_float.calls (a0 a1 : Int) (r1 : Int) (r2 : Bool) (w : World) (h : scale_float.f a0 a1 = some (r1, r2)) : Calls Try.prog 92 #[.int .u64 a0, .int .u64 a1] w fun e w' => e = .returned (.tuple #[.int .u64 r1, .bool r2]) ∧ cZ w w' := by
  unfold scale_float.f at h
  cases hs : Bj a0 a1 with
  | none => rw [hs] at h; cases h
  | some s =>
    rw [hs] at h
    cases h
    have h0 := CJ a0
    have h1 := CJ a1
    have hb := CO s
    have ha := Lu a0 a1 s hs 150
    have HR := ah (fun w => fhist_Right.calls (s : Int) _ w (Gs (s : Int)))
    generalize a0.toNat = n0 at *
    generalize a1.toNat = n1 at *
    generalize Jo (s : Int) = rr at *
    go_enter Try.func92, Try.ntmps92
    go_wp2_with (go_at_call 146; (with_reducible refine (HR.out _).mono ?_); rintro e w1 ⟨rfl, hd⟩)
    go_ret2
    exact ⟨rfl, hd⟩
attribute [local go_sem] iV iW jH jI gW gX iY iZ
mutual
def scale_widen_uint64.l0 : Nat → Int → List (gI) → List (gI) → Int → Int → Option ((List (gI)) × Bool)
 | 0, _, _, _, _, _ => none
 | k + 1, x1, x8, x15, x16, x17 => if x17 < x16 then (if 0 ≤ x17 then (if x17 < (x15.length : Int) then ((scale_Place.f k ((bf x15 x17).f0) x1).bind fun dZ => (if (x8.length : Int) > 0 then (if 0 ≤ (wrap64 ((x8.length : Int) - 1)) then (if (wrap64 ((x8.length : Int) - 1)) < (x8.length : Int) then (scale_widen_uint64.j1 k x1 x8 dZ (x8.length : Int) x15 x16 x17 (((bf x8 (wrap64 ((x8.length : Int) - 1))).f0) == dZ) ((bf x15 x17).f0) ((bf x15 x17).f1)) else (none)) else (none)) else (scale_widen_uint64.j1 k x1 x8 dZ (x8.length : Int) x15 x16 x17 false ((bf x15 x17).f0) ((bf x15 x17).f1)))) else (none)) else (none)) else (some (x8, true))
def scale_widen_uint64.j1 : Nat → Int → List (gI) → Int → Int → List (gI) → Int → Int → Bool → Int → Int → Option ((List (gI)) × Bool)
 | 0, _, _, _, _, _, _, _, _, _, _ => none
 | k + 1, x1, x8, x11, x12, x15, x16, x17, x38, lN, lg => if x38 = true then (if 0 ≤ (wrap64 (x12 - 1)) then (if (wrap64 (x12 - 1)) < (x8.length : Int) then ((scale_float.f ((bf x8 (wrap64 (x12 - 1))).f1) lg).bind fun nR => (if nR.2 = true then (scale_widen_uint64.l0 k x1 (x8.set ((wrap64 (x12 - 1)) : Int).toNat (⟨(bf x8 (wrap64 (x12 - 1))).f0, nR.1⟩ : gI)) x15 x16 (wrap64 (x17 + 1))) else (some (([] : List (gI)), false)))) else (none)) else (none)) else (if x8.length < 8796093022208 then (scale_widen_uint64.l0 k x1 (x8 ++ [(⟨x11, lg⟩ : gI)]) x15 x16 (wrap64 (x17 + 1))) else (none))
end
def scale_widen_uint64.f (k : Nat) (l0 : List (gI)) (a1 : Int) : Option ((List (gI)) × Bool) := scale_widen_uint64.l0 k a1 ([] : List (gI)) l0 (l0.length : Int) 0
set_option maxHeartbeats 8000000 in
set_option maxRecDepth 100000 in
theorem scale_widen_uint64.calls (k : Nat) (A0 : Option Addr) (c0 : Nat) (l0 : List (gI)) (a1 : Int) (r1 : List (gI)) (r2 : Bool) (w : World) (hr0 : Kd.C kL w A0 l0.length l0) (hc0 : l0.length ≤ c0) (h : scale_widen_uint64.f k l0 a1 = some (r1, r2)) :
  Calls Try.prog 91 #[.slice A0 l0.length c0, .int .i64 a1, .func (.func 92) #[] #[]] w fun e w' => ∃ mW : Value, e = .returned (.tuple #[mW, .bool r2]) ∧ Kd.R kL 192 w' w.heap.size (fun _ => True) mW r1 ∧ Below w.heap.size w w' := by
 have VL := Try.underlying192
 have HR0 := ah hr0
 have uH := ah hc0
 clear hr0 hc0
 have HB := ah (Below.refl w.heap.size w)
 have H : (scale_widen_uint64.l0 k a1 ([] : List (gI)) l0 (l0.length : Int) 0) = some (r1, r2) := h
 clear h
 have H' := ah H
 clear H
 go_enter Try.func91, Try.ntmps91
 go_wp2
 repeat (go_quiet (fail); try go_wp2)
 go_loopg [8, 17] k (fun kq v8 v17 w' => ∃ (bK : List (gI)) (bY : Int), v17 = .int .i64 bY ∧ aj (scale_widen_uint64.l0 kq a1 bK l0 (l0.length : Int) bY = some (r1, r2)) ∧ aj (kq ≤ k) ∧ aj (Kd.R kL 192 w' w.heap.size (fun _ => True) v8 bK) ∧ aj (Below w.heap.size w w'))
 case atStart => exact ⟨(([] : List (gI))), (0), (by first | rfl | (simp; done) | (simp [*]; done)), H', ⟨Nat.le_refl _⟩, ⟨by first | exact Kd.eY _ _ _ _ _ | exact Kd.ig _ _ _ _ _ | exact Kd.iq _ _ _ _ _ | exact Kd.gY _ _ _ _ _ | exact Kd.gZ _ _ _ _ _⟩, ⟨by repeat (first | (with_reducible first | exact HB.out | apply ak | apply ay | apply aH) | exact HB.out)⟩⟩
 case round =>
  clear H'
  try clear p2
  obtain ⟨bK, bY, rfl, HA, jy, HO_8, HB⟩ := hrel
  cases gk with
  | zero => exact absurd HA.out (by simp [scale_widen_uint64.l0])
  | succ k1 =>
   have H := HA.out
   clear HA
   simp only [scale_widen_uint64.l0] at H
   by_cases c4 : bY < (l0.length : Int)
   ·rw [if_pos c4] at H
    have c4b0 : decide (bY < (l0.length : Int)) = true := ahG c4
    clear c4
    by_cases c5 : 0 ≤ bY
    ·rw [if_pos c5] at H
     have c5b0 : decide (0 ≤ bY) = true := ahG c5
     clear c5
     by_cases c6 : bY < (l0.length : Int)
     ·rw [if_pos c6] at H
      have c6b0 : decide (bY < (l0.length : Int)) = true := ahG c6
      clear c6
      replace H := Option.bind_eq_some_iff.mp H
      obtain ⟨dZ, RX, H⟩ := H
      replace H : (if (bK.length : Int) > 0 then (if 0 ≤ (wrap64 ((bK.length : Int) - 1)) then (if (wrap64 ((bK.length : Int) - 1)) < (bK.length : Int) then (scale_widen_uint64.j1 k1 a1 bK dZ (bK.length : Int) l0 (l0.length : Int) bY (((bf bK (wrap64 ((bK.length : Int) - 1))).f0) == dZ) ((bf l0 bY).f0) ((bf l0 bY).f1)) else (none)) else (none)) else (scale_widen_uint64.j1 k1 a1 bK dZ (bK.length : Int) l0 (l0.length : Int) bY false ((bf l0 bY).f0) ((bf l0 bY).f1))) = some (r1, r2) := H
      have A7 := ah RX
      clear RX
      have Xh := ah H
      clear H
      have fC : 0 ≤ (bY : Int) := ahF (by assumption)
      have fD : bY < (l0.length : Int) := ahF (by assumption)
      obtain ⟨kE, jM, bW, dS⟩ := vX HR0.out bY fC fD
      cases jM
      replace bW := (HB.out.cell (World.block_lt_of_cell? w _ bW)).trans bW
      replace dS := (HB.out.cell (World.block_lt_of_cell? w _ dS)).trans dS
      replace fC := eq_true fC
      replace fD := eq_true fD
      go_upto_region 7 with (first | ((with_reducible refine fK (N := 10) rfl ?_); refine fA ?hg (N := 10) ?hd (cs := #[.int .i64 0, .int .u64 0]) (t := 192) ?hr ?_; (case hd => rfl); (case hg => rfl); (case hr => first | (go_simp; done) | (go_simp; rfl)); intro aI hg w9 hbox hb; have aJ := ah (hbox); have oN := ah ((by rw [hg]; exact (aQ (bg HB.out)) : w.heap.size ≤ aI)); have bU := ah ((by rw [hg]; exact (aQ (bg HB.out)) : w.heap.size ≤ aI)); replace HO_8 := ah (Kd.eU (Kd.vF (Kd.fJ HO_8.out) aI (Nat.le_of_eq hg.symm)) hb); replace HB := ah (aZ (bg HB.out) hb); clear hb hbox hg; have wI := au aJ.out; have wJ := aC aJ.out) | (go_at_call 77; (with_reducible refine (scale_Place.calls k1 ((bf l0 bY).f0) a1 dZ _ A7.out).mono ?_); rintro e w' ⟨rfl, ⟨nd, rfl⟩⟩; (try first | exact ⟨rfl, _, World.drewN_drewN _ _ _⟩ | exact ⟨rfl, _, Eq.trans (World.drewN_drewN _ _ _) (congrArg (World.drewN _) (Nat.add_assoc _ _ _))⟩); clear A7; obtain ⟨AX, oz, Ce⟩ := Kd.dw HO_8.out; subst Ce))
      repeat (go_quiet (first | ((with_reducible refine fK (N := 10) rfl ?_); refine fA ?hg (N := 10) ?hd (cs := #[.int .i64 0, .int .u64 0]) (t := 192) ?hr ?_; (case hd => rfl); (case hg => rfl); (case hr => first | (go_simp; done) | (go_simp; rfl)); intro aI hg w9 hbox hb; have aJ := ah (hbox); have oN := ah ((by rw [hg]; exact (aQ (bg HB.out)) : w.heap.size ≤ aI)); have bU := ah ((by rw [hg]; exact (aQ (bg HB.out)) : w.heap.size ≤ aI)); replace HO_8 := ah (Kd.eU (Kd.vF (Kd.fJ HO_8.out) aI (Nat.le_of_eq hg.symm)) hb); replace HB := ah (aZ (bg HB.out) hb); clear hb hbox hg; have wI := au aJ.out; have wJ := aC aJ.out) | (go_at_call 77; (with_reducible refine (scale_Place.calls k1 ((bf l0 bY).f0) a1 dZ _ A7.out).mono ?_); rintro e w' ⟨rfl, ⟨nd, rfl⟩⟩; (try first | exact ⟨rfl, _, World.drewN_drewN _ _ _⟩ | exact ⟨rfl, _, Eq.trans (World.drewN_drewN _ _ _) (congrArg (World.drewN _) (Nat.add_assoc _ _ _))⟩); clear A7; obtain ⟨AX, oz, Ce⟩ := Kd.dw HO_8.out; subst Ce)); go_upto_region 7 with (first | ((with_reducible refine fK (N := 10) rfl ?_); refine fA ?hg (N := 10) ?hd (cs := #[.int .i64 0, .int .u64 0]) (t := 192) ?hr ?_; (case hd => rfl); (case hg => rfl); (case hr => first | (go_simp; done) | (go_simp; rfl)); intro aI hg w9 hbox hb; have aJ := ah (hbox); have oN := ah ((by rw [hg]; exact (aQ (bg HB.out)) : w.heap.size ≤ aI)); have bU := ah ((by rw [hg]; exact (aQ (bg HB.out)) : w.heap.size ≤ aI)); replace HO_8 := ah (Kd.eU (Kd.vF (Kd.fJ HO_8.out) aI (Nat.le_of_eq hg.symm)) hb); replace HB := ah (aZ (bg HB.out) hb); clear hb hbox hg; have wI := au aJ.out; have wJ := aC aJ.out) | (go_at_call 77; (with_reducible refine (scale_Place.calls k1 ((bf l0 bY).f0) a1 dZ _ A7.out).mono ?_); rintro e w' ⟨rfl, ⟨nd, rfl⟩⟩; (try first | exact ⟨rfl, _, World.drewN_drewN _ _ _⟩ | exact ⟨rfl, _, Eq.trans (World.drewN_drewN _ _ _) (congrArg (World.drewN _) (Nat.add_assoc _ _ _))⟩); clear A7; obtain ⟨AX, oz, Ce⟩ := Kd.dw HO_8.out; subst Ce)))
      (try simp only [Act.put, List.setIfInBounds_toArray, List.set_cons_zero, List.set_cons_succ])
      go_cut [38] (fun v38 wc => ∃ (kq : Nat) (AY : Bool), v38 = .bool AY ∧ aj (scale_widen_uint64.j1 kq a1 bK dZ (bK.length : Int) l0 (l0.length : Int) bY AY ((bf l0 bY).f0) ((bf l0 bY).f1) = some (r1, r2)) ∧ aj (kq ≤ k1) ∧ aj (Kd.R kL 192 wc w.heap.size (fun k_ => k_ ≠ aI) (.slice AX bK.length oz) bK) ∧ aj (wc.heap[aI]? = some (.cells #[.int .i64 ((bf l0 bY).f0), .int .u64 ((bf l0 bY).f1)] 192 (0, 0))) ∧ aj (Below w.heap.size w wc))
      case first =>
       have H := Xh.out
       clear Xh
       by_cases c12 : (bK.length : Int) > 0
       ·rw [if_pos c12] at H
        have c12b0 : decide (0 < (bK.length : Int)) = true := ahG c12
        have c12b1 : decide (0 < bK.length) = true := ahG (by omega)
        clear c12
        (first | rw [c12b0] | (simp only [bI, bM]; rw [c12b0]) | skip)
        obtain ⟨sV, AZ⟩ : ∃ j_ : Int, (wrap64 ((bK.length : Int) - 1)) = j_ := ⟨_, rfl⟩
        replace H : (if 0 ≤ (sV) then (if (sV) < (bK.length : Int) then (scale_widen_uint64.j1 k1 a1 bK dZ (bK.length : Int) l0 (l0.length : Int) bY (((bf bK (sV)).f0) == dZ) ((bf l0 bY).f0) ((bf l0 bY).f1)) else (none)) else (none)) = some (r1, r2) := by first | (rw [AZ] at H; exact H) | (simp only [AZ] at H ⊢; exact H)
        have hji13w : (IntKind.i64.wrap ((bK.length : Int) - 1)) = sV := (bI _).trans AZ
        by_cases c14 : 0 ≤ (sV)
        ·rw [if_pos c14] at H
         have c14b0 : decide (0 ≤ (sV)) = true := ahG c14
         clear c14
         by_cases c15 : (sV) < (bK.length : Int)
         ·rw [if_pos c15] at H
          have c15b0 : decide ((sV) < (bK.length : Int)) = true := ahG c15
          clear c15
          have H' := ah H
          clear H
          have Ci : 0 ≤ ((sV) : Int) := ahF (by assumption)
          have Cj : (sV) < (bK.length : Int) := ahF (by assumption)
          obtain ⟨Ba, RZ, mY, oC⟩ := vX (Kd.bF HO_8.out).2.2 (sV) Ci Cj
          cases RZ
          have mg : Ba.block ≠ aI := Kd.zU (by first | exact Kd.BI HO_8.out aJ.out (by decide) | exact Kd.o7 HO_8.out (fun _ hk => hk.2))
          have mD : Ba.block ≠ aI := Kd.zU (by first | exact Kd.BI HO_8.out aJ.out (by decide) | exact Kd.o7 HO_8.out (fun _ hk => hk.2))
          replace mY := (cell_far (p := ⟨aI, 0, none⟩) (by first | (rw [add_block]; exact mg) | (show (Addr.add _ _).block ≠ _; rw [add_block]; exact mg) | exact mg) (.int .i64 ((bf l0 bY).f0))).trans mY
          replace oC := (cell_far (p := ⟨aI, 0, none⟩) (by first | (rw [add_block]; exact mg) | (show (Addr.add _ _).block ≠ _; rw [add_block]; exact mg) | exact mg) (.int .i64 ((bf l0 bY).f0))).trans oC
          replace mY := (cell_far (p := ⟨aI, 1, none⟩) (by first | (rw [add_block]; exact mD) | (show (Addr.add _ _).block ≠ _; rw [add_block]; exact mD) | exact mD) (.int .u64 ((bf l0 bY).f1))).trans mY
          replace oC := (cell_far (p := ⟨aI, 1, none⟩) (by first | (rw [add_block]; exact mD) | (show (Addr.add _ _).block ≠ _; rw [add_block]; exact mD) | exact mD) (.int .u64 ((bf l0 bY).f1))).trans oC
          (try have UG := fun (n_ : Nat) => (show ((((w9.drewN n_).setCell ⟨aI, 0, none⟩ (.int .i64 ((bf l0 bY).f0))).setCell ⟨aI, 1, none⟩ (.int .u64 ((bf l0 bY).f1)))).cell? _ = some _ from mY))
          (try have UH := fun (n_ : Nat) => (show ((((w9.drewN n_).setCell ⟨aI, 0, none⟩ (.int .i64 ((bf l0 bY).f0))).setCell ⟨aI, 1, none⟩ (.int .u64 ((bf l0 bY).f1)))).cell? _ = some _ from oC))
          clear mg
          clear mD
          replace Ci := eq_true Ci
          replace Cj := eq_true Cj
          go_wp2
          repeat (go_quiet (fail); try go_wp2)
          go_meet
          case rel => exact ⟨_, ((((bf bK (sV)).f0) == dZ)), (by first | rfl | (simp; done) | (simp only [← AZ] <;> (first | rfl | simp)) | (simp [*]; done)), H', ⟨by have := jy.out; first | omega | exact Nat.le_refl _⟩, ⟨by (repeat with_reducible refine Kd.kQ ?_); exact Kd.bZ (Kd.cu (p := ⟨aI, 1, none⟩) (Kd.cu (p := ⟨aI, 0, none⟩) (Kd.bZ HO_8.out (fun k_ hk => (⟨hk, hk.2⟩ : _ ∧ k_ ≠ aI))) (fun _ hk => hk.2) (.int .i64 ((bf l0 bY).f0))) (fun _ hk => hk.2) (.int .u64 ((bf l0 bY).f1))) (fun _ hk => hk.1.2)⟩, ⟨by (repeat with_reducible refine bQ ?_); refine bC (cs := #[.int .i64 ((bf l0 bY).f0), .int .u64 0]) ?_ 1 _ rfl; (repeat with_reducible refine bQ ?_); refine bC (cs := #[.int .i64 0, .int .u64 0]) ?_ 0 _ rfl; (repeat with_reducible refine bQ ?_); exact aJ.out⟩, ⟨by repeat (first | (with_reducible first | exact HB.out | apply ak | apply ay | apply aH | refine aA ?_ bU.out) | exact HB.out)⟩⟩
         rw [if_neg c15] at H
         exact absurd H (by simp)
        rw [if_neg c14] at H
        exact absurd H (by simp)
       rw [if_neg c12] at H
       have c12b0 : decide (0 < (bK.length : Int)) = false := ahH c12
       have c12b1 : decide (0 < bK.length) = false := ahH (by omega)
       clear c12
       (first | rw [c12b0] | (simp only [bI, bM]; rw [c12b0]) | skip)
       have H' := ah H
       clear H
       go_wp2
       repeat (go_quiet (fail); try go_wp2)
       go_meet
       case rel => exact ⟨_, (false), (by first | rfl | (simp; done) | (simp [*]; done)), H', ⟨by have := jy.out; first | omega | exact Nat.le_refl _⟩, ⟨by (repeat with_reducible refine Kd.kQ ?_); exact Kd.bZ (Kd.cu (p := ⟨aI, 1, none⟩) (Kd.cu (p := ⟨aI, 0, none⟩) (Kd.bZ HO_8.out (fun k_ hk => (⟨hk, hk.2⟩ : _ ∧ k_ ≠ aI))) (fun _ hk => hk.2) (.int .i64 ((bf l0 bY).f0))) (fun _ hk => hk.2) (.int .u64 ((bf l0 bY).f1))) (fun _ hk => hk.1.2)⟩, ⟨by (repeat with_reducible refine bQ ?_); refine bC (cs := #[.int .i64 ((bf l0 bY).f0), .int .u64 0]) ?_ 1 _ rfl; (repeat with_reducible refine bQ ?_); refine bC (cs := #[.int .i64 0, .int .u64 0]) ?_ 0 _ rfl; (repeat with_reducible refine bQ ?_); exact aJ.out⟩, ⟨by repeat (first | (with_reducible first | exact HB.out | apply ak | apply ay | apply aH | refine aA ?_ bU.out) | exact HB.out)⟩⟩
      case rest =>
       clear Xh
       try clear c1
       try clear p1
       try clear q1
       try clear hx1
       try clear p2
       try clear c4
       try clear c4b0
       try clear c5
       try clear c5b0
       try clear c6
       try clear c6b0
       try clear p6
       try clear c9
       try clear p10
       try clear q10
       try clear QK
       try clear c12
       try clear c12b0
       try clear c12b1
       try clear c14
       try clear c14b0
       try clear c15
       try clear c15b0
       try clear wI
       try clear wJ
       try clear bW
       try clear dS
       try clear mY
       try clear oC
       try clear fC
       try clear Ci
       try clear p2
       try clear fD
       try clear Cj
       obtain ⟨kq, AY, rfl, HA, UJ, HO_8, aJ, HB⟩ := hcut
       cases kq with
       | zero => exact absurd HA.out (by simp [scale_widen_uint64.j1])
       | succ Jh =>
        have H := HA.out
        clear HA
        simp only [scale_widen_uint64.j1] at H
        by_cases c16 : AY = true
        ·subst c16
         have H1 : (if 0 ≤ (wrap64 ((bK.length : Int) - 1)) then (if (wrap64 ((bK.length : Int) - 1)) < (bK.length : Int) then ((scale_float.f ((bf bK (wrap64 ((bK.length : Int) - 1))).f1) ((bf l0 bY).f1)).bind fun nR => (if nR.2 = true then (scale_widen_uint64.l0 Jh a1 (bK.set ((wrap64 ((bK.length : Int) - 1)) : Int).toNat (⟨(bf bK (wrap64 ((bK.length : Int) - 1))).f0, nR.1⟩ : gI)) l0 (l0.length : Int) (wrap64 (bY + 1))) else (some (([] : List (gI)), false)))) else (none)) else (none)) = some (r1, r2) := by rw [if_pos rfl] at H; exact H
         clear H
         have H := H1
         clear H1
         obtain ⟨dN, Bc⟩ : ∃ j_ : Int, (wrap64 ((bK.length : Int) - 1)) = j_ := ⟨_, rfl⟩
         replace H : (if 0 ≤ (dN) then (if (dN) < (bK.length : Int) then ((scale_float.f ((bf bK (dN)).f1) ((bf l0 bY).f1)).bind fun nR => (if nR.2 = true then (scale_widen_uint64.l0 Jh a1 (bK.set ((dN) : Int).toNat (⟨(bf bK (dN)).f0, nR.1⟩ : gI)) l0 (l0.length : Int) (wrap64 (bY + 1))) else (some (([] : List (gI)), false)))) else (none)) else (none)) = some (r1, r2) := by first | (rw [Bc] at H; exact H) | (simp only [Bc] at H ⊢; exact H)
         have hji17w : (IntKind.i64.wrap ((bK.length : Int) - 1)) = dN := (bI _).trans Bc
         by_cases c18 : 0 ≤ (dN)
         ·rw [if_pos c18] at H
          have c18b0 : decide (0 ≤ (dN)) = true := ahG c18
          clear c18
          by_cases c19 : (dN) < (bK.length : Int)
          ·rw [if_pos c19] at H
           have c19b0 : decide ((dN) < (bK.length : Int)) = true := ahG c19
           clear c19
           replace H := Option.bind_eq_some_iff.mp H
           obtain ⟨⟨fQ, t107⟩, EL, H⟩ := H
           replace H : (if t107 = true then (scale_widen_uint64.l0 Jh a1 (bK.set ((dN) : Int).toNat (⟨(bf bK (dN)).f0, fQ⟩ : gI)) l0 (l0.length : Int) (wrap64 (bY + 1))) else (some (([] : List (gI)), false))) = some (r1, r2) := H
           have tC := ah EL
           clear EL
           by_cases c21 : t107 = true
           ·subst c21
            have H1 : (scale_widen_uint64.l0 Jh a1 (bK.set ((dN) : Int).toNat (⟨(bf bK (dN)).f0, fQ⟩ : gI)) l0 (l0.length : Int) (wrap64 (bY + 1))) = some (r1, r2) := by rw [if_pos rfl] at H; exact H
            clear H
            have H := H1
            clear H1
            obtain ⟨jm, nJ⟩ : ∃ y_ : List (gI), y_ = (bK.set ((dN) : Int).toNat (⟨(bf bK (dN)).f0, fQ⟩ : gI)) := ⟨_, rfl⟩
            replace H : (scale_widen_uint64.l0 Jh a1 jm l0 (l0.length : Int) (wrap64 (bY + 1))) = some (r1, r2) := by first | (rw [nJ]; with_reducible exact H) | (have jA := (Option.bind_some _ _).symm.trans H; rw [nJ]; with_reducible exact jA) | (have jA := (Option.bind_some _ _).symm.trans H; with_reducible exact jA) | with_reducible exact H | (rw [nJ]; exact H) | exact H
            have vJ := ah nJ
            clear nJ
            have H' := ah H
            clear H
            have nN : 0 ≤ ((dN) : Int) := ahF (by assumption)
            have nO : (dN) < (bK.length : Int) := ahF (by assumption)
            obtain ⟨Dj, xI, jW, qN⟩ := vX (Kd.bF HO_8.out).2.2 (dN) nN nO
            cases xI
            replace nN := eq_true nN
            replace nO := eq_true nO
            have yK := au aJ.out
            have yL := aC aJ.out
            go_wp2_with (first | (go_at_call 92; (with_reducible refine (scale_float.calls ((bf bK (dN)).f1) ((bf l0 bY).f1) fQ true _ tC.out).mono ?_); rintro e w' ⟨rfl, ⟨nd, rfl⟩⟩; (try first | exact ⟨rfl, _, World.drewN_drewN _ _ _⟩ | exact ⟨rfl, _, Eq.trans (World.drewN_drewN _ _ _) (congrArg (World.drewN _) (Nat.add_assoc _ _ _))⟩); clear tC; have EM : 0 ≤ ((dN) : Int) := ahF (by assumption); have q22 : ((dN) : Int) < ((bK.length : Int) : Int) := ahF (by assumption); obtain ⟨jQ, Cm, vO, xR, EN, Si, xU⟩ := Kd.qC HO_8.out (by omega); (first | cases vO | (injection vO with ea_ en_ ec_; (first | subst ea_ | (injection ea_ with ea_; subst ea_)); subst ec_; clear en_)); have EO := ah xR; have Sj := ah xU; clear xR EN xU; (first | simp only [add_plain] at jW | skip); (first | simp only [add_plain] at qN | skip); obtain ⟨Sl, xW, xX, nS, nT⟩ := Kd.jC HO_8.out Dy ((dN) : Int) EM q22; obtain rfl := lI xX; have EP : wc.cell? ⟨jQ, ((dN) : Int).toNat * 2, none⟩ = some (.int .i64 ((bf bK (dN)).f0)) := nS 0 _ rfl; have ER : wc.cell? ⟨jQ, ((dN) : Int).toNat * 2 + 1, none⟩ = some (.int .u64 ((bf bK (dN)).f1)) := nS 1 _ rfl; have ES : wc.frozen? ⟨jQ, ((dN) : Int).toNat * 2, none⟩ = false := nT 0; have ET : wc.frozen? ⟨jQ, ((dN) : Int).toNat * 2 + 1, none⟩ = false := nT 1; clear xW nS nT xX; replace EM := eq_true EM; replace q22 := eq_true q22; have nU := ah (show Kd.R kL 192 wc w.heap.size (fun k_ => k_ ≠ aI) (.slice (some ⟨jQ, 0, none⟩) bK.length oz) bK from (Kd.fJ HO_8.out)); obtain ⟨EU, jZ, nV, jk, ku⟩ := Kd.jC nU.out Dy ((dN) : Int) (ahF (by assumption)) (by have h_ : ((dN) : Int) < ((bK.length : Int) : Int) := ahF (by assumption); first | exact h_ | (have e_ := (Kd.bF HO_8.out).1; omega) | simpa using h_); obtain rfl := lI nV; have qO := Kd.qF nU.out ((dN) : Int) (ahF (by assumption)) (by have h_ : ((dN) : Int) < ((bK.length : Int) : Int) := ahF (by assumption); first | exact h_ | (have e_ := (Kd.bF HO_8.out).1; omega) | simpa using h_) (seg := [.int .u64 fQ]) (j := 1) jZ jk (show 2 ≤ 2 from by decide) (x' := (⟨(bf bK (dN)).f0, fQ⟩ : gI)) (lU _ _ _ (⟨(bf bK (dN)).f0, fQ⟩ : gI) ) (fun _ hk => hk); have kX := jk 1 _ rfl; (try simp only [show (kL).sz = 2 from rfl, Nat.mul_one, Nat.add_zero] at kX); have kY := ku 1; (try simp only [show (kL).sz = 2 from rfl, Nat.mul_one, Nat.add_zero] at kY); clear jZ jk ku nV) | ((with_reducible refine kK (t := 25) (p := 59) rfl ?_); (try (rw [rF wc]; generalize hq_ : World.drewN wc _ = wc; have fZ := ah (Kd.Pm hq_ HO_8.out); have gG := ah (BM hq_ aJ.out); have iC := ah (vG hq_ HB.out); clear hq_ HO_8 aJ HB; have HO_8 := fZ; have aJ := gG; have HB := iC; clear fZ gG iC; (try (have nU := ah (show Kd.R kL 192 wc w.heap.size (fun k_ => k_ ≠ aI) (.slice (some ⟨jQ, 0, none⟩) bK.length oz) bK from (Kd.fJ HO_8.out)))); (try (obtain ⟨EU, jZ, nV, jk, ku⟩ := Kd.jC nU.out Dy ((dN) : Int) (ahF (by assumption)) (by have h_ : ((dN) : Int) < ((bK.length : Int) : Int) := ahF (by assumption); first | exact h_ | (have e_ := (Kd.bF HO_8.out).1; omega) | simpa using h_))); (try (obtain rfl := lI nV)); (try (have qO := Kd.qF nU.out ((dN) : Int) (ahF (by assumption)) (by have h_ : ((dN) : Int) < ((bK.length : Int) : Int) := ahF (by assumption); first | exact h_ | (have e_ := (Kd.bF HO_8.out).1; omega) | simpa using h_) (seg := [.int .u64 fQ]) (j := 1) jZ jk (show 2 ≤ 2 from by decide) (x' := (⟨(bf bK (dN)).f0, fQ⟩ : gI)) (lU _ _ _ (⟨(bf bK (dN)).f0, fQ⟩ : gI) ) (fun _ hk => hk))); (try (have kX := jk 1 _ rfl)); (try (try simp only [show (kL).sz = 2 from rfl, Nat.mul_one, Nat.add_zero] at kX)); (try (have kY := ku 1)); (try (try simp only [show (kL).sz = 2 from rfl, Nat.mul_one, Nat.add_zero] at kY)); (try (clear jZ jk ku nV)))); refine jS (t := 25) (p := 59) (v := ?vo_w25) (w1 := (wc.setCell ⟨jQ, ((dN) : Int).toNat * 2 + 1, none⟩ (.int .u64 fQ))) ?hg ?ho ?hn ?hr ?_; (case ho => rfl); (case hg => rfl); (case hn => rfl); (case hr => first | (go_simp; done) | (go_simp; rfl)); intro BZ hw; have hg : wc.grownBy BZ (some jQ) := (by rw [hw]; exact qO.2); have hp_ : Kd.R kL 192 BZ w.heap.size (fun k_ => k_ ≠ aI) (.slice (some ⟨jQ, 0, none⟩) bK.length oz) jm := (by rw [hw, vJ.out]; exact qO.1); clear qO; have gG := ah (jc (g := aI) (o := .cells #[.int .i64 ((bf l0 bY).f0), .int .u64 ((bf l0 bY).f1)] 192 (0, 0)) (jJ aJ.out) hg (Kd.o7 HO_8.out (fun _ hk => hk))); replace HO_8 := ah (hp_); replace HB := ah ((by rw [hw]; exact aA (HB.out) EO.out : Below w.heap.size w BZ)); clear aJ; have aJ := gG; clear gG hg hw hp_))
            repeat (go_quiet (first | (go_at_call 92; (with_reducible refine (scale_float.calls ((bf bK (dN)).f1) ((bf l0 bY).f1) fQ true _ tC.out).mono ?_); rintro e w' ⟨rfl, ⟨nd, rfl⟩⟩; (try first | exact ⟨rfl, _, World.drewN_drewN _ _ _⟩ | exact ⟨rfl, _, Eq.trans (World.drewN_drewN _ _ _) (congrArg (World.drewN _) (Nat.add_assoc _ _ _))⟩); clear tC; have EM : 0 ≤ ((dN) : Int) := ahF (by assumption); have q22 : ((dN) : Int) < ((bK.length : Int) : Int) := ahF (by assumption); obtain ⟨jQ, Cm, vO, xR, EN, Si, xU⟩ := Kd.qC HO_8.out (by omega); (first | cases vO | (injection vO with ea_ en_ ec_; (first | subst ea_ | (injection ea_ with ea_; subst ea_)); subst ec_; clear en_)); have EO := ah xR; have Sj := ah xU; clear xR EN xU; (first | simp only [add_plain] at jW | skip); (first | simp only [add_plain] at qN | skip); obtain ⟨Sl, xW, xX, nS, nT⟩ := Kd.jC HO_8.out Dy ((dN) : Int) EM q22; obtain rfl := lI xX; have EP : wc.cell? ⟨jQ, ((dN) : Int).toNat * 2, none⟩ = some (.int .i64 ((bf bK (dN)).f0)) := nS 0 _ rfl; have ER : wc.cell? ⟨jQ, ((dN) : Int).toNat * 2 + 1, none⟩ = some (.int .u64 ((bf bK (dN)).f1)) := nS 1 _ rfl; have ES : wc.frozen? ⟨jQ, ((dN) : Int).toNat * 2, none⟩ = false := nT 0; have ET : wc.frozen? ⟨jQ, ((dN) : Int).toNat * 2 + 1, none⟩ = false := nT 1; clear xW nS nT xX; replace EM := eq_true EM; replace q22 := eq_true q22; have nU := ah (show Kd.R kL 192 wc w.heap.size (fun k_ => k_ ≠ aI) (.slice (some ⟨jQ, 0, none⟩) bK.length oz) bK from (Kd.fJ HO_8.out)); obtain ⟨EU, jZ, nV, jk, ku⟩ := Kd.jC nU.out Dy ((dN) : Int) (ahF (by assumption)) (by have h_ : ((dN) : Int) < ((bK.length : Int) : Int) := ahF (by assumption); first | exact h_ | (have e_ := (Kd.bF HO_8.out).1; omega) | simpa using h_); obtain rfl := lI nV; have qO := Kd.qF nU.out ((dN) : Int) (ahF (by assumption)) (by have h_ : ((dN) : Int) < ((bK.length : Int) : Int) := ahF (by assumption); first | exact h_ | (have e_ := (Kd.bF HO_8.out).1; omega) | simpa using h_) (seg := [.int .u64 fQ]) (j := 1) jZ jk (show 2 ≤ 2 from by decide) (x' := (⟨(bf bK (dN)).f0, fQ⟩ : gI)) (lU _ _ _ (⟨(bf bK (dN)).f0, fQ⟩ : gI) ) (fun _ hk => hk); have kX := jk 1 _ rfl; (try simp only [show (kL).sz = 2 from rfl, Nat.mul_one, Nat.add_zero] at kX); have kY := ku 1; (try simp only [show (kL).sz = 2 from rfl, Nat.mul_one, Nat.add_zero] at kY); clear jZ jk ku nV) | ((with_reducible refine kK (t := 25) (p := 59) rfl ?_); (try (rw [rF wc]; generalize hq_ : World.drewN wc _ = wc; have fZ := ah (Kd.Pm hq_ HO_8.out); have gG := ah (BM hq_ aJ.out); have iC := ah (vG hq_ HB.out); clear hq_ HO_8 aJ HB; have HO_8 := fZ; have aJ := gG; have HB := iC; clear fZ gG iC; (try (have nU := ah (show Kd.R kL 192 wc w.heap.size (fun k_ => k_ ≠ aI) (.slice (some ⟨jQ, 0, none⟩) bK.length oz) bK from (Kd.fJ HO_8.out)))); (try (obtain ⟨EU, jZ, nV, jk, ku⟩ := Kd.jC nU.out Dy ((dN) : Int) (ahF (by assumption)) (by have h_ : ((dN) : Int) < ((bK.length : Int) : Int) := ahF (by assumption); first | exact h_ | (have e_ := (Kd.bF HO_8.out).1; omega) | simpa using h_))); (try (obtain rfl := lI nV)); (try (have qO := Kd.qF nU.out ((dN) : Int) (ahF (by assumption)) (by have h_ : ((dN) : Int) < ((bK.length : Int) : Int) := ahF (by assumption); first | exact h_ | (have e_ := (Kd.bF HO_8.out).1; omega) | simpa using h_) (seg := [.int .u64 fQ]) (j := 1) jZ jk (show 2 ≤ 2 from by decide) (x' := (⟨(bf bK (dN)).f0, fQ⟩ : gI)) (lU _ _ _ (⟨(bf bK (dN)).f0, fQ⟩ : gI) ) (fun _ hk => hk))); (try (have kX := jk 1 _ rfl)); (try (try simp only [show (kL).sz = 2 from rfl, Nat.mul_one, Nat.add_zero] at kX)); (try (have kY := ku 1)); (try (try simp only [show (kL).sz = 2 from rfl, Nat.mul_one, Nat.add_zero] at kY)); (try (clear jZ jk ku nV)))); refine jS (t := 25) (p := 59) (v := ?vo_w25) (w1 := (wc.setCell ⟨jQ, ((dN) : Int).toNat * 2 + 1, none⟩ (.int .u64 fQ))) ?hg ?ho ?hn ?hr ?_; (case ho => rfl); (case hg => rfl); (case hn => rfl); (case hr => first | (go_simp; done) | (go_simp; rfl)); intro BZ hw; have hg : wc.grownBy BZ (some jQ) := (by rw [hw]; exact qO.2); have hp_ : Kd.R kL 192 BZ w.heap.size (fun k_ => k_ ≠ aI) (.slice (some ⟨jQ, 0, none⟩) bK.length oz) jm := (by rw [hw, vJ.out]; exact qO.1); clear qO; have gG := ah (jc (g := aI) (o := .cells #[.int .i64 ((bf l0 bY).f0), .int .u64 ((bf l0 bY).f1)] 192 (0, 0)) (jJ aJ.out) hg (Kd.o7 HO_8.out (fun _ hk => hk))); replace HO_8 := ah (hp_); replace HB := ah ((by rw [hw]; exact aA (HB.out) EO.out : Below w.heap.size w BZ)); clear aJ; have aJ := gG; clear gG hg hw hp_)); try go_wp2_with (first | (go_at_call 92; (with_reducible refine (scale_float.calls ((bf bK (dN)).f1) ((bf l0 bY).f1) fQ true _ tC.out).mono ?_); rintro e w' ⟨rfl, ⟨nd, rfl⟩⟩; (try first | exact ⟨rfl, _, World.drewN_drewN _ _ _⟩ | exact ⟨rfl, _, Eq.trans (World.drewN_drewN _ _ _) (congrArg (World.drewN _) (Nat.add_assoc _ _ _))⟩); clear tC; have EM : 0 ≤ ((dN) : Int) := ahF (by assumption); have q22 : ((dN) : Int) < ((bK.length : Int) : Int) := ahF (by assumption); obtain ⟨jQ, Cm, vO, xR, EN, Si, xU⟩ := Kd.qC HO_8.out (by omega); (first | cases vO | (injection vO with ea_ en_ ec_; (first | subst ea_ | (injection ea_ with ea_; subst ea_)); subst ec_; clear en_)); have EO := ah xR; have Sj := ah xU; clear xR EN xU; (first | simp only [add_plain] at jW | skip); (first | simp only [add_plain] at qN | skip); obtain ⟨Sl, xW, xX, nS, nT⟩ := Kd.jC HO_8.out Dy ((dN) : Int) EM q22; obtain rfl := lI xX; have EP : wc.cell? ⟨jQ, ((dN) : Int).toNat * 2, none⟩ = some (.int .i64 ((bf bK (dN)).f0)) := nS 0 _ rfl; have ER : wc.cell? ⟨jQ, ((dN) : Int).toNat * 2 + 1, none⟩ = some (.int .u64 ((bf bK (dN)).f1)) := nS 1 _ rfl; have ES : wc.frozen? ⟨jQ, ((dN) : Int).toNat * 2, none⟩ = false := nT 0; have ET : wc.frozen? ⟨jQ, ((dN) : Int).toNat * 2 + 1, none⟩ = false := nT 1; clear xW nS nT xX; replace EM := eq_true EM; replace q22 := eq_true q22; have nU := ah (show Kd.R kL 192 wc w.heap.size (fun k_ => k_ ≠ aI) (.slice (some ⟨jQ, 0, none⟩) bK.length oz) bK from (Kd.fJ HO_8.out)); obtain ⟨EU, jZ, nV, jk, ku⟩ := Kd.jC nU.out Dy ((dN) : Int) (ahF (by assumption)) (by have h_ : ((dN) : Int) < ((bK.length : Int) : Int) := ahF (by assumption); first | exact h_ | (have e_ := (Kd.bF HO_8.out).1; omega) | simpa using h_); obtain rfl := lI nV; have qO := Kd.qF nU.out ((dN) : Int) (ahF (by assumption)) (by have h_ : ((dN) : Int) < ((bK.length : Int) : Int) := ahF (by assumption); first | exact h_ | (have e_ := (Kd.bF HO_8.out).1; omega) | simpa using h_) (seg := [.int .u64 fQ]) (j := 1) jZ jk (show 2 ≤ 2 from by decide) (x' := (⟨(bf bK (dN)).f0, fQ⟩ : gI)) (lU _ _ _ (⟨(bf bK (dN)).f0, fQ⟩ : gI) ) (fun _ hk => hk); have kX := jk 1 _ rfl; (try simp only [show (kL).sz = 2 from rfl, Nat.mul_one, Nat.add_zero] at kX); have kY := ku 1; (try simp only [show (kL).sz = 2 from rfl, Nat.mul_one, Nat.add_zero] at kY); clear jZ jk ku nV) | ((with_reducible refine kK (t := 25) (p := 59) rfl ?_); (try (rw [rF wc]; generalize hq_ : World.drewN wc _ = wc; have fZ := ah (Kd.Pm hq_ HO_8.out); have gG := ah (BM hq_ aJ.out); have iC := ah (vG hq_ HB.out); clear hq_ HO_8 aJ HB; have HO_8 := fZ; have aJ := gG; have HB := iC; clear fZ gG iC; (try (have nU := ah (show Kd.R kL 192 wc w.heap.size (fun k_ => k_ ≠ aI) (.slice (some ⟨jQ, 0, none⟩) bK.length oz) bK from (Kd.fJ HO_8.out)))); (try (obtain ⟨EU, jZ, nV, jk, ku⟩ := Kd.jC nU.out Dy ((dN) : Int) (ahF (by assumption)) (by have h_ : ((dN) : Int) < ((bK.length : Int) : Int) := ahF (by assumption); first | exact h_ | (have e_ := (Kd.bF HO_8.out).1; omega) | simpa using h_))); (try (obtain rfl := lI nV)); (try (have qO := Kd.qF nU.out ((dN) : Int) (ahF (by assumption)) (by have h_ : ((dN) : Int) < ((bK.length : Int) : Int) := ahF (by assumption); first | exact h_ | (have e_ := (Kd.bF HO_8.out).1; omega) | simpa using h_) (seg := [.int .u64 fQ]) (j := 1) jZ jk (show 2 ≤ 2 from by decide) (x' := (⟨(bf bK (dN)).f0, fQ⟩ : gI)) (lU _ _ _ (⟨(bf bK (dN)).f0, fQ⟩ : gI) ) (fun _ hk => hk))); (try (have kX := jk 1 _ rfl)); (try (try simp only [show (kL).sz = 2 from rfl, Nat.mul_one, Nat.add_zero] at kX)); (try (have kY := ku 1)); (try (try simp only [show (kL).sz = 2 from rfl, Nat.mul_one, Nat.add_zero] at kY)); (try (clear jZ jk ku nV)))); refine jS (t := 25) (p := 59) (v := ?vo_w25) (w1 := (wc.setCell ⟨jQ, ((dN) : Int).toNat * 2 + 1, none⟩ (.int .u64 fQ))) ?hg ?ho ?hn ?hr ?_; (case ho => rfl); (case hg => rfl); (case hn => rfl); (case hr => first | (go_simp; done) | (go_simp; rfl)); intro BZ hw; have hg : wc.grownBy BZ (some jQ) := (by rw [hw]; exact qO.2); have hp_ : Kd.R kL 192 BZ w.heap.size (fun k_ => k_ ≠ aI) (.slice (some ⟨jQ, 0, none⟩) bK.length oz) jm := (by rw [hw, vJ.out]; exact qO.1); clear qO; have gG := ah (jc (g := aI) (o := .cells #[.int .i64 ((bf l0 bY).f0), .int .u64 ((bf l0 bY).f1)] 192 (0, 0)) (jJ aJ.out) hg (Kd.o7 HO_8.out (fun _ hk => hk))); replace HO_8 := ah (hp_); replace HB := ah ((by rw [hw]; exact aA (HB.out) EO.out : Below w.heap.size w BZ)); clear aJ; have aJ := gG; clear gG hg hw hp_)))
            go_roundg Jh
            case measure => have := jy.out; have := UJ.out; omega
            case rel => exact ⟨(jm), (wrap64 (bY + 1)), (by first | rfl | (simp; done) | (simp [*]; done)), H', ⟨by have := jy.out; have := UJ.out; omega⟩, ⟨by (repeat with_reducible refine Kd.kQ ?_); exact Kd.bZ HO_8.out (fun _ hk => trivial)⟩, ⟨by repeat (first | (with_reducible first | exact HB.out | apply ak | apply ay | apply aH | refine aA ?_ bU.out) | exact HB.out)⟩⟩
           replace c21 := Bool.eq_false_iff.mpr c21
           subst c21
           have H1 : (some (([] : List (gI)), false)) = some (r1, r2) := by rw [if_neg (show ¬ (false = true) by decide)] at H; exact H
           clear H
           have H := H1
           clear H1
           simp only [Option.some.injEq, Prod.mk.injEq] at H
           obtain ⟨rfl, rfl⟩ := H
           have nN : 0 ≤ ((dN) : Int) := ahF (by assumption)
           have nO : (dN) < (bK.length : Int) := ahF (by assumption)
           obtain ⟨Dj, xI, jW, qN⟩ := vX (Kd.bF HO_8.out).2.2 (dN) nN nO
           cases xI
           replace nN := eq_true nN
           replace nO := eq_true nO
           have Ak := au aJ.out
           have Am := aC aJ.out
           go_wp2_with (first | (go_at_call 92; (with_reducible refine (scale_float.calls ((bf bK (dN)).f1) ((bf l0 bY).f1) fQ false _ tC.out).mono ?_); rintro e w' ⟨rfl, ⟨nd, rfl⟩⟩; (try first | exact ⟨rfl, _, World.drewN_drewN _ _ _⟩ | exact ⟨rfl, _, Eq.trans (World.drewN_drewN _ _ _) (congrArg (World.drewN _) (Nat.add_assoc _ _ _))⟩); clear tC))
           repeat (go_quiet (first | (go_at_call 92; (with_reducible refine (scale_float.calls ((bf bK (dN)).f1) ((bf l0 bY).f1) fQ false _ tC.out).mono ?_); rintro e w' ⟨rfl, ⟨nd, rfl⟩⟩; (try first | exact ⟨rfl, _, World.drewN_drewN _ _ _⟩ | exact ⟨rfl, _, Eq.trans (World.drewN_drewN _ _ _) (congrArg (World.drewN _) (Nat.add_assoc _ _ _))⟩); clear tC)); try go_wp2_with (first | (go_at_call 92; (with_reducible refine (scale_float.calls ((bf bK (dN)).f1) ((bf l0 bY).f1) fQ false _ tC.out).mono ?_); rintro e w' ⟨rfl, ⟨nd, rfl⟩⟩; (try first | exact ⟨rfl, _, World.drewN_drewN _ _ _⟩ | exact ⟨rfl, _, Eq.trans (World.drewN_drewN _ _ _) (congrArg (World.drewN _) (Nat.add_assoc _ _ _))⟩); clear tC)))
           go_ret2
           exact ⟨_, by first | rfl | (simp [aU, aV] <;> rfl) | (simp only [← Bc]; first | rfl | (simp [aU, aV] <;> rfl)) | (simp [*, aU, aV] <;> rfl), by first | exact Kd.eY _ _ _ _ _ | exact Kd.ig _ _ _ _ _ | exact Kd.iq _ _ _ _ _ | exact Kd.gY _ _ _ _ _ | exact Kd.gZ _ _ _ _ _, by repeat (first | (with_reducible first | exact HB.out | apply ak | apply ay | apply aH | refine aA ?_ bU.out) | exact HB.out)⟩
          rw [if_neg c19] at H
          exact absurd H (by simp)
         rw [if_neg c18] at H
         exact absurd H (by simp)
        replace c16 := Bool.eq_false_iff.mpr c16
        subst c16
        have H1 : (if bK.length < 8796093022208 then (scale_widen_uint64.l0 Jh a1 (bK ++ [(⟨dZ, ((bf l0 bY).f1)⟩ : gI)]) l0 (l0.length : Int) (wrap64 (bY + 1))) else (none)) = some (r1, r2) := by rw [if_neg (show ¬ (false = true) by decide)] at H; exact H
        clear H
        have H := H1
        clear H1
        by_cases I5 : bK.length < 8796093022208
        ·rw [if_pos I5] at H
         have EW := ah I5
         clear I5
         obtain ⟨lV, nP⟩ : ∃ y_ : List (gI), y_ = (bK ++ [(⟨dZ, ((bf l0 bY).f1)⟩ : gI)]) := ⟨_, rfl⟩
         replace H : (scale_widen_uint64.l0 Jh a1 lV l0 (l0.length : Int) (wrap64 (bY + 1))) = some (r1, r2) := by first | (rw [nP]; with_reducible exact H) | (have jA := (Option.bind_some _ _).symm.trans H; rw [nP]; with_reducible exact jA) | (have jA := (Option.bind_some _ _).symm.trans H; with_reducible exact jA) | with_reducible exact H | (rw [nP]; exact H) | exact H
         have pF := ah nP
         clear nP
         have H' := ah H
         clear H
         have yI := au aJ.out
         have yJ := aC aJ.out
         go_wp2_with (first | ((with_reducible refine eG (b := .append) (xs := #[.tmp 60, .tmp 65]) rfl ?_); at_builtin; refine Kd.je kL (w0 := w) w.heap.size rfl (.tmp 60) (.tmp 65) 129 192 (.agg #[(.int .i64 0), (.int .u64 0)]) 16 rfl Try.underlying129 Aa rfl (by decide) (by omega) (.slice AX bK.length oz) bK (⟨dZ, ((bf l0 bY).f1)⟩ : gI) [.int .i64 dZ, .int .u64 ((bf l0 bY).f1)] (fun k_ => k_ ≠ aI) (fun _ => False) rfl rfl ?aP (fun _ hk => hk.elim) ?aF ?aO ?aB ?aS ?aL ?_; (case aP => exact lU _ _ _ (⟨dZ, ((bf l0 bY).f1)⟩ : gI)); (case aB => exact (by repeat (first | (with_reducible first | exact HB.out | refine bJ ?_ | refine aA ?_ bU.out) | exact HB.out))); (case aF => exact (fun k_ hk => Kd.BJ (g := aI) (o := .cells #[.int .i64 ((bf l0 bY).f0), .int .u64 ((bf l0 bY).f1)] 192 (0, 0)) (jJ aJ.out) k_ hk)); (case aO => exact (Kd.fJ HO_8.out)); (case aS => exact (aQ (by repeat (first | (with_reducible first | exact HB.out | refine bJ ?_ | refine aA ?_ bU.out) | exact HB.out)))); (case aL => have := EW.out; omega); intro qw TM ho hb hg hat; rw [← pF.out] at ho; have fZ := ah (jc (g := aI) (o := .cells #[.int .i64 ((bf l0 bY).f0), .int .u64 ((bf l0 bY).f1)] 192 (0, 0)) (jJ aJ.out) hg (Kd.o7 HO_8.out (fun _ hk => hk))); have eu := ah (ho); replace HB := ah (hb); clear HO_8 aJ; have aJ := fZ; clear fZ ho hb hg hat))
         repeat (go_quiet (first | ((with_reducible refine eG (b := .append) (xs := #[.tmp 60, .tmp 65]) rfl ?_); at_builtin; refine Kd.je kL (w0 := w) w.heap.size rfl (.tmp 60) (.tmp 65) 129 192 (.agg #[(.int .i64 0), (.int .u64 0)]) 16 rfl Try.underlying129 Aa rfl (by decide) (by omega) (.slice AX bK.length oz) bK (⟨dZ, ((bf l0 bY).f1)⟩ : gI) [.int .i64 dZ, .int .u64 ((bf l0 bY).f1)] (fun k_ => k_ ≠ aI) (fun _ => False) rfl rfl ?aP (fun _ hk => hk.elim) ?aF ?aO ?aB ?aS ?aL ?_; (case aP => exact lU _ _ _ (⟨dZ, ((bf l0 bY).f1)⟩ : gI)); (case aB => exact (by repeat (first | (with_reducible first | exact HB.out | refine bJ ?_ | refine aA ?_ bU.out) | exact HB.out))); (case aF => exact (fun k_ hk => Kd.BJ (g := aI) (o := .cells #[.int .i64 ((bf l0 bY).f0), .int .u64 ((bf l0 bY).f1)] 192 (0, 0)) (jJ aJ.out) k_ hk)); (case aO => exact (Kd.fJ HO_8.out)); (case aS => exact (aQ (by repeat (first | (with_reducible first | exact HB.out | refine bJ ?_ | refine aA ?_ bU.out) | exact HB.out)))); (case aL => have := EW.out; omega); intro qw TM ho hb hg hat; rw [← pF.out] at ho; have fZ := ah (jc (g := aI) (o := .cells #[.int .i64 ((bf l0 bY).f0), .int .u64 ((bf l0 bY).f1)] 192 (0, 0)) (jJ aJ.out) hg (Kd.o7 HO_8.out (fun _ hk => hk))); have eu := ah (ho); replace HB := ah (hb); clear HO_8 aJ; have aJ := fZ; clear fZ ho hb hg hat)); try go_wp2_with (first | ((with_reducible refine eG (b := .append) (xs := #[.tmp 60, .tmp 65]) rfl ?_); at_builtin; refine Kd.je kL (w0 := w) w.heap.size rfl (.tmp 60) (.tmp 65) 129 192 (.agg #[(.int .i64 0), (.int .u64 0)]) 16 rfl Try.underlying129 Aa rfl (by decide) (by omega) (.slice AX bK.length oz) bK (⟨dZ, ((bf l0 bY).f1)⟩ : gI) [.int .i64 dZ, .int .u64 ((bf l0 bY).f1)] (fun k_ => k_ ≠ aI) (fun _ => False) rfl rfl ?aP (fun _ hk => hk.elim) ?aF ?aO ?aB ?aS ?aL ?_; (case aP => exact lU _ _ _ (⟨dZ, ((bf l0 bY).f1)⟩ : gI)); (case aB => exact (by repeat (first | (with_reducible first | exact HB.out | refine bJ ?_ | refine aA ?_ bU.out) | exact HB.out))); (case aF => exact (fun k_ hk => Kd.BJ (g := aI) (o := .cells #[.int .i64 ((bf l0 bY).f0), .int .u64 ((bf l0 bY).f1)] 192 (0, 0)) (jJ aJ.out) k_ hk)); (case aO => exact (Kd.fJ HO_8.out)); (case aS => exact (aQ (by repeat (first | (with_reducible first | exact HB.out | refine bJ ?_ | refine aA ?_ bU.out) | exact HB.out)))); (case aL => have := EW.out; omega); intro qw TM ho hb hg hat; rw [← pF.out] at ho; have fZ := ah (jc (g := aI) (o := .cells #[.int .i64 ((bf l0 bY).f0), .int .u64 ((bf l0 bY).f1)] 192 (0, 0)) (jJ aJ.out) hg (Kd.o7 HO_8.out (fun _ hk => hk))); have eu := ah (ho); replace HB := ah (hb); clear HO_8 aJ; have aJ := fZ; clear fZ ho hb hg hat)))
         go_roundg Jh
         case measure => have := jy.out; have := UJ.out; omega
         case rel => exact ⟨(lV), (wrap64 (bY + 1)), (by first | rfl | (simp; done) | (simp [*]; done)), H', ⟨by have := jy.out; have := UJ.out; omega⟩, ⟨by (repeat with_reducible refine Kd.kQ ?_); exact Kd.bZ eu.out (fun _ hk => trivial)⟩, ⟨by repeat (first | (with_reducible first | exact HB.out | apply ak | apply ay | apply aH | refine aA ?_ bU.out) | exact HB.out)⟩⟩
        rw [if_neg I5] at H
        exact absurd H (by simp)
     rw [if_neg c6] at H
     exact absurd H (by simp)
    rw [if_neg c5] at H
    exact absurd H (by simp)
   rw [if_neg c4] at H
   have c4b0 : decide (bY < (l0.length : Int)) = false := ahH c4
   clear c4
   simp only [Option.some.injEq, Prod.mk.injEq] at H
   obtain ⟨rfl, rfl⟩ := H
   go_wp2
   repeat (go_quiet (fail); try go_wp2)
   go_ret2
   exact ⟨_, by first | rfl | (simp [aU, aV] <;> rfl) | (simp [*, aU, aV] <;> rfl), by (repeat with_reducible refine Kd.kQ ?_); exact HO_8.out, by repeat (first | (with_reducible first | exact HB.out | apply ak | apply ay | apply aH) | exact HB.out)⟩
end Go.Proofs.Ytooiccpmngmapaa.P
namespace Go.Proofs.Ytooiccpmngmapaa.P
open Go.RowKit Go.Shelf Go.Proofs.YtooiccpmngmapaaW.PrintWords Go.Proofs.YtooiccpmngmapaaW.PrintLast Go.Proofs.YtooiccpmngmapaaW.PrintMore
def addN (a b : Int) : Nat := (Bj a b).getD 0
theorem uy {a : Int} (h0 : 0 ≤ a) (h : dY a = true) : ∃ m e, FloatKind.f64.format.read a.toNat = .number false m e := by
 unfold dY at h
 rw [decide_eq_true_eq] at h
 have hs : FloatKind.f64.format.signWeight = 9223372036854775808 := by kernel_rfl
 have hi : FloatKind.f64.format.infRung = 9218868437227405312 := by kernel_rfl
 unfold Ieee.Format.read
 rw [hs, hi]
 have h1 : a.toNat / 9223372036854775808 = 0 := Nat.div_eq_of_lt (by omega)
 have h2 : a.toNat % 9223372036854775808 = a.toNat := Nat.mod_eq_of_lt (by omega)
 simp only [h1, h2]
 split
 ·exact ⟨_, _, rfl⟩
 ·rw [if_pos (by omega)]; exact ⟨_, _, rfl⟩
theorem Fb {a b : Int} (ha : 0 ≤ a) (ra : dY a = true) (hb : 0 ≤ b) (rb : dY b = true) : Bj a b = some (addN a b) := by
 obtain ⟨m, e, h1⟩ := uy ha ra
 obtain ⟨n, g, h2⟩ := uy hb rb
 unfold addN Bj Ieee.Format.add
 rw [h1, h2]
 rfl
theorem Gt {a b : Int} (ha : 0 ≤ a) (ra : dY a = true) (hb : 0 ≤ b) (rb : dY b = true) : scale_float.f a b = some ((addN a b : Int), dY (addN a b)) := by
 unfold scale_float.f
 rw [Fb ha ra hb rb]
 rfl
def lY (s : Int) : Pu → List Pu → Option (List Pu)
 | cur, [] => some [cur]
 | cur, p :: t => if dW p.f0 s = cur.f0 then (if dY (addN cur.f1 p.f1) = true then lY s ⟨cur.f0, addN cur.f1 p.f1⟩ t else none) else (lY s ⟨dW p.f0 s, p.f1⟩ t).map (cur :: ·)
def lq (s : Int) : List Pu → Option (List Pu)
 | [] => some []
 | p :: t => lY s ⟨dW p.f0 s, p.f1⟩ t
def kT (s : Int) (l : List Pu) : List Pu × Bool := match lq s l with | some r => (r, true) | none => ([], false)
def NI (l : List Pu) : Prop := ∀ p ∈ l, i64 p.f0 ∧ 0 ≤ p.f1 ∧ dY p.f1 = true
theorem LC (s : Int) (l : List Pu) (hl : l.length < 4398046511104) (hn : NI l) : ∀ (d k i : Nat) (done : List Pu) (cur : Pu), l.length - i = d → 2 * d + 2 < k → i ≤ l.length → done.length < i → 0 ≤ cur.f1 → dY cur.f1 = true →
    scale_widen_uint64.l0 k s (done ++ [cur]) l (l.length : Int) (i : Int) = some (match lY s cur (l.drop i) with | some r => (done ++ r, true) | none => ([], false)) := by
  intro d
  induction d with
  | zero =>
    intro k i done cur hd hk hi hdl h0 h1
    obtain ⟨k, rfl⟩ : ∃ m, k = m + 1 := ⟨k - 1, by omega⟩
    simp only [scale_widen_uint64.l0]
    rw [if_neg (by omega), List.drop_eq_nil_of_le (by omega)]
    rfl
  | succ d ih =>
    intro k i done cur hd hk hi hdl h0 h1
    obtain ⟨k, rfl⟩ : ∃ m, k = m + 1 + 1 + 1 := ⟨k - 3, by omega⟩
    have hlt : i < l.length := by omega
    obtain ⟨p0, p1, p2⟩ := hn l[i] (List.getElem_mem hlt)
    have hlast : bf (done ++ [cur]) (wrap64 (((done ++ [cur]).length : Nat) - 1 : Int)) = cur := by
      rw [eX (by simp <;> omega) (by simp <;> omega), show (((done ++ [cur]).length : Nat) - 1 : Int) = ((done.length : Nat) : Int) by simp, DY (by simp)]
      simp
    have hw : wrap64 (((done ++ [cur]).length : Nat) - 1 : Int) = (done.length : Int) := by rw [eX (by simp <;> omega) (by simp <;> omega)]; simp
    have hlen : (((done ++ [cur]).length : Nat) : Int) = (done.length : Int) + 1 := by simp
    rw [scale_widen_uint64.l0]
    rw [if_pos (by omega), if_pos (by omega), if_pos (by omega), DY hlt, sH _ _ _ p0]
    simp only [Option.bind_some]
    rw [if_pos (by rw [hlen]; omega), hlast, hw, if_pos (by omega), if_pos (by rw [hlen]; omega)]
    rw [List.drop_eq_getElem_cons hlt]
    generalize l[i] = p at *
    simp only [scale_widen_uint64.j1, lY]
    by_cases he : dW p.f0 s = cur.f0
    · rw [if_pos (by simp [he]), if_pos he, hw, if_pos (by omega), if_pos (by rw [hlen]; omega)]
      rw [show bf (done ++ [cur]) (done.length : Int) = cur from by rw [DY (by simp)]; simp]
      have hsf := Gt h0 h1 p1 p2
      generalize addN cur.f1 p.f1 = m at *
      rw [hsf]
      generalize hR : dY (m : Int) = R
      rw [Option.bind_some]
      cases R with
      | true =>
        rw [if_pos rfl, if_pos rfl, wrap_succ (by omega)]
        have hset : (done ++ [cur]).set ((done.length : Int)).toNat ⟨cur.f0, (m : Int)⟩ = done ++ [⟨cur.f0, (m : Int)⟩] := by rw [Int.toNat_natCast]; simp
        have hi := ih (k + 1) (i + 1) done ⟨cur.f0, (m : Int)⟩ (by omega) (by omega) (by omega) (by omega) (Int.natCast_nonneg _) hR
        rw [← hset] at hi
        exact hi
      | false => rw [if_neg (by simp), if_neg (by simp)]
    · rw [if_neg (by simp; intro h; exact he h.symm), if_neg he, if_pos (by simp <;> omega), wrap_succ (by omega)]
      rw [ih (k + 1) (i + 1) (done ++ [cur]) ⟨dW p.f0 s, p.f1⟩ (by omega) (by omega) (by omega) (by simp <;> omega) p1 p2]
      cases lY s ⟨dW p.f0 s, p.f1⟩ (l.drop (i + 1)) with
      | none => rfl
      | some r => simp
theorem Sv (s : Int) (l : List Pu) (hl : l.length < 4398046511104) (hn : NI l) (k : Nat) (hk : 2 * l.length + 4 < k) : scale_widen_uint64.f k l s = some (kT s l) := by
  unfold scale_widen_uint64.f kT
  obtain ⟨k, rfl⟩ : ∃ m, k = m + 1 + 1 + 1 := ⟨k - 3, by omega⟩
  cases l with
  | nil => simp only [scale_widen_uint64.l0]; rfl
  | cons p t =>
    rw [scale_widen_uint64.l0, if_pos (by simp <;> omega), if_pos (by omega), if_pos (by simp <;> omega)]
    obtain ⟨p0, p1, p2⟩ := hn p (by simp)
    have hr : bf (p :: t) 0 = p := rfl
    rw [hr, sH _ _ _ p0]
    simp only [Option.bind_some]
    rw [if_neg (by simp)]
    simp only [scale_widen_uint64.j1]
    rw [if_neg (by simp), if_pos (by simp), show wrap64 (0 + 1) = ((1 : Nat) : Int) from by unfold wrap64; omega]
    have := LC s (p :: t) hl hn t.length (k + 1) 1 [] ⟨dW p.f0 s, p.f1⟩ (by simp) (by simp at hk; omega) (by simp) (by simp) p1 p2
    rw [List.nil_append] at this ⊢
    rw [this]
    rfl
theorem Gu (s : Int) : ∀ (l : List Pu) (cur : Pu) (r : List Pu), lY s cur l = some r → (∀ p ∈ l, u64 p.f1 ∧ dY p.f1 = true) → u64 cur.f1 → dY cur.f1 = true →
    r.length ≤ l.length + 1 ∧ (∀ p ∈ r, u64 p.f1 ∧ dY p.f1 = true) ∧ (∀ p ∈ r, p.f0 = cur.f0 ∨ ∃ q ∈ l, p.f0 = dW q.f0 s) := by
  intro l
  induction l with
  | nil =>
    intro cur r h hn h0 h1
    cases h
    refine ⟨by simp, fun p hp => ?_, fun p hp => ?_⟩
    · obtain rfl : p = cur := by simpa using hp
      exact ⟨h0, h1⟩
    · obtain rfl : p = cur := by simpa using hp
      exact .inl rfl
  | cons p t ih =>
    intro cur r h hn h0 h1
    have hp := hn p (by simp)
    have hn' : ∀ q ∈ t, u64 q.f1 ∧ dY q.f1 = true := fun q hq => hn q (List.mem_cons_of_mem _ hq)
    simp only [lY] at h
    split at h
    · split at h
      · rename_i ho
        have hu : u64 (addN cur.f1 p.f1 : Int) := by
          have := ho
          unfold dY at this
          rw [decide_eq_true_eq] at this
          unfold u64
          omega
        obtain ⟨a, c, d⟩ := ih _ _ h hn' hu ho
        refine ⟨by simp; omega, c, fun q hq => ?_⟩
        rcases d q hq with d | ⟨q', hq', d⟩
        · exact .inl d
        · exact .inr ⟨q', List.mem_cons_of_mem _ hq', d⟩
      · cases h
    · cases hr : lY s ⟨dW p.f0 s, p.f1⟩ t with
      | none => rw [hr] at h; cases h
      | some r' =>
        rw [hr] at h
        cases h
        obtain ⟨a, c, d⟩ := ih _ _ hr hn' hp.1 hp.2
        refine ⟨by simp; omega, fun q hq => ?_, fun q hq => ?_⟩
        · rcases List.mem_cons.1 hq with rfl | hq
          · exact ⟨h0, h1⟩
          · exact c q hq
        · rcases List.mem_cons.1 hq with rfl | hq
          · exact .inl rfl
          · rcases d q hq with d | ⟨q', hq', d⟩
            · exact .inr ⟨p, by simp, d⟩
            · exact .inr ⟨q', List.mem_cons_of_mem _ hq', d⟩
theorem zM (s : Int) {l : List Pu} (h : RowOKU l) : sW (kT s l).1 ∧ (kT s l).1.length ≤ 4096 := by
  unfold kT
  cases hr : lq s l with
  | none => exact ⟨RowOKU.nil.wf, by simp⟩
  | some r =>
    have hc : ∀ q ∈ l, u64 q.f1 ∧ dY q.f1 = true := fun q hq => ⟨(h.wf.1 q hq).2, h.cnt q hq⟩
    cases l with
    | nil => cases hr; exact ⟨RowOKU.nil.wf, by simp⟩
    | cons p t =>
      have hp := hc p (by simp)
      obtain ⟨a, c, d⟩ := Gu s t _ r hr (fun q hq => hc q (List.mem_cons_of_mem _ hq)) hp.1 hp.2
      have hl := h.len
      have hl2 : r.length ≤ 4096 := by simp at hl; omega
      refine ⟨⟨fun q hq => ⟨?_, (c q hq).1⟩, by simp only; omega⟩, hl2⟩
      rcases d q hq with d | ⟨q', hq', d⟩
      · rw [d]; exact wG (h.wf.1 p (by simp)).1
      · rw [d]; exact wG (h.wf.1 q' (List.mem_cons_of_mem _ hq')).1
theorem UW {l : List Pu} (h : RowOKU l) : NI l := fun p hp => ⟨(h.wf.1 p hp).1, by have := (h.wf.1 p hp).2; unfold u64 at this; omega, h.cnt p hp⟩
def DL (h : Fh) (tt : Int) : Fh := ⟨tt, h.f1, h.f2, h.f3, h.f4, h.f5, h.f6, h.f7, h.f8⟩
def mG (h : Fh) (tt : Int) : Fh × Int :=
 if jU h ≠ 0 then (qV, jU h) else if tt < -4 ∨ tt > h.f0 then (qV, 21)
 else match lq (h.f0 - tt) (jw h).1, lq (h.f0 - tt) (jw h).2.1 with
  | some p, some n => zl (DL h tt) (gK p) (gK n)
  | _, _ => (qV, 28)
theorem vk {h : Fh} (hc : jU h = 0) : -4 ≤ h.f0 ∧ h.f0 ≤ 8 := by
 unfold jU jw at hc
 split at hc
 ·cases hc
 ·omega
end Go.Proofs.Ytooiccpmngmapaa.P