/- ScaleFloats: the part that this text bears of the proof that the statement answers true for every input. No condition. -/
import Derived.Test.YtooiccpmngmapaaQScaleFloats3
set_option linter.unusedVariables false
set_option linter.unusedSimpArgs false
namespace Go.Proofs.Ytooiccpmngmapaa.P
open Go.RowKit Go.Shelf Go.Proofs.YtooiccpmngmapaaW.PrintWords Go.Proofs.YtooiccpmngmapaaW.PrintLast Go.Proofs.YtooiccpmngmapaaW.PrintMore
theorem LD (base : Nat) (s : Int) (l : List Pu) (hr : RowOKU l) (w : World) (v : Value) (hv : SI kPu w v l) (hbase : base ≤ w.heap.size) : Calls Try.prog 91 #[v, .int .i64 s, .func (.func 92) #[] #[]] w fun e w' =>
  ∃ v0, e = .returned (.tuple #[v0, .bool (kT s l).2]) ∧ FJ kPu base w' v0 (kT s l).1 ∧ Below w.heap.size w w' := by
 obtain ⟨A, c, rfl, hc, hr'⟩ := hv
 have hl := hr.wf.2
 refine (scale_widen_uint64.calls (2 * l.length + 5) A c l s (kT s l).1 (kT s l).2 w hr' hc (Sv s l hl (UW hr) _ (by omega))).mono ?_
 rintro e w1 ⟨v0, rfl, h0, hb⟩
 exact ⟨v0, rfl, FI.rC h0 hbase, hb⟩
set_option maxHeartbeats 16000000 in
set_option maxRecDepth 100000 in
theorem LG (h : Fh) (hw : EZ h) (tt : Int) (ht : i64 tt) (w : World) (v : Value) (hv : GI w v h) : Calls Try.prog 33 #[v, .int .i64 tt] w fun e w' =>
    ∃ v', e = .returned (.tuple #[v', .int .i64 (mG h tt).2]) ∧ GF w.heap.size w' v' (mG h tt).1 ∧ Below w.heap.size w w' := by
  have hu := Try.underlying55
  obtain ⟨A5, c5, A6, c6, A7, c7, A8, c8, e, s5, s6, s7, s8⟩ := hv.open_
  subst e
  have HV := ah hv
  have p0 := Lj h hw 0
  have p1 := Lj h hw 1
  have ND := (yS hw).1
  have NG := (yS hw).2
  rw [show zL h 0 = ((jw h).1, jU h) from by unfold zL; rw [if_pos rfl]; rfl] at p0
  rw [show zL h 1 = ((jw h).2.1, jU h) from by unfold zL; rw [if_neg (by decide), if_pos rfl]; rfl] at p1
  unfold mG
  generalize hce : jU h = ce at *
  by_cases c0 : ce = 0
  rotate_left
  · rw [if_pos c0]
    have c0a : (ce != 0) = true := bne_iff_ne.2 c0
    simp only at p0
    have P0 := ah p0
    clear c0 hce p0 p1 ND NG hv hw
    have X := ah ((rD.new w #[.int .i64 h.f0, .int .u64 h.f1, .int .u64 h.f2, .int .u64 h.f3, .int .u64 h.f4, .slice A5 h.f5.length c5, .slice A6 h.f6.length c6, .slice A7 h.f7.length c7, .slice A8 h.f8.length c8] 55).alloc (.cells #[.int .i64 0, .int .u64 0, .int .u64 0, .int .u64 0, .int .u64 0, .slice none 0 0, .slice none 0 0, .slice none 0 0, .slice none 0 0] 55)); have hx := fun i => X.out.cell i; have zx := fun i => aC X.out i
    have Y := ah (rD.RV (w := w) (.cells #[.int .i64 h.f0, .int .u64 h.f1, .int .u64 h.f2, .int .u64 h.f3, .int .u64 h.f4, .slice A5 h.f5.length c5, .slice A6 h.f6.length c6, .slice A7 h.f7.length c7, .slice A8 h.f8.length c8] 55) #[.int .i64 0, .int .u64 0, .int .u64 0, .int .u64 0, .int .u64 0, .slice none 0 0, .slice none 0 0, .slice none 0 0, .slice none 0 0] 55); have hy := fun i => Y.out.cell i; have zy := fun i => aC Y.out i
    have B := ah (ak (ak (Below.refl w.heap.size w) (.cells #[.int .i64 h.f0, .int .u64 h.f1, .int .u64 h.f2, .int .u64 h.f3, .int .u64 h.f4, .slice A5 h.f5.length c5, .slice A6 h.f6.length c6, .slice A7 h.f7.length c7, .slice A8 h.f8.length c8] 55)) (.cells #[.int .i64 0, .int .u64 0, .int .u64 0, .int .u64 0, .int .u64 0, .slice none 0 0, .slice none 0 0, .slice none 0 0, .slice none 0 0] 55))
    replace HV := ah ((HV.out.below (ak (Below.refl _ _) (.cells #[.int .i64 h.f0, .int .u64 h.f1, .int .u64 h.f2, .int .u64 h.f3, .int .u64 h.f4, .slice A5 h.f5.length c5, .slice A6 h.f6.length c6, .slice A7 h.f7.length c7, .slice A8 h.f8.length c8] 55))).below (ak (Below.refl _ _) (.cells #[.int .i64 0, .int .u64 0, .int .u64 0, .int .u64 0, .int .u64 0, .slice none 0 0, .slice none 0 0, .slice none 0 0, .slice none 0 0] 55)))
    go_enter Try.func33, Try.ntmps33
    go_wp2_with (first | (go_at_call 90; (with_reducible refine (P0.out _ _ HV.out).mono ?_); rintro e W1 ⟨v0, rfl, hs, hb⟩; replace B := ah (aG B.out B.out.size hb); replace HV := ah (HV.out.below hb); replace X := ah (X.out.below hb); replace hx := fun i => X.out.cell i; replace zx := fun i => aC X.out i; replace Y := ah (Y.out.below hb); replace hy := fun i => Y.out.cell i; replace zy := fun i => aC Y.out i; have S0 := ah hs; clear P0 hs hb))
    refine bodyPost_ret (gu rfl _ _ (w.heap.size + 1) 55 #[.int .i64 0, .int .u64 0, .int .u64 0, .int .u64 0, .int .u64 0, .slice none 0 0, .slice none 0 0, .slice none 0 0, .slice none 0 0] (0, 0) _ rfl (nine Y.out _ _ _ _ _ _ _ _ _) Try.underlying55 rfl (by kernel_rfl)) rfl ?_
    exact ⟨_, rfl, GF.empty _ _, jd B.out (by omega) _ _ _ _ _ _ _ _ _⟩
  rw [if_neg (by simp [c0])]
  have hs := vk (show jU h = 0 by rw [hce]; exact c0)
  subst c0
  have sw : scale_wrong.f h.f0 tt = some (decide (tt < -4 ∨ tt > h.f0)) := by
    unfold scale_wrong.f
    by_cases c1 : tt < -4
    · rw [if_pos c1]; simp [c1]
    · rw [if_neg c1]; simp [c1]
  have wr : ∀ w : World, Calls Try.prog 79 #[.int .i64 h.f0, .int .i64 tt] w fun e w' => e = .returned (.bool (decide (tt < -4 ∨ tt > h.f0))) ∧ Below w.heap.size w w' := fun w => (scale_wrong.calls h.f0 tt _ w sw).mono fun e w1 h => ⟨h.1, h.2.below⟩
  have P0 := ah p0
  have P1 := ah p1
  clear hce p0 p1 hv
  by_cases c1 : tt < -4 ∨ tt > h.f0
  · rw [if_pos c1]
    rw [ahG c1] at wr
    have WR := ah wr
    clear c1 wr sw hs hw ND NG ht
    have X := ah ((rD.new w #[.int .i64 h.f0, .int .u64 h.f1, .int .u64 h.f2, .int .u64 h.f3, .int .u64 h.f4, .slice A5 h.f5.length c5, .slice A6 h.f6.length c6, .slice A7 h.f7.length c7, .slice A8 h.f8.length c8] 55).alloc (.cells #[.int .i64 0, .int .u64 0, .int .u64 0, .int .u64 0, .int .u64 0, .slice none 0 0, .slice none 0 0, .slice none 0 0, .slice none 0 0] 55)); have hx := fun i => X.out.cell i; have zx := fun i => aC X.out i
    have Y := ah (rD.RV (w := w) (.cells #[.int .i64 h.f0, .int .u64 h.f1, .int .u64 h.f2, .int .u64 h.f3, .int .u64 h.f4, .slice A5 h.f5.length c5, .slice A6 h.f6.length c6, .slice A7 h.f7.length c7, .slice A8 h.f8.length c8] 55) #[.int .i64 0, .int .u64 0, .int .u64 0, .int .u64 0, .int .u64 0, .slice none 0 0, .slice none 0 0, .slice none 0 0, .slice none 0 0] 55); have hy := fun i => Y.out.cell i; have zy := fun i => aC Y.out i
    have B := ah (ak (ak (Below.refl w.heap.size w) (.cells #[.int .i64 h.f0, .int .u64 h.f1, .int .u64 h.f2, .int .u64 h.f3, .int .u64 h.f4, .slice A5 h.f5.length c5, .slice A6 h.f6.length c6, .slice A7 h.f7.length c7, .slice A8 h.f8.length c8] 55)) (.cells #[.int .i64 0, .int .u64 0, .int .u64 0, .int .u64 0, .int .u64 0, .slice none 0 0, .slice none 0 0, .slice none 0 0, .slice none 0 0] 55))
    replace HV := ah ((HV.out.below (ak (Below.refl _ _) (.cells #[.int .i64 h.f0, .int .u64 h.f1, .int .u64 h.f2, .int .u64 h.f3, .int .u64 h.f4, .slice A5 h.f5.length c5, .slice A6 h.f6.length c6, .slice A7 h.f7.length c7, .slice A8 h.f8.length c8] 55))).below (ak (Below.refl _ _) (.cells #[.int .i64 0, .int .u64 0, .int .u64 0, .int .u64 0, .int .u64 0, .slice none 0 0, .slice none 0 0, .slice none 0 0, .slice none 0 0] 55)))
    go_enter Try.func33, Try.ntmps33
    go_wp2_with (first | (go_at_call 90; (with_reducible refine (P0.out _ _ HV.out).mono ?_); rintro e W1 ⟨v0, rfl, hs, hb⟩; replace B := ah (aG B.out B.out.size hb); replace HV := ah (HV.out.below hb); replace X := ah (X.out.below hb); replace hx := fun i => X.out.cell i; replace zx := fun i => aC X.out i; replace Y := ah (Y.out.below hb); replace hy := fun i => Y.out.cell i; replace zy := fun i => aC Y.out i; have S0 := ah hs; clear P0 hs hb) | (go_at_call 90; (with_reducible refine (P1.out _ _ HV.out).mono ?_); rintro e W2 ⟨v1, rfl, hs, hb⟩; replace B := ah (aG B.out B.out.size hb); replace HV := ah (HV.out.below hb); replace S0 := ah (S0.out.below hb); replace X := ah (X.out.below hb); replace hx := fun i => X.out.cell i; replace zx := fun i => aC X.out i; replace Y := ah (Y.out.below hb); replace hy := fun i => Y.out.cell i; replace zy := fun i => aC Y.out i; have S1 := ah hs; clear P1 hs hb) | (go_at_call 79; (with_reducible refine (WR.out _).mono ?_); rintro e W3 ⟨rfl, hb⟩; replace B := ah (aG B.out B.out.size hb); replace HV := ah (HV.out.below hb); replace S0 := ah (S0.out.below hb); replace S1 := ah (S1.out.below hb); replace X := ah (X.out.below hb); replace hx := fun i => X.out.cell i; replace zx := fun i => aC X.out i; replace Y := ah (Y.out.below hb); replace hy := fun i => Y.out.cell i; replace zy := fun i => aC Y.out i; clear  hb))
    refine bodyPost_ret (gu rfl _ _ (w.heap.size + 1) 55 #[.int .i64 0, .int .u64 0, .int .u64 0, .int .u64 0, .int .u64 0, .slice none 0 0, .slice none 0 0, .slice none 0 0, .slice none 0 0] (0, 0) _ rfl (nine Y.out _ _ _ _ _ _ _ _ _) Try.underlying55 rfl (by kernel_rfl)) rfl ?_
    exact ⟨_, rfl, GF.empty _ _, jd B.out (by omega) _ _ _ _ _ _ _ _ _⟩
  rw [if_neg c1]
  rw [ahH c1] at wr
  have WR := ah wr
  obtain ⟨dd, hdd⟩ : ∃ dd, dd = h.f0 - tt := ⟨_, rfl⟩
  have hd : IntKind.i64.wrap (h.f0 - tt) = dd := by rw [bI, hdd]; exact eX (by omega) (by omega)
  rw [← hdd]
  have hwl : EZ (DL h tt) := by
    obtain ⟨_, w⟩ := hw
    exact ⟨ht, w⟩
  have q0 := LD (w.heap.size + 1 + 1) dd (jw h).1 ND
  have q1 := LD (w.heap.size + 1 + 1) dd (jw h).2.1 NG
  have ok0 := zM dd ND
  have ok1 := zM dd NG
  clear wr sw hs hw
  cases hA : lq dd (jw h).1 with
  | none =>
    rw [show kT dd (jw h).1 = ([], false) from by unfold kT; rw [hA]] at q0
    generalize kT dd (jw h).2.1 = b1 at q1
    simp only at q0 ⊢
    have Q0 := ah q0
    have Q1 := ah q1
    clear q0 q1 ok0 ok1 ND NG hwl ht c1 hdd hA
    have X := ah ((rD.new w #[.int .i64 h.f0, .int .u64 h.f1, .int .u64 h.f2, .int .u64 h.f3, .int .u64 h.f4, .slice A5 h.f5.length c5, .slice A6 h.f6.length c6, .slice A7 h.f7.length c7, .slice A8 h.f8.length c8] 55).alloc (.cells #[.int .i64 0, .int .u64 0, .int .u64 0, .int .u64 0, .int .u64 0, .slice none 0 0, .slice none 0 0, .slice none 0 0, .slice none 0 0] 55)); have hx := fun i => X.out.cell i; have zx := fun i => aC X.out i
    have Y := ah (rD.RV (w := w) (.cells #[.int .i64 h.f0, .int .u64 h.f1, .int .u64 h.f2, .int .u64 h.f3, .int .u64 h.f4, .slice A5 h.f5.length c5, .slice A6 h.f6.length c6, .slice A7 h.f7.length c7, .slice A8 h.f8.length c8] 55) #[.int .i64 0, .int .u64 0, .int .u64 0, .int .u64 0, .int .u64 0, .slice none 0 0, .slice none 0 0, .slice none 0 0, .slice none 0 0] 55); have hy := fun i => Y.out.cell i; have zy := fun i => aC Y.out i
    have B := ah (ak (ak (Below.refl w.heap.size w) (.cells #[.int .i64 h.f0, .int .u64 h.f1, .int .u64 h.f2, .int .u64 h.f3, .int .u64 h.f4, .slice A5 h.f5.length c5, .slice A6 h.f6.length c6, .slice A7 h.f7.length c7, .slice A8 h.f8.length c8] 55)) (.cells #[.int .i64 0, .int .u64 0, .int .u64 0, .int .u64 0, .int .u64 0, .slice none 0 0, .slice none 0 0, .slice none 0 0, .slice none 0 0] 55))
    replace HV := ah ((HV.out.below (ak (Below.refl _ _) (.cells #[.int .i64 h.f0, .int .u64 h.f1, .int .u64 h.f2, .int .u64 h.f3, .int .u64 h.f4, .slice A5 h.f5.length c5, .slice A6 h.f6.length c6, .slice A7 h.f7.length c7, .slice A8 h.f8.length c8] 55))).below (ak (Below.refl _ _) (.cells #[.int .i64 0, .int .u64 0, .int .u64 0, .int .u64 0, .int .u64 0, .slice none 0 0, .slice none 0 0, .slice none 0 0, .slice none 0 0] 55)))
    go_enter Try.func33, Try.ntmps33
    go_wp2_with (first | (go_at_call 90; (with_reducible refine (P0.out _ _ HV.out).mono ?_); rintro e W1 ⟨v0, rfl, hs, hb⟩; replace B := ah (aG B.out B.out.size hb); replace HV := ah (HV.out.below hb); replace X := ah (X.out.below hb); replace hx := fun i => X.out.cell i; replace zx := fun i => aC X.out i; replace Y := ah (Y.out.below hb); replace hy := fun i => Y.out.cell i; replace zy := fun i => aC Y.out i; have S0 := ah hs; clear P0 hs hb) | (go_at_call 90; (with_reducible refine (P1.out _ _ HV.out).mono ?_); rintro e W2 ⟨v1, rfl, hs, hb⟩; replace B := ah (aG B.out B.out.size hb); replace HV := ah (HV.out.below hb); replace S0 := ah (S0.out.below hb); replace X := ah (X.out.below hb); replace hx := fun i => X.out.cell i; replace zx := fun i => aC X.out i; replace Y := ah (Y.out.below hb); replace hy := fun i => Y.out.cell i; replace zy := fun i => aC Y.out i; have S1 := ah hs; clear P1 hs hb) | (go_at_call 79; (with_reducible refine (WR.out _).mono ?_); rintro e W3 ⟨rfl, hb⟩; replace B := ah (aG B.out B.out.size hb); replace HV := ah (HV.out.below hb); replace S0 := ah (S0.out.below hb); replace S1 := ah (S1.out.below hb); replace X := ah (X.out.below hb); replace hx := fun i => X.out.cell i; replace zx := fun i => aC X.out i; replace Y := ah (Y.out.below hb); replace hy := fun i => Y.out.cell i; replace zy := fun i => aC Y.out i; clear  hb) | (go_at_call 91; (with_reducible refine (Q0.out _ _ S0.out Y.out.Qn).mono ?_); rintro e W4 ⟨u0, rfl, hs, hb⟩; replace B := ah (aG B.out B.out.size hb); replace HV := ah (HV.out.below hb); replace S0 := ah (S0.out.below hb); replace S1 := ah (S1.out.below hb); replace X := ah (X.out.below hb); replace hx := fun i => X.out.cell i; replace zx := fun i => aC X.out i; replace Y := ah (Y.out.below hb); replace hy := fun i => Y.out.cell i; replace zy := fun i => aC Y.out i; have U0 := ah hs; clear Q0 hs hb) | (go_at_call 91; (with_reducible refine (Q1.out _ _ S1.out Y.out.Qn).mono ?_); rintro e W5 ⟨u1, rfl, hs, hb⟩; replace B := ah (aG B.out B.out.size hb); replace HV := ah (HV.out.below hb); replace S0 := ah (S0.out.below hb); replace S1 := ah (S1.out.below hb); replace U0 := ah (U0.out.below hb); replace X := ah (X.out.below hb); replace hx := fun i => X.out.cell i; replace zx := fun i => aC X.out i; replace Y := ah (Y.out.below hb); replace hy := fun i => Y.out.cell i; replace zy := fun i => aC Y.out i; have U1 := ah hs; clear Q1 hs hb))
    refine bodyPost_ret (gu rfl _ _ (w.heap.size + 1) 55 #[.int .i64 0, .int .u64 0, .int .u64 0, .int .u64 0, .int .u64 0, .slice none 0 0, .slice none 0 0, .slice none 0 0, .slice none 0 0] (0, 0) _ rfl (nine Y.out _ _ _ _ _ _ _ _ _) Try.underlying55 rfl (by kernel_rfl)) rfl ?_
    exact ⟨_, rfl, GF.empty _ _, jd B.out (by omega) _ _ _ _ _ _ _ _ _⟩
  | some p =>
  rw [show kT dd (jw h).1 = (p, true) from by unfold kT; rw [hA]] at q0 ok0
  cases hB : lq dd (jw h).2.1 with
  | none =>
    rw [show kT dd (jw h).2.1 = ([], false) from by unfold kT; rw [hB]] at q1
    simp only at q0 q1 ⊢
    have Q0 := ah q0
    have Q1 := ah q1
    clear q0 q1 ok0 ok1 ND NG hwl ht c1 hdd hA hB
    have X := ah ((rD.new w #[.int .i64 h.f0, .int .u64 h.f1, .int .u64 h.f2, .int .u64 h.f3, .int .u64 h.f4, .slice A5 h.f5.length c5, .slice A6 h.f6.length c6, .slice A7 h.f7.length c7, .slice A8 h.f8.length c8] 55).alloc (.cells #[.int .i64 0, .int .u64 0, .int .u64 0, .int .u64 0, .int .u64 0, .slice none 0 0, .slice none 0 0, .slice none 0 0, .slice none 0 0] 55)); have hx := fun i => X.out.cell i; have zx := fun i => aC X.out i
    have Y := ah (rD.RV (w := w) (.cells #[.int .i64 h.f0, .int .u64 h.f1, .int .u64 h.f2, .int .u64 h.f3, .int .u64 h.f4, .slice A5 h.f5.length c5, .slice A6 h.f6.length c6, .slice A7 h.f7.length c7, .slice A8 h.f8.length c8] 55) #[.int .i64 0, .int .u64 0, .int .u64 0, .int .u64 0, .int .u64 0, .slice none 0 0, .slice none 0 0, .slice none 0 0, .slice none 0 0] 55); have hy := fun i => Y.out.cell i; have zy := fun i => aC Y.out i
    have B := ah (ak (ak (Below.refl w.heap.size w) (.cells #[.int .i64 h.f0, .int .u64 h.f1, .int .u64 h.f2, .int .u64 h.f3, .int .u64 h.f4, .slice A5 h.f5.length c5, .slice A6 h.f6.length c6, .slice A7 h.f7.length c7, .slice A8 h.f8.length c8] 55)) (.cells #[.int .i64 0, .int .u64 0, .int .u64 0, .int .u64 0, .int .u64 0, .slice none 0 0, .slice none 0 0, .slice none 0 0, .slice none 0 0] 55))
    replace HV := ah ((HV.out.below (ak (Below.refl _ _) (.cells #[.int .i64 h.f0, .int .u64 h.f1, .int .u64 h.f2, .int .u64 h.f3, .int .u64 h.f4, .slice A5 h.f5.length c5, .slice A6 h.f6.length c6, .slice A7 h.f7.length c7, .slice A8 h.f8.length c8] 55))).below (ak (Below.refl _ _) (.cells #[.int .i64 0, .int .u64 0, .int .u64 0, .int .u64 0, .int .u64 0, .slice none 0 0, .slice none 0 0, .slice none 0 0, .slice none 0 0] 55)))
    go_enter Try.func33, Try.ntmps33
    go_wp2_with (first | (go_at_call 90; (with_reducible refine (P0.out _ _ HV.out).mono ?_); rintro e W1 ⟨v0, rfl, hs, hb⟩; replace B := ah (aG B.out B.out.size hb); replace HV := ah (HV.out.below hb); replace X := ah (X.out.below hb); replace hx := fun i => X.out.cell i; replace zx := fun i => aC X.out i; replace Y := ah (Y.out.below hb); replace hy := fun i => Y.out.cell i; replace zy := fun i => aC Y.out i; have S0 := ah hs; clear P0 hs hb) | (go_at_call 90; (with_reducible refine (P1.out _ _ HV.out).mono ?_); rintro e W2 ⟨v1, rfl, hs, hb⟩; replace B := ah (aG B.out B.out.size hb); replace HV := ah (HV.out.below hb); replace S0 := ah (S0.out.below hb); replace X := ah (X.out.below hb); replace hx := fun i => X.out.cell i; replace zx := fun i => aC X.out i; replace Y := ah (Y.out.below hb); replace hy := fun i => Y.out.cell i; replace zy := fun i => aC Y.out i; have S1 := ah hs; clear P1 hs hb) | (go_at_call 79; (with_reducible refine (WR.out _).mono ?_); rintro e W3 ⟨rfl, hb⟩; replace B := ah (aG B.out B.out.size hb); replace HV := ah (HV.out.below hb); replace S0 := ah (S0.out.below hb); replace S1 := ah (S1.out.below hb); replace X := ah (X.out.below hb); replace hx := fun i => X.out.cell i; replace zx := fun i => aC X.out i; replace Y := ah (Y.out.below hb); replace hy := fun i => Y.out.cell i; replace zy := fun i => aC Y.out i; clear  hb) | (go_at_call 91; (with_reducible refine (Q0.out _ _ S0.out Y.out.Qn).mono ?_); rintro e W4 ⟨u0, rfl, hs, hb⟩; replace B := ah (aG B.out B.out.size hb); replace HV := ah (HV.out.below hb); replace S0 := ah (S0.out.below hb); replace S1 := ah (S1.out.below hb); replace X := ah (X.out.below hb); replace hx := fun i => X.out.cell i; replace zx := fun i => aC X.out i; replace Y := ah (Y.out.below hb); replace hy := fun i => Y.out.cell i; replace zy := fun i => aC Y.out i; have U0 := ah hs; clear Q0 hs hb) | (go_at_call 91; (with_reducible refine (Q1.out _ _ S1.out Y.out.Qn).mono ?_); rintro e W5 ⟨u1, rfl, hs, hb⟩; replace B := ah (aG B.out B.out.size hb); replace HV := ah (HV.out.below hb); replace S0 := ah (S0.out.below hb); replace S1 := ah (S1.out.below hb); replace U0 := ah (U0.out.below hb); replace X := ah (X.out.below hb); replace hx := fun i => X.out.cell i; replace zx := fun i => aC X.out i; replace Y := ah (Y.out.below hb); replace hy := fun i => Y.out.cell i; replace zy := fun i => aC Y.out i; have U1 := ah hs; clear Q1 hs hb))
    refine bodyPost_ret (gu rfl _ _ (w.heap.size + 1) 55 #[.int .i64 0, .int .u64 0, .int .u64 0, .int .u64 0, .int .u64 0, .slice none 0 0, .slice none 0 0, .slice none 0 0, .slice none 0 0] (0, 0) _ rfl (nine Y.out _ _ _ _ _ _ _ _ _) Try.underlying55 rfl (by kernel_rfl)) rfl ?_
    exact ⟨_, rfl, GF.empty _ _, jd B.out (by omega) _ _ _ _ _ _ _ _ _⟩
  | some n =>
  rw [show kT dd (jw h).2.1 = (n, true) from by unfold kT; rw [hB]] at q1 ok1
  simp only at q0 q1 ok0 ok1 ⊢
  have h1 := Fa p (by have := ok0.2; omega)
  have h2 := Fa n (by have := ok1.2; omega)
  have hm := fun w v vp vn => UR (DL h tt) hwl _ _ (CG ok0.1) (CG ok1.1) w v vp vn
  generalize zl (DL h tt) (gK p) (gK n) = mr at *
  obtain ⟨mh, me⟩ := mr
  simp only at hm ⊢
  have Q0 := ah q0
  have Q1 := ah q1
  have H1 := ah h1
  have H2 := ah h2
  have HM := ah hm
  clear q0 q1 ok0 ok1 ND NG hwl ht c1 h1 h2 hm hdd hA hB
  have X := ah ((rD.new w #[.int .i64 h.f0, .int .u64 h.f1, .int .u64 h.f2, .int .u64 h.f3, .int .u64 h.f4, .slice A5 h.f5.length c5, .slice A6 h.f6.length c6, .slice A7 h.f7.length c7, .slice A8 h.f8.length c8] 55).alloc (.cells #[.int .i64 0, .int .u64 0, .int .u64 0, .int .u64 0, .int .u64 0, .slice none 0 0, .slice none 0 0, .slice none 0 0, .slice none 0 0] 55)); have hx := fun i => X.out.cell i; have zx := fun i => aC X.out i
  have Y := ah (rD.RV (w := w) (.cells #[.int .i64 h.f0, .int .u64 h.f1, .int .u64 h.f2, .int .u64 h.f3, .int .u64 h.f4, .slice A5 h.f5.length c5, .slice A6 h.f6.length c6, .slice A7 h.f7.length c7, .slice A8 h.f8.length c8] 55) #[.int .i64 0, .int .u64 0, .int .u64 0, .int .u64 0, .int .u64 0, .slice none 0 0, .slice none 0 0, .slice none 0 0, .slice none 0 0] 55); have hy := fun i => Y.out.cell i; have zy := fun i => aC Y.out i
  have B := ah (ak (ak (Below.refl w.heap.size w) (.cells #[.int .i64 h.f0, .int .u64 h.f1, .int .u64 h.f2, .int .u64 h.f3, .int .u64 h.f4, .slice A5 h.f5.length c5, .slice A6 h.f6.length c6, .slice A7 h.f7.length c7, .slice A8 h.f8.length c8] 55)) (.cells #[.int .i64 0, .int .u64 0, .int .u64 0, .int .u64 0, .int .u64 0, .slice none 0 0, .slice none 0 0, .slice none 0 0, .slice none 0 0] 55))
  replace HV := ah ((HV.out.below (ak (Below.refl _ _) (.cells #[.int .i64 h.f0, .int .u64 h.f1, .int .u64 h.f2, .int .u64 h.f3, .int .u64 h.f4, .slice A5 h.f5.length c5, .slice A6 h.f6.length c6, .slice A7 h.f7.length c7, .slice A8 h.f8.length c8] 55))).below (ak (Below.refl _ _) (.cells #[.int .i64 0, .int .u64 0, .int .u64 0, .int .u64 0, .int .u64 0, .slice none 0 0, .slice none 0 0, .slice none 0 0, .slice none 0 0] 55)))
  go_enter Try.func33, Try.ntmps33
  go_upto_region 12 with (first | (go_at_call 90; (with_reducible refine (P0.out _ _ HV.out).mono ?_); rintro e W1 ⟨v0, rfl, hs, hb⟩; replace B := ah (aG B.out B.out.size hb); replace HV := ah (HV.out.below hb); replace X := ah (X.out.below hb); replace hx := fun i => X.out.cell i; replace zx := fun i => aC X.out i; replace Y := ah (Y.out.below hb); replace hy := fun i => Y.out.cell i; replace zy := fun i => aC Y.out i; have S0 := ah hs; clear P0 hs hb) | (go_at_call 90; (with_reducible refine (P1.out _ _ HV.out).mono ?_); rintro e W2 ⟨v1, rfl, hs, hb⟩; replace B := ah (aG B.out B.out.size hb); replace HV := ah (HV.out.below hb); replace S0 := ah (S0.out.below hb); replace X := ah (X.out.below hb); replace hx := fun i => X.out.cell i; replace zx := fun i => aC X.out i; replace Y := ah (Y.out.below hb); replace hy := fun i => Y.out.cell i; replace zy := fun i => aC Y.out i; have S1 := ah hs; clear P1 hs hb) | (go_at_call 79; (with_reducible refine (WR.out _).mono ?_); rintro e W3 ⟨rfl, hb⟩; replace B := ah (aG B.out B.out.size hb); replace HV := ah (HV.out.below hb); replace S0 := ah (S0.out.below hb); replace S1 := ah (S1.out.below hb); replace X := ah (X.out.below hb); replace hx := fun i => X.out.cell i; replace zx := fun i => aC X.out i; replace Y := ah (Y.out.below hb); replace hy := fun i => Y.out.cell i; replace zy := fun i => aC Y.out i; clear  hb) | (go_at_call 91; (with_reducible refine (Q0.out _ _ S0.out Y.out.Qn).mono ?_); rintro e W4 ⟨u0, rfl, hs, hb⟩; replace B := ah (aG B.out B.out.size hb); replace HV := ah (HV.out.below hb); replace S0 := ah (S0.out.below hb); replace S1 := ah (S1.out.below hb); replace X := ah (X.out.below hb); replace hx := fun i => X.out.cell i; replace zx := fun i => aC X.out i; replace Y := ah (Y.out.below hb); replace hy := fun i => Y.out.cell i; replace zy := fun i => aC Y.out i; have U0 := ah hs; clear Q0 hs hb) | (go_at_call 91; (with_reducible refine (Q1.out _ _ S1.out Y.out.Qn).mono ?_); rintro e W5 ⟨u1, rfl, hs, hb⟩; replace B := ah (aG B.out B.out.size hb); replace HV := ah (HV.out.below hb); replace S0 := ah (S0.out.below hb); replace S1 := ah (S1.out.below hb); replace U0 := ah (U0.out.below hb); replace X := ah (X.out.below hb); replace hx := fun i => X.out.cell i; replace zx := fun i => aC X.out i; replace Y := ah (Y.out.below hb); replace hy := fun i => Y.out.cell i; replace zy := fun i => aC Y.out i; have U1 := ah hs; clear Q1 hs hb))
  have hW2 := jX Y.out
  have HX0 := bC X.out 0 (.int .i64 tt) rfl
  have Zw := Dp Y.out (show w.heap.size + 1 ≠ w.heap.size by omega) 0 (.int .i64 tt)
  have HB0 := B.out.setCell (p := ⟨w.heap.size, 0, none⟩) (Nat.le_refl _) (.int .i64 tt)
  have Zx := And.intro ((U0.out.step (KA.set _ (by omega : w.heap.size < w.heap.size + 1 + 1) (i := 0) (.int .i64 tt))).now) ((U1.out.step (KA.set _ (by omega : w.heap.size < w.heap.size + 1 + 1) (i := 0) (.int .i64 tt))).now)
  clear hx zx hy zy X Y B HV S0 S1 U0 U1
  generalize (World.setCell _ ⟨w.heap.size, 0, none⟩ (.int .i64 tt)) = w1 at *
  have oO := ah HX0
  have qh := ah Zw
  have HB := ah HB0
  have HO := ah Zx
  have HVL := ah (show GI w1 (.agg #[.int .i64 tt, .int .u64 h.f1, .int .u64 h.f2, .int .u64 h.f3, .int .u64 h.f4, .slice A5 h.f5.length c5, .slice A6 h.f6.length c6, .slice A7 h.f7.length c7, .slice A8 h.f8.length c8]) (DL h tt) from GI.mk (h := DL h tt) (s5.below HB0) (s6.below HB0) (s7.below HB0) (s8.below HB0))
  clear HX0 Zw HB0 Zx s5 s6 s7 s8
  have hfx := fun i => au oO.out i; have hzx := fun i => aC oO.out i; have hfy := fun i => au qh.out i; have hzy := fun i => aC qh.out i
  go_region_with (first | (go_at_call 94; (with_reducible refine (H1.out _ u0 (HO.out.1.below (gV (Below.refl _ _)))).mono ?_); rintro e w2 ⟨vp, rfl, hs, hb⟩; have HS2 := ah hs; have HB2 := ah (aG (gV (Below.refl w1.heap.size w1)) (Nat.le_refl _) hb); have hX2 := fun i => au (bD oO.out HB2.out) i; have hY2 := fun i => au (bD qh.out HB2.out) i; have hZ2 := fun i => aC (bD qh.out HB2.out) i; clear hs hb) | (go_at_call 94; (with_reducible refine (H2.out _ u1 (HO.out.2.below (gV (Below.refl _ _)))).mono ?_); rintro e w3 ⟨vn, rfl, hs, hb⟩; have Zh := ah hs; have HB3 := ah (aG (gV (Below.refl w1.heap.size w1)) (Nat.le_refl _) hb); have hX3 := fun i => au (bD oO.out HB3.out) i; have hY3 := fun i => au (bD qh.out HB3.out) i; have hZ3 := fun i => aC (bD qh.out HB3.out) i; clear hs hb) | (go_at_call 94; (with_reducible refine (H2.out w2 u1 (HO.out.2.below HB2.out)).mono ?_); rintro e w4 ⟨vn, rfl, hs, hb⟩; have Xj := ah (And.intro (HS2.out.below hb) hs); have HB4 := ah (aG HB2.out HB2.out.size hb); have hX4 := fun i => au (bD oO.out HB4.out) i; have hY4 := fun i => au (bD qh.out HB4.out) i; have hZ4 := fun i => aC (bD qh.out HB4.out) i; clear hs hb) | (go_at_call 94; (with_reducible refine (H1.out w3 u0 (HO.out.1.below HB3.out)).mono ?_); rintro e w4 ⟨vp, rfl, hs, hb⟩; have Xj := ah (And.intro hs (Zh.out.below hb)); have HB4 := ah (aG HB3.out HB3.out.size hb); have hX4 := fun i => au (bD oO.out HB4.out) i; have hY4 := fun i => au (bD qh.out HB4.out) i; have hZ4 := fun i => aC (bD qh.out HB4.out) i; clear hs hb) | (go_at_call 93; (with_reducible refine (HM.out w4 _ vp vn (HVL.out.below HB4.out) Xj.out.1 Xj.out.2).mono ?_); rintro e w5 ⟨v5, rfl, hs, hb⟩; have KE := ah (aG (aG HB.out HB.out.size HB4.out) (aG HB.out HB.out.size HB4.out).size hb); have HI5 := ah hs; obtain ⟨D5, g5, D6, g6, D7, g7, D8, g8, e5⟩ := hs.open_; subst e5; have hX5 := fun i => au (bD (bD oO.out HB4.out) hb) i; have EI := ah (bD (bD qh.out HB4.out) hb); have hY5 := fun i => au EI.out i; have hZ5 := fun i => aC EI.out i; clear hs hb))
  all_goals (go_wp2; have hsz := jX qh.out; have ac5 := HB4.out.size; refine bodyPost_ret (gu rfl _ _ (w.heap.size + 1) 55 #[.int .i64 mh.f0, .int .u64 mh.f1, .int .u64 mh.f2, .int .u64 mh.f3, .int .u64 mh.f4, .slice D5 mh.f5.length g5, .slice D6 mh.f6.length g6, .slice D7 mh.f7.length g7, .slice D8 mh.f8.length g8] (0, 0) _ rfl (nine EI.out _ _ _ _ _ _ _ _ _) Try.underlying55 rfl (by kernel_rfl)) rfl ?_; exact ⟨_, rfl, (HI5.out.step (sG (KA.refl _ _) (by omega) _ _ _ _ _ _ _ _ _)).lower (by omega), jd KE.out (by omega) _ _ _ _ _ _ _ _ _⟩)
attribute [local go_sem] iV iW jH jI gW gX iY iZ
def scale_many.l0 : Nat → Int → Int → Int → List (gq) → Int → Int → Option (Int)
 | 0, _, _, _, _, _, _ => none
 | k + 1, x1, x5, x6, x10, x11, x12 => if x12 < x11 then (if 0 ≤ x12 then (if x12 < (x10.length : Int) then ((scale_Place.f k ((aX x10 x12).f0) x1).bind fun dZ => (if x5 = 0 then (scale_many.l0 k x1 (wrap64 (x5 + 1)) dZ x10 x11 (wrap64 (x12 + 1))) else (if dZ = x6 then (scale_many.l0 k x1 x5 x6 x10 x11 (wrap64 (x12 + 1))) else (scale_many.l0 k x1 (wrap64 (x5 + 1)) dZ x10 x11 (wrap64 (x12 + 1)))))) else (none)) else (none)) else (some x5)
def scale_many.f (k : Nat) (l0 : List (gq)) (a1 : Int) : Option (Int) := scale_many.l0 k a1 0 0 l0 (l0.length : Int) 0
set_option maxHeartbeats 8000000 in
set_option maxRecDepth 100000 in
theorem scale_many.calls (k : Nat) (A0 : Option Addr) (c0 : Nat) (l0 : List (gq)) (a1 : Int) (r : Int) (w : World) (hr0 : Kd.C jB w A0 l0.length l0) (hc0 : l0.length ≤ c0) (h : scale_many.f k l0 a1 = some r) :
  Calls Try.prog 100 #[.slice A0 l0.length c0, .int .i64 a1] w fun e w' => e = .returned (.int .i64 r) ∧ Below w.heap.size w w' := by
 have Ro := Try.underlying173
 have HR0 := ah hr0
 have uH := ah hc0
 clear hr0 hc0
 have HB := ah (Below.refl w.heap.size w)
 have H : (scale_many.l0 k a1 0 0 l0 (l0.length : Int) 0) = some r := h
 clear h
 have H' := ah H
 clear H
 go_enter Try.func100, Try.ntmps100
 go_wp2
 go_loopg [5, 6, 12] k (fun kq v5 v6 v12 w' => ∃ (bG : Int) (fP : Int) (dR : Int), v5 = .int .i64 bG ∧ v6 = .int .i64 fP ∧ v12 = .int .i64 dR ∧ aj (scale_many.l0 kq a1 bG fP l0 (l0.length : Int) dR = some r) ∧ aj (kq ≤ k) ∧ aj (Below w.heap.size w w'))
 case atStart => exact ⟨(0), (0), (0), (by first | rfl | (simp; done) | (simp [*]; done)), (by first | rfl | (simp; done) | (simp [*]; done)), (by first | rfl | (simp; done) | (simp [*]; done)), H', ⟨Nat.le_refl _⟩, ⟨by repeat (first | (with_reducible first | exact HB.out | apply ak | apply ay | apply aH) | exact HB.out)⟩⟩
 case round =>
  clear H'
  try clear c1
  try clear p2
  obtain ⟨bG, fP, dR, rfl, rfl, rfl, HA, jy, HB⟩ := hrel
  cases gk with
  | zero => exact absurd HA.out (by simp [scale_many.l0])
  | succ k1 =>
   have H := HA.out
   clear HA
   simp only [scale_many.l0] at H
   by_cases c3 : dR < (l0.length : Int)
   ·rw [if_pos c3] at H
    have c3b0 : decide (dR < (l0.length : Int)) = true := ahG c3
    clear c3
    by_cases c4 : 0 ≤ dR
    ·rw [if_pos c4] at H
     have c4b0 : decide (0 ≤ dR) = true := ahG c4
     clear c4
     by_cases c5 : dR < (l0.length : Int)
     ·rw [if_pos c5] at H
      have c5b0 : decide (dR < (l0.length : Int)) = true := ahG c5
      clear c5
      replace H := Option.bind_eq_some_iff.mp H
      obtain ⟨dZ, Vt, H⟩ := H
      replace H : (if bG = 0 then (scale_many.l0 k1 a1 (wrap64 (bG + 1)) dZ l0 (l0.length : Int) (wrap64 (dR + 1))) else (if dZ = fP then (scale_many.l0 k1 a1 bG fP l0 (l0.length : Int) (wrap64 (dR + 1))) else (scale_many.l0 k1 a1 (wrap64 (bG + 1)) dZ l0 (l0.length : Int) (wrap64 (dR + 1))))) = some r := H
      have A6 := ah Vt
      clear Vt
      by_cases c7 : bG = 0
      ·rw [if_pos c7] at H
       have c7b0 : (bG == 0) = true := beq_iff_eq.mpr c7
       have c7b1 : (bG != 0) = false := bne_eq_false_iff_eq.mpr c7
       clear c7
       have H' := ah H
       clear H
       have fC : 0 ≤ (dR : Int) := ahF (by assumption)
       have fD : dR < (l0.length : Int) := ahF (by assumption)
       obtain ⟨kE, jM, bW, dS⟩ := qH HR0.out dR fC fD
       cases jM
       replace bW := (HB.out.cell (World.block_lt_of_cell? w _ bW)).trans bW
       replace dS := (HB.out.cell (World.block_lt_of_cell? w _ dS)).trans dS
       replace fC := eq_true fC
       replace fD := eq_true fD
       go_wp2_with (first | ((with_reducible refine fK (N := 8) rfl ?_); refine fA ?hg (N := 8) ?hd (cs := #[.int .i64 0, .int .i64 0]) (t := 173) ?hr ?_; (case hd => rfl); (case hg => rfl); (case hr => first | (go_simp; done) | (go_simp; rfl)); intro aI hg w8 hbox hb; have aJ := ah (hbox); have oN := ah ((by rw [hg]; exact (aQ (bg HB.out)) : w.heap.size ≤ aI)); have bU := ah ((by rw [hg]; exact (aQ (bg HB.out)) : w.heap.size ≤ aI)); replace HB := ah (aZ (bg HB.out) hb); clear hb hbox hg; have rJ := au aJ.out; have rM := aC aJ.out) | ((with_reducible refine bP (f := 77) rfl ?_); refine lG (some 19) rfl rfl Try.func77 (by kernel_rfl) rfl #[.int .i64 ((aX l0 dR).f0), .int .i64 a1] rfl (by (try simp only [List.map_toArray, List.map_cons, List.map_nil]); first | done | rfl | (simp only [List.length_drop, List.length_take]; rfl)) ?_; (with_reducible refine (scale_Place.calls k1 ((aX l0 dR).f0) a1 dZ _ A6.out).mono ?_); rintro e w' ⟨rfl, ⟨nd, rfl⟩⟩; refine ⟨_, rfl, ?_⟩; clear A6))
       go_roundg k1
       case measure => have := jy.out; omega
       case rel => exact ⟨(wrap64 (bG + 1)), (dZ), (wrap64 (dR + 1)), (by first | rfl | (simp; done) | (simp [*]; done)), (by first | rfl | (simp; done) | (simp [*]; done)), (by first | rfl | (simp; done) | (simp [*]; done)), H', ⟨by have := jy.out; omega⟩, ⟨by repeat (first | (with_reducible first | exact HB.out | apply ak | apply ay | apply aH | refine aA ?_ bU.out) | exact HB.out)⟩⟩
      rw [if_neg c7] at H
      have c7b0 : (bG == 0) = false := beq_eq_false_iff_ne.mpr c7
      have c7b1 : (bG != 0) = true := bne_iff_ne.mpr c7
      by_cases c10 : dZ = fP
      ·rw [if_pos c10] at H
       have c10b0 : (dZ == fP) = true := beq_iff_eq.mpr c10
       have c10b1 : (dZ != fP) = false := bne_eq_false_iff_eq.mpr c10
       clear c10
       have H' := ah H
       clear H
       have fC : 0 ≤ (dR : Int) := ahF (by assumption)
       have fD : dR < (l0.length : Int) := ahF (by assumption)
       obtain ⟨kE, jM, bW, dS⟩ := qH HR0.out dR fC fD
       cases jM
       replace bW := (HB.out.cell (World.block_lt_of_cell? w _ bW)).trans bW
       replace dS := (HB.out.cell (World.block_lt_of_cell? w _ dS)).trans dS
       replace fC := eq_true fC
       replace fD := eq_true fD
       go_wp2_with (first | ((with_reducible refine fK (N := 8) rfl ?_); refine fA ?hg (N := 8) ?hd (cs := #[.int .i64 0, .int .i64 0]) (t := 173) ?hr ?_; (case hd => rfl); (case hg => rfl); (case hr => first | (go_simp; done) | (go_simp; rfl)); intro aI hg VF hbox hb; have aJ := ah (hbox); have oN := ah ((by rw [hg]; exact (aQ (bg HB.out)) : w.heap.size ≤ aI)); have bU := ah ((by rw [hg]; exact (aQ (bg HB.out)) : w.heap.size ≤ aI)); replace HB := ah (aZ (bg HB.out) hb); clear hb hbox hg; have aaU := au aJ.out; have aaV := aC aJ.out) | ((with_reducible refine bP (f := 77) rfl ?_); refine lG (some 19) rfl rfl Try.func77 (by kernel_rfl) rfl #[.int .i64 ((aX l0 dR).f0), .int .i64 a1] rfl (by (try simp only [List.map_toArray, List.map_cons, List.map_nil]); first | done | rfl | (simp only [List.length_drop, List.length_take]; rfl)) ?_; (with_reducible refine (scale_Place.calls k1 ((aX l0 dR).f0) a1 dZ _ A6.out).mono ?_); rintro e w' ⟨rfl, ⟨nd, rfl⟩⟩; refine ⟨_, rfl, ?_⟩; clear A6))
       go_roundg k1
       case measure => have := jy.out; omega
       case rel => exact ⟨(bG), (fP), (wrap64 (dR + 1)), (by first | rfl | (simp; done) | (simp [*]; done)), (by first | rfl | (simp; done) | (simp [*]; done)), (by first | rfl | (simp; done) | (simp [*]; done)), H', ⟨by have := jy.out; omega⟩, ⟨by repeat (first | (with_reducible first | exact HB.out | apply ak | apply ay | apply aH | refine aA ?_ bU.out) | exact HB.out)⟩⟩
      rw [if_neg c10] at H
      have c10b0 : (dZ == fP) = false := beq_eq_false_iff_ne.mpr c10
      have c10b1 : (dZ != fP) = true := bne_iff_ne.mpr c10
      have H' := ah H
      clear H
      have fC : 0 ≤ (dR : Int) := ahF (by assumption)
      have fD : dR < (l0.length : Int) := ahF (by assumption)
      obtain ⟨kE, jM, bW, dS⟩ := qH HR0.out dR fC fD
      cases jM
      replace bW := (HB.out.cell (World.block_lt_of_cell? w _ bW)).trans bW
      replace dS := (HB.out.cell (World.block_lt_of_cell? w _ dS)).trans dS
      replace fC := eq_true fC
      replace fD := eq_true fD
      go_wp2_with (first | ((with_reducible refine fK (N := 8) rfl ?_); refine fA ?hg (N := 8) ?hd (cs := #[.int .i64 0, .int .i64 0]) (t := 173) ?hr ?_; (case hd => rfl); (case hg => rfl); (case hr => first | (go_simp; done) | (go_simp; rfl)); intro aI hg Rt hbox hb; have aJ := ah (hbox); have oN := ah ((by rw [hg]; exact (aQ (bg HB.out)) : w.heap.size ≤ aI)); have bU := ah ((by rw [hg]; exact (aQ (bg HB.out)) : w.heap.size ≤ aI)); replace HB := ah (aZ (bg HB.out) hb); clear hb hbox hg; have Ai := au aJ.out; have Aj := aC aJ.out) | ((with_reducible refine bP (f := 77) rfl ?_); refine lG (some 19) rfl rfl Try.func77 (by kernel_rfl) rfl #[.int .i64 ((aX l0 dR).f0), .int .i64 a1] rfl (by (try simp only [List.map_toArray, List.map_cons, List.map_nil]); first | done | rfl | (simp only [List.length_drop, List.length_take]; rfl)) ?_; (with_reducible refine (scale_Place.calls k1 ((aX l0 dR).f0) a1 dZ _ A6.out).mono ?_); rintro e w' ⟨rfl, ⟨nd, rfl⟩⟩; refine ⟨_, rfl, ?_⟩; clear A6))
      go_roundg k1
      case measure => have := jy.out; omega
      case rel => exact ⟨(wrap64 (bG + 1)), (dZ), (wrap64 (dR + 1)), (by first | rfl | (simp; done) | (simp [*]; done)), (by first | rfl | (simp; done) | (simp [*]; done)), (by first | rfl | (simp; done) | (simp [*]; done)), H', ⟨by have := jy.out; omega⟩, ⟨by repeat (first | (with_reducible first | exact HB.out | apply ak | apply ay | apply aH | refine aA ?_ bU.out) | exact HB.out)⟩⟩
     rw [if_neg c5] at H
     exact absurd H (by simp)
    rw [if_neg c4] at H
    exact absurd H (by simp)
   rw [if_neg c3] at H
   have c3b0 : decide (dR < (l0.length : Int)) = false := ahH c3
   clear c3
   obtain rfl := Option.some.inj H
   go_wp2
   go_ret
   exact ⟨by first | rfl | (simp [aU, aV] <;> rfl) | (simp [*, aU, aV] <;> rfl), by repeat (first | (with_reducible first | exact HB.out | apply ak | apply ay | apply aH) | exact HB.out)⟩
end Go.Proofs.Ytooiccpmngmapaa.P
namespace Go.Proofs.Ytooiccpmngmapaa.P
open Go.RowKit Go.Proofs.YtooiccpmngmapaaW.PrintWords Go.Proofs.YtooiccpmngmapaaW.PrintLast Go.Proofs.YtooiccpmngmapaaW.PrintMore
attribute [local go_sem] iV iW jH jI gW gX iY iZ
def scale_Fit.l0 : Nat → Int → List (gq) → List (gq) → Int → Int → Int → Int → Int → Int → List (dQ) → List (dQ) → List Int → List Int → Option (Int × Int)
 | 0, _, _, _, _, _, _, _, _, _, _, _, _, _ => none
 | k + 1, x1, x6, x8, x10, mF, oD, oG, oH, pY, oI, oJ, oK, oL => if x10 ≥ (-4) then ((scale_many.f k x6 (wrap64 (mF - x10))).bind fun t116 => ((scale_many.f k x8 (wrap64 (mF - x10))).bind fun t117 => (if (wrap64 (t116 + t117)) ≤ x1 then (some (x10, 0)) else (scale_Fit.l0 k x1 x6 x8 (wrap64 (x10 - 1)) mF oD oG oH pY oI oJ oK oL)))) else (some (0, 12))
def scale_Fit.f (k : Nat) (cO : Int) (dF : Int) (dO : Int) (dP : Int) (dM : Int) (dJ : List (dQ)) (dG : List (dQ)) (dB : List Int) (dA : List Int) (a1 : Int) : Option (Int × Int) := (hist_Pairs.f k cO dF dO dP dM dJ dG dB dA 0).bind fun lJ => (if lJ.2 = 0 then (if a1 < 0 then (some (0, 11)) else ((hist_Pairs.f k cO dF dO dP dM dJ dG dB dA 1).bind fun nR => ((pairs_Without_int64.f lJ.1 0).bind fun wO => ((pairs_Without_int64.f nR.1 0).bind fun vw => (scale_Fit.l0 k a1 wO vw cO cO dF dO dP dM dJ dG dB dA))))) else (some (0, lJ.2)))
def scale_Fit.T11 : Bool × List (List Nat × List Nat) := (true, [([], []), ([], []), ([1], [1]), ([], []), ([2, 3], [2, 3]), ([0, 4], [0, 4]), ([], []), ([], []), ([7], [7]), ([], []), ([8, 9], [8, 9]), ([6, 10, 5], [6, 10]), ([5, 11], [5, 11]), ([], []), ([12, 13], [12, 13])])
def scale_Fit.B11 : List Nat := [0, 0, 2, 0, 14, 31, 0, 0, 128, 0, 896, 2047, 4095, 0, 16383]
theorem scale_Fit.VN : ru .any (opsOf Try.f38 11) = scale_Fit.T11 := by kernel_rfl
theorem scale_Fit.Sz : qG scale_Fit.T11.2 scale_Fit.B11 = true := by kernel_rfl
set_option maxHeartbeats 8000000 in
set_option maxRecDepth 100000 in
theorem scale_Fit.calls (k : Nat) (cO : Int) (dF : Int) (dO : Int) (dP : Int) (dM : Int) (iO : Option Addr) (iP : Nat) (dJ : List (dQ)) (iJ : Option Addr) (iK : Nat) (dG : List (dQ)) (iw : Option Addr) (iy : Nat) (dB : List Int) (iD : Option Addr) (iE : Nat) (dA : List Int) (a1 : Int) (r1 : Int) (r2 : Int) (w : World) (oP : Kd.C jq w iO dJ.length dJ) (oQ : dJ.length ≤ iP) (oU : Kd.C jq w iJ dG.length dG) (oV : dG.length ≤ iK) (qP : Kd.C (Kd.int .i64) w iw dB.length dB) (qQ : dB.length ≤ iy) (qR : Kd.C (Kd.int .i64) w iD dA.length dA) (qU : dA.length ≤ iE) (h : scale_Fit.f k cO dF dO dP dM dJ dG dB dA a1 = some (r1, r2)) :
  Calls Try.prog 38 #[.agg #[.int .i64 cO, .int .u64 dF, .int .u64 dO, .int .u64 dP, .int .u64 dM, .slice iO dJ.length iP, .slice iJ dG.length iK, .slice iw dB.length iy, .slice iD dA.length iE], .int .i64 a1] w fun e w' => e = .returned (.tuple #[.int .i64 r1, .int .i64 r2]) ∧ Below w.heap.size w w' := by
 have UK := Try.underlying29
 have nX := ah oP
 have nY := ah oQ
 clear oP oQ
 have oW := ah oU
 have oZ := ah oV
 clear oU oV
 have pK := ah qP
 have pO := ah qQ
 clear qP qQ
 have qm := ah qR
 have qo := ah qU
 clear qR qU
 have HB := ah (Below.refl w.heap.size w)
 have H : ((hist_Pairs.f k cO dF dO dP dM dJ dG dB dA 0).bind fun lJ => (if lJ.2 = 0 then (if a1 < 0 then (some (0, 11)) else ((hist_Pairs.f k cO dF dO dP dM dJ dG dB dA 1).bind fun nR => ((pairs_Without_int64.f lJ.1 0).bind fun wO => ((pairs_Without_int64.f nR.1 0).bind fun vw => (scale_Fit.l0 k a1 wO vw cO cO dF dO dP dM dJ dG dB dA))))) else (some (0, lJ.2)))) = some (r1, r2) := h
 clear h
 replace H := Option.bind_eq_some_iff.mp H
 obtain ⟨⟨fH, t105⟩, G7, H⟩ := H
 replace H : (if t105 = 0 then (if a1 < 0 then (some (0, 11)) else ((hist_Pairs.f k cO dF dO dP dM dJ dG dB dA 1).bind fun nR => ((pairs_Without_int64.f fH 0).bind fun wO => ((pairs_Without_int64.f nR.1 0).bind fun vw => (scale_Fit.l0 k a1 wO vw cO cO dF dO dP dM dJ dG dB dA))))) else (some (0, t105))) = some (r1, r2) := H
 have A3 := ah G7
 clear G7
 by_cases c4 : t105 = 0
 ·rw [if_pos c4] at H
  have c4b0 : (t105 == 0) = true := beq_iff_eq.mpr c4
  have c4b1 : (t105 != 0) = false := bne_eq_false_iff_eq.mpr c4
  clear c4
  by_cases c5 : a1 < 0
  ·rw [if_pos c5] at H
   have c5b0 : decide (a1 < 0) = true := ahG c5
   clear c5
   simp only [Option.some.injEq, Prod.mk.injEq] at H
   obtain ⟨rfl, rfl⟩ := H
   go_enter Try.func38, Try.ntmps38
   go_wp2_with (first | ((with_reducible refine fK (N := 2) rfl ?_); refine fA ?hg (N := 2) ?hd (cs := #[.int .i64 cO, .int .u64 dF, .int .u64 dO, .int .u64 dP, .int .u64 dM, .slice iO dJ.length iP, .slice iJ dG.length iK, .slice iw dB.length iy, .slice iD dA.length iE]) (t := 29) ?hr ?_; (case hd => rfl); (case hg => rfl); (case hr => first | (go_simp; done) | (go_simp; rfl)); intro bV hg w6 hbox hb; have aN := ah (hbox); have xY := ah ((by rw [hg]; exact (aQ (bg HB.out)) : w.heap.size ≤ bV)); have dH := ah ((by rw [hg]; exact (aQ (bg HB.out)) : w.heap.size ≤ bV)); replace HB := ah (aZ (bg HB.out) hb); clear hb hbox hg; have xC := au aN.out; have xE := aC aN.out) | ((with_reducible refine bP (f := 78) rfl ?_); refine lG (some 13) rfl rfl Try.func78 (by kernel_rfl) rfl #[.agg #[.int .i64 cO, .int .u64 dF, .int .u64 dO, .int .u64 dP, .int .u64 dM, .slice iO dJ.length iP, .slice iJ dG.length iK, .slice iw dB.length iy, .slice iD dA.length iE], .int .i64 0] rfl (by (try simp only [List.map_toArray, List.map_cons, List.map_nil]); first | done | rfl | (simp only [List.length_drop, List.length_take]; rfl)) ?_; (with_reducible refine (hist_Pairs.calls k cO dF dO dP dM _ _ dJ _ _ dG _ _ dB _ _ dA 0 fH t105 _ ?dK ?dL ?kC ?kD ?pR ?pU ?pV ?pW A3.out).mono ?_); (case dK => exact Kd.jV (Kd.bT nX.out HB.out)); (case dL => exact nY.out); (case kC => exact Kd.jV (Kd.bT oW.out HB.out)); (case kD => exact oZ.out); (case pR => exact Kd.jV (Kd.bT pK.out HB.out)); (case pU => exact pO.out); (case pV => exact Kd.jV (Kd.bT qm.out HB.out)); (case pW => exact qo.out); rintro e w8 ⟨zD, rfl, ho0, hb⟩; refine ⟨_, rfl, ?_⟩; have jf := ah (Kd.dh ho0 (aQ (by repeat (first | (with_reducible first | exact HB.out | refine bJ ?_ | refine aA ?_ dH.out) | exact HB.out)))); replace aN := ah (eH aN.out hb); replace HB := ah (aZ (by repeat (first | (with_reducible first | exact HB.out | refine bJ ?_ | refine aA ?_ dH.out) | exact HB.out)) hb); (try clear hb); (try clear hb2); (try clear hk); (try clear hi); (try clear ho0); clear A3))
   go_ret2
   exact ⟨by first | rfl | (simp [aU, aV] <;> rfl) | (simp [*, aU, aV] <;> rfl), by repeat (first | (with_reducible first | exact HB.out | apply ak | apply ay | apply aH | refine aA ?_ dH.out) | exact HB.out)⟩
  rw [if_neg c5] at H
  have c5b0 : decide (a1 < 0) = false := ahH c5
  clear c5
  replace H := Option.bind_eq_some_iff.mp H
  obtain ⟨⟨fQ, t109⟩, Zy, H⟩ := H
  replace H : ((pairs_Without_int64.f fH 0).bind fun wO => ((pairs_Without_int64.f fQ 0).bind fun vw => (scale_Fit.l0 k a1 wO vw cO cO dF dO dP dM dJ dG dB dA))) = some (r1, r2) := H
  have A9 := ah Zy
  clear Zy
  replace H := Option.bind_eq_some_iff.mp H
  obtain ⟨wO, SA, H⟩ := H
  replace H : ((pairs_Without_int64.f fQ 0).bind fun vw => (scale_Fit.l0 k a1 wO vw cO cO dF dO dP dM dJ dG dB dA)) = some (r1, r2) := H
  have NJ := ah SA
  clear SA
  replace H := Option.bind_eq_some_iff.mp H
  obtain ⟨vw, Zz, H⟩ := H
  replace H : (scale_Fit.l0 k a1 wO vw cO cO dF dO dP dM dJ dG dB dA) = some (r1, r2) := H
  have A11 := ah Zz
  clear Zz
  have H' := ah H
  clear H
  go_enter Try.func38, Try.ntmps38
  go_wp2_with (first | ((with_reducible refine fK (N := 2) rfl ?_); refine fA ?hg (N := 2) ?hd (cs := #[.int .i64 cO, .int .u64 dF, .int .u64 dO, .int .u64 dP, .int .u64 dM, .slice iO dJ.length iP, .slice iJ dG.length iK, .slice iw dB.length iy, .slice iD dA.length iE]) (t := 29) ?hr ?_; (case hd => rfl); (case hg => rfl); (case hr => first | (go_simp; done) | (go_simp; rfl)); intro bV hg w12 hbox hb; have aN := ah (hbox); have xY := ah ((by rw [hg]; exact (aQ (bg HB.out)) : w.heap.size ≤ bV)); have dH := ah ((by rw [hg]; exact (aQ (bg HB.out)) : w.heap.size ≤ bV)); replace HB := ah (aZ (bg HB.out) hb); clear hb hbox hg; have yG := au aN.out; have yH := aC aN.out) | ((with_reducible refine bP (f := 78) rfl ?_); refine lG (some 13) rfl rfl Try.func78 (by kernel_rfl) rfl #[.agg #[.int .i64 cO, .int .u64 dF, .int .u64 dO, .int .u64 dP, .int .u64 dM, .slice iO dJ.length iP, .slice iJ dG.length iK, .slice iw dB.length iy, .slice iD dA.length iE], .int .i64 0] rfl (by (try simp only [List.map_toArray, List.map_cons, List.map_nil]); first | done | rfl | (simp only [List.length_drop, List.length_take]; rfl)) ?_; (with_reducible refine (hist_Pairs.calls k cO dF dO dP dM _ _ dJ _ _ dG _ _ dB _ _ dA 0 fH t105 _ ?dK ?dL ?kC ?kD ?pR ?pU ?pV ?pW A3.out).mono ?_); (case dK => exact Kd.jV (Kd.bT nX.out HB.out)); (case dL => exact nY.out); (case kC => exact Kd.jV (Kd.bT oW.out HB.out)); (case kD => exact oZ.out); (case pR => exact Kd.jV (Kd.bT pK.out HB.out)); (case pU => exact pO.out); (case pV => exact Kd.jV (Kd.bT qm.out HB.out)); (case pW => exact qo.out); rintro e Zk ⟨zD, rfl, ho0, hb⟩; refine ⟨_, rfl, ?_⟩; have jf := ah (Kd.dh ho0 (aQ (by repeat (first | (with_reducible first | exact HB.out | refine bJ ?_ | refine aA ?_ dH.out) | exact HB.out)))); replace aN := ah (eH aN.out hb); replace HB := ah (aZ (by repeat (first | (with_reducible first | exact HB.out | refine bJ ?_ | refine aA ?_ dH.out) | exact HB.out)) hb); (try clear hb); (try clear hb2); (try clear hk); (try clear hi); (try clear ho0); clear A3; have Jp := au aN.out; have Jq := aC aN.out) | ((with_reducible refine bP (f := 78) rfl ?_); refine lG (some 23) rfl rfl Try.func78 (by kernel_rfl) rfl #[.agg #[.int .i64 cO, .int .u64 dF, .int .u64 dO, .int .u64 dP, .int .u64 dM, .slice iO dJ.length iP, .slice iJ dG.length iK, .slice iw dB.length iy, .slice iD dA.length iE], .int .i64 1] rfl (by (try simp only [List.map_toArray, List.map_cons, List.map_nil]); first | done | rfl | (simp only [List.length_drop, List.length_take]; rfl)) ?_; (with_reducible refine (hist_Pairs.calls k cO dF dO dP dM _ _ dJ _ _ dG _ _ dB _ _ dA 1 fQ t109 _ ?dK ?dL ?kC ?kD ?pR ?pU ?pV ?pW A9.out).mono ?_); (case dK => exact Kd.jV (Kd.bT nX.out HB.out)); (case dL => exact nY.out); (case kC => exact Kd.jV (Kd.bT oW.out HB.out)); (case kD => exact oZ.out); (case pR => exact Kd.jV (Kd.bT pK.out HB.out)); (case pU => exact pO.out); (case pV => exact Kd.jV (Kd.bT qm.out HB.out)); (case pW => exact qo.out); rintro e w16 ⟨v107, rfl, ho0, hb⟩; refine ⟨_, rfl, ?_⟩; have iQ := ah (Kd.dh (Kd.jh ho0 (Kd.kW (Kd.fJ jf.out))) (aQ (by repeat (first | (with_reducible first | exact HB.out | refine bJ ?_ | refine aA ?_ dH.out) | exact HB.out)))); replace jf := ah (Kd.fV (Kd.fJ jf.out) (Kd.iI ho0) hb); replace aN := ah (eH aN.out hb); replace HB := ah (aZ (by repeat (first | (with_reducible first | exact HB.out | refine bJ ?_ | refine aA ?_ dH.out) | exact HB.out)) hb); (try clear hb); (try clear hb2); (try clear hk); (try clear hi); (try clear ho0); clear A9; obtain ⟨YN, Ur, WB⟩ := Kd.dw jf.out; subst WB) | ((with_reducible refine bP (f := 71) rfl ?_); refine lG (some 27) rfl rfl Try.func71 (by kernel_rfl) rfl #[.slice YN fH.length Ur, .int .i64 0] rfl (by (try simp only [List.map_toArray, List.map_cons, List.map_nil]); first | done | rfl | (simp only [List.length_drop, List.length_take]; rfl)) ?_; (with_reducible refine (pairs_Without_int64.calls _ _ fH 0 wO _ ?dK ?dL NJ.out).mono ?_); (case dK => exact Kd.jV (Kd.bF jf.out).2.2); (case dL => exact (Kd.bF jf.out).2.1); rintro e w18 ⟨ZA, rfl, ho0, hb⟩; refine ⟨_, rfl, ?_⟩; have OV := ah (Kd.dh (Kd.jh (Kd.jh ho0 (Kd.kW (Kd.fJ jf.out))) (Kd.kW (Kd.fJ iQ.out))) (aQ (by repeat (first | (with_reducible first | exact HB.out | refine bJ ?_ | refine aA ?_ dH.out) | exact HB.out)))); replace jf := ah (Kd.fV (Kd.fJ jf.out) (Kd.iI ho0) hb); replace iQ := ah (Kd.fV (Kd.fJ iQ.out) (Kd.iI ho0) hb); replace aN := ah (eH aN.out hb); replace HB := ah (aZ (by repeat (first | (with_reducible first | exact HB.out | refine bJ ?_ | refine aA ?_ dH.out) | exact HB.out)) hb); (try clear hb); (try clear hb2); (try clear hk); (try clear hi); (try clear ho0); clear NJ; obtain ⟨ac6, ZB, UY⟩ := Kd.dw iQ.out; subst UY) | ((with_reducible refine bP (f := 71) rfl ?_); refine lG (some 29) rfl rfl Try.func71 (by kernel_rfl) rfl #[.slice ac6 fQ.length ZB, .int .i64 0] rfl (by (try simp only [List.map_toArray, List.map_cons, List.map_nil]); first | done | rfl | (simp only [List.length_drop, List.length_take]; rfl)) ?_; (with_reducible refine (pairs_Without_int64.calls _ _ fQ 0 vw _ ?dK ?dL A11.out).mono ?_); (case dK => exact Kd.jV (Kd.bF iQ.out).2.2); (case dL => exact (Kd.bF iQ.out).2.1); rintro e w20 ⟨Xl, rfl, ho0, hb⟩; refine ⟨_, rfl, ?_⟩; have yh := ah (Kd.dh (Kd.jh (Kd.jh (Kd.jh ho0 (Kd.kW (Kd.fJ jf.out))) (Kd.kW (Kd.fJ iQ.out))) (Kd.kW (Kd.fJ OV.out))) (aQ (by repeat (first | (with_reducible first | exact HB.out | refine bJ ?_ | refine aA ?_ dH.out) | exact HB.out)))); replace jf := ah (Kd.fV (Kd.fJ jf.out) (Kd.iI ho0) hb); replace iQ := ah (Kd.fV (Kd.fJ iQ.out) (Kd.iI ho0) hb); replace OV := ah (Kd.fV (Kd.fJ OV.out) (Kd.iI ho0) hb); replace aN := ah (eH aN.out hb); replace HB := ah (aZ (by repeat (first | (with_reducible first | exact HB.out | refine bJ ?_ | refine aA ?_ dH.out) | exact HB.out)) hb); (try clear hb); (try clear hb2); (try clear hk); (try clear hi); (try clear ho0); clear A11; have OW := au aN.out; have OX := aC aN.out))
  go_loopg [10] k (fun kq v10 w' => ∃ (dI : Int), v10 = .int .i64 dI ∧ aj (scale_Fit.l0 kq a1 wO vw dI cO dF dO dP dM dJ dG dB dA = some (r1, r2)) ∧ aj (kq ≤ k) ∧ aj (Kd.R jB 173 w' w.heap.size (fun k_ => some k_ ≠ (Xl : Value).ownBlock) ZA wO) ∧ aj (Kd.R jB 173 w' w.heap.size (fun k_ => some k_ ≠ (ZA : Value).ownBlock) Xl vw) ∧ aj (w'.heap[bV]? = some (.cells #[.int .i64 cO, .int .u64 dF, .int .u64 dO, .int .u64 dP, .int .u64 dM, (.slice iO dJ.length iP), (.slice iJ dG.length iK), (.slice iw dB.length iy), (.slice iD dA.length iE)] 29 (0, 0))) ∧ aj (Below w.heap.size w w'))
  case atStart => exact ⟨(cO), (by first | rfl | (simp; done) | (simp [*]; done)), H', ⟨Nat.le_refl _⟩, ⟨by (repeat with_reducible refine Kd.kQ ?_); exact Kd.bZ OV.out (fun _ hk => hk.2)⟩, ⟨by (repeat with_reducible refine Kd.kQ ?_); exact Kd.bZ yh.out (fun _ hk => hk.2)⟩, ⟨by (repeat with_reducible refine bQ ?_); exact aN.out⟩, ⟨by repeat (first | (with_reducible first | exact HB.out | apply ak | apply ay | apply aH | refine aA ?_ dH.out) | exact HB.out)⟩⟩
  case round =>
   clear H'
   try clear p2
   try clear c3
   try clear c4
   try clear c4b0
   try clear c4b1
   try clear c5
   try clear c5b0
   try clear c7
   try clear yG
   try clear Jp
   try clear OW
   try clear xC
   try clear yH
   try clear Jq
   try clear OX
   try clear xE
   obtain ⟨dI, rfl, HA, jy, HO_6, HO_8, aN, HB⟩ := hrel
   cases gk with
   | zero => exact absurd HA.out (by simp [scale_Fit.l0])
   | succ k1 =>
    have H := HA.out
    clear HA
    simp only [scale_Fit.l0] at H
    by_cases QL : dI ≥ (-4)
    ·rw [if_pos QL] at H
     have c22b0 : decide ((-4) ≤ dI) = true := ahG QL
     clear QL
     replace H := Option.bind_eq_some_iff.mp H
     obtain ⟨t116, ZC, H⟩ := H
     replace H : ((scale_many.f k1 vw (wrap64 (cO - dI))).bind fun t117 => (if (wrap64 (t116 + t117)) ≤ a1 then (some (dI, 0)) else (scale_Fit.l0 k1 a1 wO vw (wrap64 (dI - 1)) cO dF dO dP dM dJ dG dB dA))) = some (r1, r2) := H
     have A23 := ah ZC
     clear ZC
     replace H := Option.bind_eq_some_iff.mp H
     obtain ⟨t117, QN, H⟩ := H
     replace H : (if (wrap64 (t116 + t117)) ≤ a1 then (some (dI, 0)) else (scale_Fit.l0 k1 a1 wO vw (wrap64 (dI - 1)) cO dF dO dP dM dJ dG dB dA)) = some (r1, r2) := H
     have Uo := ah QN
     clear QN
     by_cases c25 : (wrap64 (t116 + t117)) ≤ a1
     ·rw [if_pos c25] at H
      have c25b0 : decide ((wrap64 (t116 + t117)) ≤ a1) = true := ahG c25
      clear c25
      simp only [Option.some.injEq, Prod.mk.injEq] at H
      obtain ⟨rfl, rfl⟩ := H
      try go_wp2
      have fZ := ah (Kd.qB HO_6.out)
      have gG := ah (Kd.qB HO_8.out)
      have iC := ah (kP aN.out)
      have jg := ah (aH HB.out)
      clear HO_6
      clear HO_8
      clear aN
      clear HB
      have HO_6 := fZ
      have HO_8 := gG
      have aN := iC
      have HB := jg
      clear fZ gG iC jg
      obtain ⟨YW, QY, MX⟩ := Kd.dw HO_6.out
      (first | subst MX | (injection MX with pG uY pI; have uZ := pG.symm; have vg := pI.symm; clear pG uY pI; subst uZ; subst vg))
      refine uX (n := 15) (S := fun w' => w'.cell? ⟨bV, 0, none⟩ = some (.int .i64 cO) ∧ w'.cell? ⟨bV, 1, none⟩ = some (.int .u64 dF) ∧ w'.cell? ⟨bV, 2, none⟩ = some (.int .u64 dO) ∧ w'.cell? ⟨bV, 3, none⟩ = some (.int .u64 dP) ∧ w'.cell? ⟨bV, 4, none⟩ = some (.int .u64 dM) ∧ w'.cell? ⟨bV, 5, none⟩ = some (.slice iO dJ.length iP) ∧ w'.cell? ⟨bV, 6, none⟩ = some (.slice iJ dG.length iK) ∧ w'.cell? ⟨bV, 7, none⟩ = some (.slice iw dB.length iy) ∧ w'.cell? ⟨bV, 8, none⟩ = some (.slice iD dA.length iE)) (ds := []) #[false, false, false, false, false, false, false, false, false, false, false, false, false, false, false] (by kernel_rfl) rfl rfl ⟨(au aN.out 0).trans rfl, (au aN.out 1).trans rfl, (au aN.out 2).trans rfl, (au aN.out 3).trans rfl, (au aN.out 4).trans rfl, (au aN.out 5).trans rfl, (au aN.out 6).trans rfl, (au aN.out 7).trans rfl, (au aN.out 8).trans rfl⟩ (fun hHeld => ?_); refine mQ scale_Fit.VN scale_Fit.Sz (fun HT_ HW_ => ?_)
      generalize wr.drew = TL at HO_6 HO_8 aN HB hHeld ⊢
      refine dX (i := 0) (N := some 36) (v := ?_) (a' := ?_) #[true, false, false, false, false, false, false, false, false, false, false, false, false, false, false] rfl rfl (dD HT_.out (by kernel_rfl)) (fun _ _ _ h => h) (Or.inl ⟨by rfl, ?_⟩) ?_ ?_
      rotate_left
      ·intro w'
       go_simp
       with_reducible rfl
      rotate_left
      ·simp only [Act.put, List.setIfInBounds_toArray, List.set_cons_zero, List.set_cons_succ, bI, bM]
       rfl
      refine dX (i := 1) (N := some 37) (v := ?_) (a' := ?_) #[true, true, false, false, false, false, false, false, false, false, false, false, false, false, false] rfl rfl (dD HT_.out (by kernel_rfl)) (fun _ _ _ h => h) (Or.inl ⟨by rfl, ?_⟩) ?_ ?_
      rotate_left
      ·intro w'
       go_simp
       with_reducible rfl
      rotate_left
      ·simp only [Act.put, List.setIfInBounds_toArray, List.set_cons_zero, List.set_cons_succ, bI, bM]
       rfl
      refine dX (i := 3) (N := some 39) (v := ?_) (a' := ?_) #[true, true, false, true, false, false, false, false, false, false, false, false, false, false, false] rfl rfl (dD HT_.out (by kernel_rfl)) (fun _ _ _ h => h) (Or.inl ⟨by rfl, ?_⟩) ?_ ?_
      rotate_left
      ·intro w'
       go_simp
       with_reducible rfl
      rotate_left
      ·simp only [Act.put, List.setIfInBounds_toArray, List.set_cons_zero, List.set_cons_succ, bI, bM]
       rfl
      refine dX (i := 6) (N := some 42) (v := ?_) (a' := ?_) #[true, true, false, true, false, false, true, false, false, false, false, false, false, false, false] rfl rfl (dD HT_.out (by kernel_rfl)) (fun _ _ _ h => h) (Or.inl ⟨by rfl, ?_⟩) ?_ ?_
      rotate_left
      ·intro w'
       go_simp
       with_reducible rfl
      rotate_left
      ·simp only [Act.put, List.setIfInBounds_toArray, List.set_cons_zero, List.set_cons_succ, bI, bM]
       rfl
      refine dX (i := 7) (N := some 43) (v := ?_) (a' := ?_) #[true, true, false, true, false, false, true, true, false, false, false, false, false, false, false] rfl rfl (dD HT_.out (by kernel_rfl)) (fun _ _ _ h => h) (Or.inl ⟨by rfl, ?_⟩) ?_ ?_
      rotate_left
      ·intro w'
       go_simp
       with_reducible rfl
      rotate_left
      ·simp only [Act.put, List.setIfInBounds_toArray, List.set_cons_zero, List.set_cons_succ, bI, bM]
       rfl
      refine dX (i := 9) (N := some 45) (v := ?_) (a' := ?_) #[true, true, false, true, false, false, true, true, false, true, false, false, false, false, false] rfl rfl (dD HT_.out (by kernel_rfl)) (fun _ _ _ h => h) (Or.inl ⟨by rfl, ?_⟩) ?_ ?_
      rotate_left
      ·intro w'
       go_simp
       with_reducible rfl
      rotate_left
      ·simp only [Act.put, List.setIfInBounds_toArray, List.set_cons_zero, List.set_cons_succ, bI, bM]
       rfl
      refine dX (i := 13) (N := some 49) (v := ?_) (a' := ?_) #[true, true, false, true, false, false, true, true, false, true, false, false, false, true, false] rfl rfl (dD HT_.out (by kernel_rfl)) (fun _ _ _ h => h) (Or.inl ⟨by rfl, ?_⟩) ?_ ?_
      rotate_left
      ·intro w'
       go_simp
       with_reducible rfl
      rotate_left
      ·simp only [Act.put, List.setIfInBounds_toArray, List.set_cons_zero, List.set_cons_succ, bI, bM]
       rfl
      refine jT (i := 2) (N := some 38) (v := ?_) (a' := ?_) #[true, true, true, true, false, false, true, true, false, true, false, false, false, true, false] rfl rfl (fM HT_.out HW_.out (by kernel_rfl)) (fun _ _ _ h => h) (Or.inl ⟨by rfl, ?_⟩) hHeld ?_ ?_
      rotate_left
      ·rintro w' ⟨s0, s1, s2, s3, s4, s5, s6, s7, s8⟩
       go_simp
       with_reducible rfl
      rotate_left
      ·simp only [Act.put, List.setIfInBounds_toArray, List.set_cons_zero, List.set_cons_succ, bI, bM]
       rfl
      refine dX (i := 4) (N := some 40) (v := ?_) (a' := ?_) #[true, true, true, true, true, false, true, true, false, true, false, false, false, true, false] rfl rfl (dD HT_.out (by kernel_rfl)) (fun _ _ _ h => h) (Or.inl ⟨by rfl, ?_⟩) ?_ ?_
      rotate_left
      ·intro w'
       go_simp
       with_reducible rfl
      rotate_left
      ·simp only [Act.put, List.setIfInBounds_toArray, List.set_cons_zero, List.set_cons_succ, bI, bM]
       rfl
      refine jT (i := 8) (N := some 44) (v := ?_) (a' := ?_) #[true, true, true, true, true, false, true, true, true, true, false, false, false, true, false] rfl rfl (fM HT_.out HW_.out (by kernel_rfl)) (fun _ _ _ h => h) (Or.inl ⟨by rfl, ?_⟩) hHeld ?_ ?_
      rotate_left
      ·rintro w' ⟨s0, s1, s2, s3, s4, s5, s6, s7, s8⟩
       go_simp
       with_reducible rfl
      rotate_left
      ·simp only [Act.put, List.setIfInBounds_toArray, List.set_cons_zero, List.set_cons_succ, bI, bM]
       rfl
      refine dX (i := 10) (N := some 46) (v := ?_) (a' := ?_) #[true, true, true, true, true, false, true, true, true, true, true, false, false, true, false] rfl rfl (dD HT_.out (by kernel_rfl)) (fun _ _ _ h => h) (Or.inl ⟨by rfl, ?_⟩) ?_ ?_
      rotate_left
      ·intro w'
       go_simp
       with_reducible rfl
      rotate_left
      ·simp only [Act.put, List.setIfInBounds_toArray, List.set_cons_zero, List.set_cons_succ, bI, bM]
       rfl
      refine o9 (i := 5) (N := some 41) #[true, true, true, true, true, true, true, true, true, true, true, false, false, true, false] rfl rfl (jD HT_.out (by kernel_rfl)) (by decide) (fun K hK => ?_)
      refine ql Try.func100 (by kernel_rfl) rfl #[.slice YW wO.length QY, .int .i64 (wrap64 (cO - dI))] (by rfl) rfl rfl (by (try simp only [List.map_toArray, List.map_cons, List.map_nil]); first | done | rfl | (simp only [List.length_drop, List.length_take]; rfl)) ?_
      with_reducible refine (scale_many.calls k1 _ _ wO (wrap64 (cO - dI)) t116 _ ?dK ?dL A23.out).mono ?_
      (case dK => exact Kd.jV (Kd.bF HO_6.out).2.2)
      (case dL => exact (Kd.bF HO_6.out).2.1)
      rintro e VO ⟨rfl, hb⟩
      refine ⟨_, rfl, ?_⟩
      have fZ := ah (Kd.lu HO_6.out hb)
      have gG := ah (Kd.lu HO_8.out hb)
      have iC := ah (eH aN.out hb)
      have jg := ah (aZ (by repeat (first | (with_reducible first | exact HB.out | refine bJ ?_ | refine aA ?_ dH.out) | exact HB.out)) hb)
      clear HO_6
      clear HO_8
      clear aN
      clear HB
      have HO_6 := fZ
      have HO_8 := gG
      have aN := iC
      have HB := jg
      clear fZ gG iC jg
      (try clear hb)
      (try clear hb2)
      (try clear hk)
      (try clear hi)
      obtain ⟨ZE, UZ, U2⟩ := Kd.dw HO_8.out
      (first | subst U2 | (injection U2 with pG uY pI; have uZ := pG.symm; have vg := pI.symm; clear pG uY pI; subst uZ; subst vg))
      refine hK.out _ _ ⟨(au aN.out 0).trans rfl, (au aN.out 1).trans rfl, (au aN.out 2).trans rfl, (au aN.out 3).trans rfl, (au aN.out 4).trans rfl, (au aN.out 5).trans rfl, (au aN.out 6).trans rfl, (au aN.out 7).trans rfl, (au aN.out 8).trans rfl⟩ (fun hHeld => ?_)
      clear hK K
      refine jo (a' := ?_) ?_ ?_
      rotate_left
      ·show Act.put _ (some 41) _ = _
       simp only [Act.put, List.setIfInBounds_toArray, List.set_cons_zero, List.set_cons_succ, bI, bM]
       rfl
      refine o9 (i := 11) (N := some 47) #[true, true, true, true, true, true, true, true, true, true, true, true, false, true, false] rfl rfl (jD HT_.out (by kernel_rfl)) (by decide) (fun K hK => ?_)
      refine ql Try.func100 (by kernel_rfl) rfl #[.slice ZE vw.length UZ, .int .i64 (wrap64 (cO - dI))] (by rfl) rfl rfl (by (try simp only [List.map_toArray, List.map_cons, List.map_nil]); first | done | rfl | (simp only [List.length_drop, List.length_take]; rfl)) ?_
      with_reducible refine (scale_many.calls k1 _ _ vw (wrap64 (cO - dI)) t117 _ ?dK ?dL Uo.out).mono ?_
      (case dK => exact Kd.jV (Kd.bF HO_8.out).2.2)
      (case dL => exact (Kd.bF HO_8.out).2.1)
      rintro e w30 ⟨rfl, hb⟩
      refine ⟨_, rfl, ?_⟩
      have fZ := ah (Kd.lu HO_6.out hb)
      have gG := ah (Kd.lu HO_8.out hb)
      have iC := ah (eH aN.out hb)
      have jg := ah (aZ (by repeat (first | (with_reducible first | exact HB.out | refine bJ ?_ | refine aA ?_ dH.out) | exact HB.out)) hb)
      clear HO_6
      clear HO_8
      clear aN
      clear HB
      have HO_6 := fZ
      have HO_8 := gG
      have aN := iC
      have HB := jg
      clear fZ gG iC jg
      (try clear hb)
      (try clear hb2)
      (try clear hk)
      (try clear hi)
      refine hK.out _ _ ⟨(au aN.out 0).trans rfl, (au aN.out 1).trans rfl, (au aN.out 2).trans rfl, (au aN.out 3).trans rfl, (au aN.out 4).trans rfl, (au aN.out 5).trans rfl, (au aN.out 6).trans rfl, (au aN.out 7).trans rfl, (au aN.out 8).trans rfl⟩ (fun hHeld => ?_)
      clear hK K
      refine jo (a' := ?_) ?_ ?_
      rotate_left
      ·show Act.put _ (some 47) _ = _
       simp only [Act.put, List.setIfInBounds_toArray, List.set_cons_zero, List.set_cons_succ, bI, bM]
       rfl
      refine dX (i := 12) (N := some 48) (v := ?_) (a' := ?_) #[true, true, true, true, true, true, true, true, true, true, true, true, true, true, false] rfl rfl (dD HT_.out (by kernel_rfl)) (fun _ _ _ h => h) (Or.inl ⟨by rfl, ?_⟩) ?_ ?_
      rotate_left
      ·intro w'
       go_simp
       with_reducible rfl
      rotate_left
      ·simp only [Act.put, List.setIfInBounds_toArray, List.set_cons_zero, List.set_cons_succ, bI, bM]
       rfl
      refine dX (i := 14) (N := some 50) (v := ?_) (a' := ?_) #[true, true, true, true, true, true, true, true, true, true, true, true, true, true, true] rfl rfl (dD HT_.out (by kernel_rfl)) (fun _ _ _ h => h) (Or.inl ⟨by rfl, ?_⟩) ?_ ?_
      rotate_left
      ·intro w'
       go_simp
       with_reducible rfl
      rotate_left
      ·simp only [Act.put, List.setIfInBounds_toArray, List.set_cons_zero, List.set_cons_succ, bI, bM]
       rfl
      refine y9 (su HT_.out (by kernel_rfl)) ?_
      try go_wp2
      go_ret2
      exact ⟨by first | rfl | (simp [aU, aV] <;> rfl) | (simp [*, aU, aV] <;> rfl), by repeat (first | (with_reducible first | exact HB.out | apply ak | apply ay | apply aH | refine aA ?_ dH.out) | exact HB.out)⟩
     rw [if_neg c25] at H
     have c25b0 : decide ((wrap64 (t116 + t117)) ≤ a1) = false := ahH c25
     clear c25
     have H' := ah H
     clear H
     try go_wp2
     have fZ := ah (Kd.qB HO_6.out)
     have gG := ah (Kd.qB HO_8.out)
     have iC := ah (kP aN.out)
     have jg := ah (aH HB.out)
     clear HO_6
     clear HO_8
     clear aN
     clear HB
     have HO_6 := fZ
     have HO_8 := gG
     have aN := iC
     have HB := jg
     clear fZ gG iC jg
     obtain ⟨ac7, ac8, ZF⟩ := Kd.dw HO_6.out
     (first | subst ZF | (injection ZF with pG uY pI; have uZ := pG.symm; have vg := pI.symm; clear pG uY pI; subst uZ; subst vg))
     refine uX (n := 15) (S := fun w' => w'.cell? ⟨bV, 0, none⟩ = some (.int .i64 cO) ∧ w'.cell? ⟨bV, 1, none⟩ = some (.int .u64 dF) ∧ w'.cell? ⟨bV, 2, none⟩ = some (.int .u64 dO) ∧ w'.cell? ⟨bV, 3, none⟩ = some (.int .u64 dP) ∧ w'.cell? ⟨bV, 4, none⟩ = some (.int .u64 dM) ∧ w'.cell? ⟨bV, 5, none⟩ = some (.slice iO dJ.length iP) ∧ w'.cell? ⟨bV, 6, none⟩ = some (.slice iJ dG.length iK) ∧ w'.cell? ⟨bV, 7, none⟩ = some (.slice iw dB.length iy) ∧ w'.cell? ⟨bV, 8, none⟩ = some (.slice iD dA.length iE)) (ds := []) #[false, false, false, false, false, false, false, false, false, false, false, false, false, false, false] (by kernel_rfl) rfl rfl ⟨(au aN.out 0).trans rfl, (au aN.out 1).trans rfl, (au aN.out 2).trans rfl, (au aN.out 3).trans rfl, (au aN.out 4).trans rfl, (au aN.out 5).trans rfl, (au aN.out 6).trans rfl, (au aN.out 7).trans rfl, (au aN.out 8).trans rfl⟩ (fun hHeld => ?_); refine mQ scale_Fit.VN scale_Fit.Sz (fun HT_ HW_ => ?_)
     generalize wr.drew = w31 at HO_6 HO_8 aN HB hHeld ⊢
     refine dX (i := 0) (N := some 36) (v := ?_) (a' := ?_) #[true, false, false, false, false, false, false, false, false, false, false, false, false, false, false] rfl rfl (dD HT_.out (by kernel_rfl)) (fun _ _ _ h => h) (Or.inl ⟨by rfl, ?_⟩) ?_ ?_
     rotate_left
     ·intro w'
      go_simp
      with_reducible rfl
     rotate_left
     ·simp only [Act.put, List.setIfInBounds_toArray, List.set_cons_zero, List.set_cons_succ, bI, bM]
      rfl
     refine dX (i := 1) (N := some 37) (v := ?_) (a' := ?_) #[true, true, false, false, false, false, false, false, false, false, false, false, false, false, false] rfl rfl (dD HT_.out (by kernel_rfl)) (fun _ _ _ h => h) (Or.inl ⟨by rfl, ?_⟩) ?_ ?_
     rotate_left
     ·intro w'
      go_simp
      with_reducible rfl
     rotate_left
     ·simp only [Act.put, List.setIfInBounds_toArray, List.set_cons_zero, List.set_cons_succ, bI, bM]
      rfl
     refine dX (i := 3) (N := some 39) (v := ?_) (a' := ?_) #[true, true, false, true, false, false, false, false, false, false, false, false, false, false, false] rfl rfl (dD HT_.out (by kernel_rfl)) (fun _ _ _ h => h) (Or.inl ⟨by rfl, ?_⟩) ?_ ?_
     rotate_left
     ·intro w'
      go_simp
      with_reducible rfl
     rotate_left
     ·simp only [Act.put, List.setIfInBounds_toArray, List.set_cons_zero, List.set_cons_succ, bI, bM]
      rfl
     refine dX (i := 6) (N := some 42) (v := ?_) (a' := ?_) #[true, true, false, true, false, false, true, false, false, false, false, false, false, false, false] rfl rfl (dD HT_.out (by kernel_rfl)) (fun _ _ _ h => h) (Or.inl ⟨by rfl, ?_⟩) ?_ ?_
     rotate_left
     ·intro w'
      go_simp
      with_reducible rfl
     rotate_left
     ·simp only [Act.put, List.setIfInBounds_toArray, List.set_cons_zero, List.set_cons_succ, bI, bM]
      rfl
     refine dX (i := 7) (N := some 43) (v := ?_) (a' := ?_) #[true, true, false, true, false, false, true, true, false, false, false, false, false, false, false] rfl rfl (dD HT_.out (by kernel_rfl)) (fun _ _ _ h => h) (Or.inl ⟨by rfl, ?_⟩) ?_ ?_
     rotate_left
     ·intro w'
      go_simp
      with_reducible rfl
     rotate_left
     ·simp only [Act.put, List.setIfInBounds_toArray, List.set_cons_zero, List.set_cons_succ, bI, bM]
      rfl
     refine dX (i := 9) (N := some 45) (v := ?_) (a' := ?_) #[true, true, false, true, false, false, true, true, false, true, false, false, false, false, false] rfl rfl (dD HT_.out (by kernel_rfl)) (fun _ _ _ h => h) (Or.inl ⟨by rfl, ?_⟩) ?_ ?_
     rotate_left
     ·intro w'
      go_simp
      with_reducible rfl
     rotate_left
     ·simp only [Act.put, List.setIfInBounds_toArray, List.set_cons_zero, List.set_cons_succ, bI, bM]
      rfl
     refine dX (i := 13) (N := some 49) (v := ?_) (a' := ?_) #[true, true, false, true, false, false, true, true, false, true, false, false, false, true, false] rfl rfl (dD HT_.out (by kernel_rfl)) (fun _ _ _ h => h) (Or.inl ⟨by rfl, ?_⟩) ?_ ?_
     rotate_left
     ·intro w'
      go_simp
      with_reducible rfl
     rotate_left
     ·simp only [Act.put, List.setIfInBounds_toArray, List.set_cons_zero, List.set_cons_succ, bI, bM]
      rfl
     refine jT (i := 2) (N := some 38) (v := ?_) (a' := ?_) #[true, true, true, true, false, false, true, true, false, true, false, false, false, true, false] rfl rfl (fM HT_.out HW_.out (by kernel_rfl)) (fun _ _ _ h => h) (Or.inl ⟨by rfl, ?_⟩) hHeld ?_ ?_
     rotate_left
     ·rintro w' ⟨s0, s1, s2, s3, s4, s5, s6, s7, s8⟩
      go_simp
      with_reducible rfl
     rotate_left
     ·simp only [Act.put, List.setIfInBounds_toArray, List.set_cons_zero, List.set_cons_succ, bI, bM]
      rfl
     refine dX (i := 4) (N := some 40) (v := ?_) (a' := ?_) #[true, true, true, true, true, false, true, true, false, true, false, false, false, true, false] rfl rfl (dD HT_.out (by kernel_rfl)) (fun _ _ _ h => h) (Or.inl ⟨by rfl, ?_⟩) ?_ ?_
     rotate_left
     ·intro w'
      go_simp
      with_reducible rfl
     rotate_left
     ·simp only [Act.put, List.setIfInBounds_toArray, List.set_cons_zero, List.set_cons_succ, bI, bM]
      rfl
     refine jT (i := 8) (N := some 44) (v := ?_) (a' := ?_) #[true, true, true, true, true, false, true, true, true, true, false, false, false, true, false] rfl rfl (fM HT_.out HW_.out (by kernel_rfl)) (fun _ _ _ h => h) (Or.inl ⟨by rfl, ?_⟩) hHeld ?_ ?_
     rotate_left
     ·rintro w' ⟨s0, s1, s2, s3, s4, s5, s6, s7, s8⟩
      go_simp
      with_reducible rfl
     rotate_left
     ·simp only [Act.put, List.setIfInBounds_toArray, List.set_cons_zero, List.set_cons_succ, bI, bM]
      rfl
     refine dX (i := 10) (N := some 46) (v := ?_) (a' := ?_) #[true, true, true, true, true, false, true, true, true, true, true, false, false, true, false] rfl rfl (dD HT_.out (by kernel_rfl)) (fun _ _ _ h => h) (Or.inl ⟨by rfl, ?_⟩) ?_ ?_
     rotate_left
     ·intro w'
      go_simp
      with_reducible rfl
     rotate_left
     ·simp only [Act.put, List.setIfInBounds_toArray, List.set_cons_zero, List.set_cons_succ, bI, bM]
      rfl
     refine o9 (i := 5) (N := some 41) #[true, true, true, true, true, true, true, true, true, true, true, false, false, true, false] rfl rfl (jD HT_.out (by kernel_rfl)) (by decide) (fun K hK => ?_)
     refine ql Try.func100 (by kernel_rfl) rfl #[.slice ac7 wO.length ac8, .int .i64 (wrap64 (cO - dI))] (by rfl) rfl rfl (by (try simp only [List.map_toArray, List.map_cons, List.map_nil]); first | done | rfl | (simp only [List.length_drop, List.length_take]; rfl)) ?_
     with_reducible refine (scale_many.calls k1 _ _ wO (wrap64 (cO - dI)) t116 _ ?dK ?dL A23.out).mono ?_
     (case dK => exact Kd.jV (Kd.bF HO_6.out).2.2)
     (case dL => exact (Kd.bF HO_6.out).2.1)
     rintro e w33 ⟨rfl, hb⟩
     refine ⟨_, rfl, ?_⟩
     have fZ := ah (Kd.lu HO_6.out hb)
     have gG := ah (Kd.lu HO_8.out hb)
     have iC := ah (eH aN.out hb)
     have jg := ah (aZ (by repeat (first | (with_reducible first | exact HB.out | refine bJ ?_ | refine aA ?_ dH.out) | exact HB.out)) hb)
     clear HO_6
     clear HO_8
     clear aN
     clear HB
     have HO_6 := fZ
     have HO_8 := gG
     have aN := iC
     have HB := jg
     clear fZ gG iC jg
     (try clear hb)
     (try clear hb2)
     (try clear hk)
     (try clear hi)
     obtain ⟨Y6, Uu, Uw⟩ := Kd.dw HO_8.out
     (first | subst Uw | (injection Uw with pG uY pI; have uZ := pG.symm; have vg := pI.symm; clear pG uY pI; subst uZ; subst vg))
     refine hK.out _ _ ⟨(au aN.out 0).trans rfl, (au aN.out 1).trans rfl, (au aN.out 2).trans rfl, (au aN.out 3).trans rfl, (au aN.out 4).trans rfl, (au aN.out 5).trans rfl, (au aN.out 6).trans rfl, (au aN.out 7).trans rfl, (au aN.out 8).trans rfl⟩ (fun hHeld => ?_)
     clear hK K
     refine jo (a' := ?_) ?_ ?_
     rotate_left
     ·show Act.put _ (some 41) _ = _
      simp only [Act.put, List.setIfInBounds_toArray, List.set_cons_zero, List.set_cons_succ, bI, bM]
      rfl
     refine o9 (i := 11) (N := some 47) #[true, true, true, true, true, true, true, true, true, true, true, true, false, true, false] rfl rfl (jD HT_.out (by kernel_rfl)) (by decide) (fun K hK => ?_)
     refine ql Try.func100 (by kernel_rfl) rfl #[.slice Y6 vw.length Uu, .int .i64 (wrap64 (cO - dI))] (by rfl) rfl rfl (by (try simp only [List.map_toArray, List.map_cons, List.map_nil]); first | done | rfl | (simp only [List.length_drop, List.length_take]; rfl)) ?_
     with_reducible refine (scale_many.calls k1 _ _ vw (wrap64 (cO - dI)) t117 _ ?dK ?dL Uo.out).mono ?_
     (case dK => exact Kd.jV (Kd.bF HO_8.out).2.2)
     (case dL => exact (Kd.bF HO_8.out).2.1)
     rintro e w35 ⟨rfl, hb⟩
     refine ⟨_, rfl, ?_⟩
     have fZ := ah (Kd.lu HO_6.out hb)
     have gG := ah (Kd.lu HO_8.out hb)
     have iC := ah (eH aN.out hb)
     have jg := ah (aZ (by repeat (first | (with_reducible first | exact HB.out | refine bJ ?_ | refine aA ?_ dH.out) | exact HB.out)) hb)
     clear HO_6
     clear HO_8
     clear aN
     clear HB
     have HO_6 := fZ
     have HO_8 := gG
     have aN := iC
     have HB := jg
     clear fZ gG iC jg
     (try clear hb)
     (try clear hb2)
     (try clear hk)
     (try clear hi)
     refine hK.out _ _ ⟨(au aN.out 0).trans rfl, (au aN.out 1).trans rfl, (au aN.out 2).trans rfl, (au aN.out 3).trans rfl, (au aN.out 4).trans rfl, (au aN.out 5).trans rfl, (au aN.out 6).trans rfl, (au aN.out 7).trans rfl, (au aN.out 8).trans rfl⟩ (fun hHeld => ?_)
     clear hK K
     refine jo (a' := ?_) ?_ ?_
     rotate_left
     ·show Act.put _ (some 47) _ = _
      simp only [Act.put, List.setIfInBounds_toArray, List.set_cons_zero, List.set_cons_succ, bI, bM]
      rfl
     refine dX (i := 12) (N := some 48) (v := ?_) (a' := ?_) #[true, true, true, true, true, true, true, true, true, true, true, true, true, true, false] rfl rfl (dD HT_.out (by kernel_rfl)) (fun _ _ _ h => h) (Or.inl ⟨by rfl, ?_⟩) ?_ ?_
     rotate_left
     ·intro w'
      go_simp
      with_reducible rfl
     rotate_left
     ·simp only [Act.put, List.setIfInBounds_toArray, List.set_cons_zero, List.set_cons_succ, bI, bM]
      rfl
     refine dX (i := 14) (N := some 50) (v := ?_) (a' := ?_) #[true, true, true, true, true, true, true, true, true, true, true, true, true, true, true] rfl rfl (dD HT_.out (by kernel_rfl)) (fun _ _ _ h => h) (Or.inl ⟨by rfl, ?_⟩) ?_ ?_
     rotate_left
     ·intro w'
      go_simp
      with_reducible rfl
     rotate_left
     ·simp only [Act.put, List.setIfInBounds_toArray, List.set_cons_zero, List.set_cons_succ, bI, bM]
      rfl
     refine y9 (su HT_.out (by kernel_rfl)) ?_
     try go_wp2
     go_roundg k1
     case measure => have := jy.out; omega
     case rel => exact ⟨(wrap64 (dI - 1)), (by first | rfl | (simp; done) | (simp [*]; done)), H', ⟨by have := jy.out; omega⟩, ⟨by (repeat with_reducible refine Kd.kQ ?_); exact HO_6.out⟩, ⟨by (repeat with_reducible refine Kd.kQ ?_); exact HO_8.out⟩, ⟨by (repeat with_reducible refine bQ ?_); exact aN.out⟩, ⟨by repeat (first | (with_reducible first | exact HB.out | apply ak | apply ay | apply aH | refine aA ?_ dH.out) | exact HB.out)⟩⟩
    rw [if_neg QL] at H
    have c22b0 : decide ((-4) ≤ dI) = false := ahH QL
    clear QL
    simp only [Option.some.injEq, Prod.mk.injEq] at H
    obtain ⟨rfl, rfl⟩ := H
    go_wp2
    go_ret2
    exact ⟨by first | rfl | (simp [aU, aV] <;> rfl) | (simp [*, aU, aV] <;> rfl), by repeat (first | (with_reducible first | exact HB.out | apply ak | apply ay | apply aH | refine aA ?_ dH.out) | exact HB.out)⟩
 rw [if_neg c4] at H
 have c4b0 : (t105 == 0) = false := beq_eq_false_iff_ne.mpr c4
 have c4b1 : (t105 != 0) = true := bne_iff_ne.mpr c4
 simp only [Option.some.injEq, Prod.mk.injEq] at H
 obtain ⟨rfl, rfl⟩ := H
 go_enter Try.func38, Try.ntmps38
 go_wp2_with (first | ((with_reducible refine fK (N := 2) rfl ?_); refine fA ?hg (N := 2) ?hd (cs := #[.int .i64 cO, .int .u64 dF, .int .u64 dO, .int .u64 dP, .int .u64 dM, .slice iO dJ.length iP, .slice iJ dG.length iK, .slice iw dB.length iy, .slice iD dA.length iE]) (t := 29) ?hr ?_; (case hd => rfl); (case hg => rfl); (case hr => first | (go_simp; done) | (go_simp; rfl)); intro bV hg Yt hbox hb; have aN := ah (hbox); have xY := ah ((by rw [hg]; exact (aQ (bg HB.out)) : w.heap.size ≤ bV)); have dH := ah ((by rw [hg]; exact (aQ (bg HB.out)) : w.heap.size ≤ bV)); replace HB := ah (aZ (bg HB.out) hb); clear hb hbox hg; have aaX := au aN.out; have aaY := aC aN.out) | ((with_reducible refine bP (f := 78) rfl ?_); refine lG (some 13) rfl rfl Try.func78 (by kernel_rfl) rfl #[.agg #[.int .i64 cO, .int .u64 dF, .int .u64 dO, .int .u64 dP, .int .u64 dM, .slice iO dJ.length iP, .slice iJ dG.length iK, .slice iw dB.length iy, .slice iD dA.length iE], .int .i64 0] rfl (by (try simp only [List.map_toArray, List.map_cons, List.map_nil]); first | done | rfl | (simp only [List.length_drop, List.length_take]; rfl)) ?_; (with_reducible refine (hist_Pairs.calls k cO dF dO dP dM _ _ dJ _ _ dG _ _ dB _ _ dA 0 fH t105 _ ?dK ?dL ?kC ?kD ?pR ?pU ?pV ?pW A3.out).mono ?_); (case dK => exact Kd.jV (Kd.bT nX.out HB.out)); (case dL => exact nY.out); (case kC => exact Kd.jV (Kd.bT oW.out HB.out)); (case kD => exact oZ.out); (case pR => exact Kd.jV (Kd.bT pK.out HB.out)); (case pU => exact pO.out); (case pV => exact Kd.jV (Kd.bT qm.out HB.out)); (case pW => exact qo.out); rintro e w38 ⟨zD, rfl, ho0, hb⟩; refine ⟨_, rfl, ?_⟩; have jf := ah (Kd.dh ho0 (aQ (by repeat (first | (with_reducible first | exact HB.out | refine bJ ?_ | refine aA ?_ dH.out) | exact HB.out)))); replace aN := ah (eH aN.out hb); replace HB := ah (aZ (by repeat (first | (with_reducible first | exact HB.out | refine bJ ?_ | refine aA ?_ dH.out) | exact HB.out)) hb); (try clear hb); (try clear hb2); (try clear hk); (try clear hi); (try clear ho0); clear A3))
 go_ret2
 exact ⟨by first | rfl | (simp [aU, aV] <;> rfl) | (simp [*, aU, aV] <;> rfl), by repeat (first | (with_reducible first | exact HB.out | apply ak | apply ay | apply aH | refine aA ?_ dH.out) | exact HB.out)⟩
end Go.Proofs.Ytooiccpmngmapaa.P
namespace Go.Proofs.Ytooiccpmngmapaa.P
open Go.RowKit Go.Shelf Go.Proofs.YtooiccpmngmapaaW.PrintWords Go.Proofs.YtooiccpmngmapaaW.PrintLast Go.Proofs.YtooiccpmngmapaaW.PrintMore
attribute [local go_sem] Oper.semAt_some
def LH (v : Int) : Int := ((FloatKind.f64.nearest v : Nat) : Int)
theorem Xm (v : Int) (w : World) : Calls Try.prog 137 #[.int .u64 v] w fun e w' => e = .returned (.int .u64 (LH v)) ∧ Below w.heap.size w w' := (fhist_Float.calls v _ w rfl).mono fun e w1 h => ⟨h.1, h.2.below⟩
def LJ (l : List Int) : List Int := ((gJ 0 l).getD []).map LH
def yj (l : List Int) : Prop := (∀ x ∈ l, i64 x) ∧ l.length ≤ 65536 ∧ ∀ x ∈ (gJ 0 l).getD [], 0 ≤ x ∧ x ≤ 9223372036854775807
instance (l : List Int) : Decidable (yj l) := by unfold yj; infer_instance
def fhist_floats.f (l : List Int) : Option (List Int) := if yj l then some (LJ l) else none
theorem Xn {x : Int} (h0 : 0 ≤ x) (h1 : x ≤ 9223372036854775807) : IntKind.u64.wrap x = x := by
 simp only [IntKind.wrap]
 simp [IntKind.signed, IntKind.bits]
 omega
theorem NK {W : World} {base size n : Nat} {e : TypeId} {v : Value} {xs : List Value} (h : W.ownsRow base e size v n xs) : ∀ k, v.ownBlock = some k → base ≤ k := fun k hk => own_base h k hk
theorem SB (l : List Int) : ∀ (a : Int) (o : List Int), gJ a l = some o → o.length = l.length := by
  induction l with
  | nil => intro a o h; simp [gJ] at h; subst h; rfl
  | cons x t ih =>
    intro a o h
    simp only [gJ] at h
    split at h
    · cases hs : gJ (a + x) t with
      | none => rw [hs] at h; simp at h
      | some o' => rw [hs] at h; simp at h; subst h; simp [ih _ _ hs]
    · cases h
theorem U3 (l : List Int) (hw : yj l) : ∃ e : Int, pairs_Absolute.f (l.length + 1) l = some ((gJ 0 l).getD [], e) := by
 rw [Dk l hw.1 (by have := hw.2.1; omega) _ (by omega)]
 cases gJ 0 l with
 | none => exact ⟨28, rfl⟩
 | some o => exact ⟨0, rfl⟩
set_option maxRecDepth 100000 in
set_option maxHeartbeats 4000000 in
theorem fhist_floats.calls (A0 : Option Addr) (c0 : Nat) (l0 : List Int) (r : List Int) (w : World) (hr0 : Kd.C (Kd.int .i64) w A0 l0.length l0) (hc0 : l0.length ≤ c0) (h : fhist_floats.f l0 = some r) :
  Calls Try.prog 139 #[.slice A0 l0.length c0] w fun e w' => ∃ mW : Value, e = .returned mW ∧ Kd.R (Kd.int .u64) 25 w' w.heap.size (fun _ => True) mW r ∧ Below w.heap.size w w' := by
 unfold fhist_floats.f at h
 by_cases hwf : yj l0
 rotate_left
 ·rw [if_neg hwf] at h; cases h
 rw [if_pos hwf] at h
 cases h
 obtain ⟨er, habs⟩ := U3 l0 hwf
 have hlen : ((gJ 0 l0).getD []).length ≤ 65536 := by
  cases hs : gJ 0 l0 with
  | none => simp
  | some o => simp [SB _ _ _ hs]; exact hwf.2.1
 have hnum := hwf.2.2
 unfold LJ
 generalize (gJ 0 l0).getD [] = l at *
 refine (callsIn_wide (n := 4)).1 ?_
 have hf1 : Fence.wide.fn 166 := trivial
 have hf2 : Fence.wide.fn 137 := trivial
 have HAb := ah (fun w hr0 => pairs_Absolute.calls _ A0 c0 l0 _ _ w hr0 hc0 habs)
 have HR := ah hr0
 obtain ⟨i0, hi, hz0, hz1, hz2⟩ := info_parts info25
 have hmk : ∀ W : World, (Instr.makeSlice 53 (.int .i64 0) (.int .i64 l.length)).run Try.prog W = .ok (.slice (some ⟨W.heap.size, 0, none⟩) 0 l.length) (W.alloc (.cells (madeCells #[Value.int .u64 0] (l.length * i0.size)) 25)) := fun W => by
  have := run_make (P := Try.prog) W 53 25 i0 (.int .u64 0) Try.underlying53 hi hz0 .i64 .i64 0 l.length (by omega) (by omega) (by rw [hz2]; omega) (by omega)
  simpa [Value.cells] using this
 have HM := ah hlen
 have HN := ah hnum
 clear hr0 hlen hnum habs hwf
 refine callsIn_of_wp Try.func139 rfl trivial ?_ rfl
 simp only [Try.ntmps139, List.size_toArray, List.length_cons, List.length_nil, Nat.reduceAdd, Nat.reduceSub, Array.replicate_succ, Array.replicate_zero, List.push_toArray, List.append_toArray, List.nil_append, List.cons_append]
 gi_wp2_with (gi_at_call 166; refine (callsIn_wide.2 (HAb.out _ HR.out)).mono ?_; rintro e w1 ⟨v1, rfl, hR1, hb⟩; obtain ⟨A1, c1, rfl, hc1, hC1⟩ := Kd.qy hR1; have HC := ah hC1; have HB1 := ah hb; clear hb hR1 hC1)
 clear hmk
 gi_loopw [5, 18] (fun s5 s18 wx => ∃ i : Nat, i ≤ l.length ∧ s18 = .int .i64 i ∧ aj (wx.ownsRow w1.heap.size 25 1 s5 i (((l.take i).map LH).map (Value.int .u64))) ∧ aj (Below w1.heap.size w1 wx)) (fun _ s18 _ => l.length - (intOf s18).toNat)
 case atStart =>
  refine ⟨0, Nat.zero_le _, rfl, ⟨?_⟩, ⟨ak (Below.refl _ _) _⟩⟩
  have := World.ownsRow_made (base := w1.heap.size) (e := 25) (size := 1) w1 (madeCells #[Value.int .u64 0] (l.length * i0.size)) l.length (Nat.le_refl _) (by have := HM.out; unfold maxLen; omega) (by rw [size_madeCells, hz1])
  simpa [hz1] using this
 case round =>
  obtain ⟨i, hil, rfl, HO, HB⟩ := hrel
  by_cases hlt : i < l.length
  ·have hlti : (i : Int) < (l.length : Int) := by omega
   have hi0 : (0 : Int) ≤ (i : Int) := by omega
   obtain ⟨ad, e1, hx0⟩ := Kd.gB (Kd.bT HC.out HB.out) (i : Int) hi0 hlti
   rw [sK hlt, Int.toNat_natCast] at hx0
   subst e1
   have HS := ah (List.take_succ_eq_append_getElem hlt)
   have hx := HN.out l[i] (List.getElem_mem hlt)
   have hcv := Xn hx.1 hx.2
   have FL := ah (Xm l[i])
   have hi4 : i < 65536 := by have := HM.out; omega
   clear hx
   generalize l[i] = x at hx0 HS hcv FL
   generalize hwx : LH x = nv at FL
   have HWX := ah hwx
   clear hwx
   gi_wp2_with (first | (gi_at_call 137; refine (callsIn_wide.2 (FL.out _)).mono ?_; rintro e w2 ⟨rfl, hb⟩; have EF := ah (HO.out.kept (qx hb none) (Classical.em _)); have HB2 := ah (aG HB.out HB.out.size hb); clear hb) | (gi_at_builtin; refine wpListIn_append_own _ rfl _ _ 53 rfl w1.heap.size 25 i0 (.int .u64 0) 1 8 Try.underlying53 hi hz0 hz1 hz2 rfl (by decide) _ _ _ rfl (EF.out.alloc _) ⟨w2.heap.size, 0, none⟩ 1 1 [.int .u64 nv] rfl rfl (cell_one_new _ _ _) (by simp [Value.oneCell']) (by unfold maxLen; omega) (by omega) (by have := HB2.out.size; simp; omega) ?_; intro v' w3 hown' hgrow _; have Cb := ah hown'; have HB3 := ah (D9 (ak HB2.out _) _ (by have := HB2.out.size; simp; omega) hgrow (NK EF.out)); clear hown' hgrow))
   go_roundw
   case rel =>
    refine ⟨i + 1, by omega, by go_num, ⟨?_⟩, HB3⟩
    have := Cb.out
    rw [HS.out, List.map_append, List.map_append, List.map_cons, List.map_nil, HWX.out]
    exact this
   case measure => simp [intOf]; omega
  ·obtain rfl : i = l.length := by omega
   have hlti : ¬ (l.length : Int) < (l.length : Int) := by omega
   clear hlt
   gi_wp2
   refine bodyPost_ret (results_tmp rfl _ _ _) rfl ?_
   have hl : l.length = (l.map LH).length := (List.length_map ..).symm
   have ho := HO.out
   rw [List.take_length] at ho
   exact ⟨_, rfl, Kd.dh (Kd.JL (enc := Value.int .u64) (h1 := fun _ => rfl) (hl ▸ ho) (fun _ _ => trivial)) HB1.out.size, aG HB1.out HB1.out.size HB.out⟩
end Go.Proofs.Ytooiccpmngmapaa.P
namespace Go.Proofs.Ytooiccpmngmapaa.P
open Go.RowKit Go.Proofs.YtooiccpmngmapaaW.PrintWords Go.Proofs.YtooiccpmngmapaaW.PrintLast Go.Proofs.YtooiccpmngmapaaW.PrintMore
attribute [local go_sem] iV iW jH jI gW gX iY iZ
def fhist_From.f (cO : Int) (dF : Int) (dO : Int) (dP : Int) (dM : Int) (dJ : List (dQ)) (dG : List (dQ)) (dB : List Int) (dA : List Int) : Option (Int × Int × Int × Int × Int × (List (dQ)) × (List (dQ)) × List Int × List Int × Int) := (hist_Check.f cO dF dO dP dM dJ dG dB dA).bind fun dZ => (if dZ = 0 then ((fhist_Float.f dO).bind fun jL => ((fhist_Float.f dP).bind fun t105 => ((slices_Clone_span.f dJ).bind fun fQ => ((slices_Clone_span.f dG).bind fun t109 => ((fhist_floats.f dB).bind fun mM => ((fhist_floats.f dA).bind fun qg => (some (cO, dF, jL, t105, dM, fQ, t109, mM, qg, 0)))))))) else (some (0, 0, 0, 0, 0, ([] : List (dQ)), ([] : List (dQ)), ([] : List Int), ([] : List Int), dZ)))
def fhist_From.T4 : Bool × List (List Nat × List Nat) := (true, [([], []), ([0], [0]), ([], []), ([2], [2]), ([], []), ([4], [4]), ([5], [5]), ([], []), ([7], [7]), ([8, 6], [8]), ([], []), ([10], [10]), ([], []), ([12], [12]), ([13, 9], [13]), ([], []), ([15], [15]), ([16, 14], [16]), ([], []), ([18], [18]), ([19, 17], [19]), ([], []), ([21], [21]), ([22, 20], [22]), ([1, 3, 6, 9, 11, 14, 17, 20, 23], [1, 3, 6, 9, 11, 14, 17, 20, 23]), ([24, 23, 0, 1, 2, 3, 4, 5, 6, 7, 8, 9, 10, 11, 12, 13, 14, 15, 16, 17, 18, 19, 20, 21, 22, 23, 24], [24]), ([25, 0, 1, 2, 3, 4, 5, 6, 7, 8, 9, 10, 11, 12, 13, 14, 15, 16, 17, 18, 19, 20, 21, 22, 23, 24, 25], [])])
def fhist_From.B4 : List Nat := [0, 1, 0, 4, 0, 16, 48, 0, 128, 496, 0, 1024, 0, 4096, 13296, 0, 32768, 127984, 0, 262144, 1045488, 0, 2097152, 8385520, 16777215, 33554431, 67108863]
theorem fhist_From.ada : ru .any (opsOf Try.f74 4) = fhist_From.T4 := by kernel_rfl
theorem fhist_From.ZG : qG fhist_From.T4.2 fhist_From.B4 = true := by kernel_rfl
set_option maxHeartbeats 8000000 in
set_option maxRecDepth 100000 in
theorem fhist_From.calls (cO : Int) (dF : Int) (dO : Int) (dP : Int) (dM : Int) (iO : Option Addr) (iP : Nat) (dJ : List (dQ)) (iJ : Option Addr) (iK : Nat) (dG : List (dQ)) (iw : Option Addr) (iy : Nat) (dB : List Int) (iD : Option Addr) (iE : Nat) (dA : List Int) (r1 : Int) (r2 : Int) (r3 : Int) (r4 : Int) (r5 : Int) (r6 : List (dQ)) (r7 : List (dQ)) (r8 : List Int) (r9 : List Int) (r10 : Int) (w : World) (oP : Kd.C jq w iO dJ.length dJ) (oQ : dJ.length ≤ iP) (oU : Kd.C jq w iJ dG.length dG) (oV : dG.length ≤ iK) (qP : Kd.C (Kd.int .i64) w iw dB.length dB) (qQ : dB.length ≤ iy) (qR : Kd.C (Kd.int .i64) w iD dA.length dA) (qU : dA.length ≤ iE) (h : fhist_From.f cO dF dO dP dM dJ dG dB dA = some (r1, r2, r3, r4, r5, r6, r7, r8, r9, r10)) :
  Calls Try.prog 74 #[.agg #[.int .i64 cO, .int .u64 dF, .int .u64 dO, .int .u64 dP, .int .u64 dM, .slice iO dJ.length iP, .slice iJ dG.length iK, .slice iw dB.length iy, .slice iD dA.length iE]] w fun e w' => ∃ KY La OM OO : Value, e = .returned (.tuple #[.agg #[.int .i64 r1, .int .u64 r2, .int .u64 r3, .int .u64 r4, .int .u64 r5, KY, La, OM, OO], .int .i64 r10]) ∧ Kd.R jq 113 w' w.heap.size (fun k_ => some k_ ≠ (La : Value).ownBlock) KY r6 ∧ Kd.R jq 113 w' w.heap.size (fun k_ => some k_ ≠ (KY : Value).ownBlock) La r7 ∧ Kd.R (Kd.int .u64) 25 w' w.heap.size (fun k_ => some k_ ≠ (OO : Value).ownBlock) OM r8 ∧ Kd.R (Kd.int .u64) 25 w' w.heap.size (fun k_ => some k_ ≠ (OM : Value).ownBlock) OO r9 ∧ Below w.heap.size w w' := by
 have UK := Try.underlying29
 have adb := Try.underlying55
 have nX := ah oP
 have nY := ah oQ
 clear oP oQ
 have oW := ah oU
 have oZ := ah oV
 clear oU oV
 have pK := ah qP
 have pO := ah qQ
 clear qP qQ
 have qm := ah qR
 have qo := ah qU
 clear qR qU
 have HB := ah (Below.refl w.heap.size w)
 have H : ((hist_Check.f cO dF dO dP dM dJ dG dB dA).bind fun dZ => (if dZ = 0 then ((fhist_Float.f dO).bind fun jL => ((fhist_Float.f dP).bind fun t105 => ((slices_Clone_span.f dJ).bind fun fQ => ((slices_Clone_span.f dG).bind fun t109 => ((fhist_floats.f dB).bind fun mM => ((fhist_floats.f dA).bind fun qg => (some (cO, dF, jL, t105, dM, fQ, t109, mM, qg, 0)))))))) else (some (0, 0, 0, 0, 0, ([] : List (dQ)), ([] : List (dQ)), ([] : List Int), ([] : List Int), dZ)))) = some (r1, r2, r3, r4, r5, r6, r7, r8, r9, r10) := h
 clear h
 replace H := Option.bind_eq_some_iff.mp H
 obtain ⟨dZ, tC, H⟩ := H
 replace H : (if dZ = 0 then ((fhist_Float.f dO).bind fun jL => ((fhist_Float.f dP).bind fun t105 => ((slices_Clone_span.f dJ).bind fun fQ => ((slices_Clone_span.f dG).bind fun t109 => ((fhist_floats.f dB).bind fun mM => ((fhist_floats.f dA).bind fun qg => (some (cO, dF, jL, t105, dM, fQ, t109, mM, qg, 0)))))))) else (some (0, 0, 0, 0, 0, ([] : List (dQ)), ([] : List (dQ)), ([] : List Int), ([] : List Int), dZ))) = some (r1, r2, r3, r4, r5, r6, r7, r8, r9, r10) := H
 have A2 := ah tC
 clear tC
 by_cases c3 : dZ = 0
 ·rw [if_pos c3] at H
  have c3b0 : (dZ == 0) = true := beq_iff_eq.mpr c3
  have c3b1 : (dZ != 0) = false := bne_eq_false_iff_eq.mpr c3
  clear c3
  replace H := Option.bind_eq_some_iff.mp H
  obtain ⟨jL, VJ, H⟩ := H
  replace H : ((fhist_Float.f dP).bind fun t105 => ((slices_Clone_span.f dJ).bind fun fQ => ((slices_Clone_span.f dG).bind fun t109 => ((fhist_floats.f dB).bind fun mM => ((fhist_floats.f dA).bind fun qg => (some (cO, dF, jL, t105, dM, fQ, t109, mM, qg, 0))))))) = some (r1, r2, r3, r4, r5, r6, r7, r8, r9, r10) := H
  have A4 := ah VJ
  clear VJ
  replace H := Option.bind_eq_some_iff.mp H
  obtain ⟨t105, Kt, H⟩ := H
  replace H : ((slices_Clone_span.f dJ).bind fun fQ => ((slices_Clone_span.f dG).bind fun t109 => ((fhist_floats.f dB).bind fun mM => ((fhist_floats.f dA).bind fun qg => (some (cO, dF, jL, t105, dM, fQ, t109, mM, qg, 0)))))) = some (r1, r2, r3, r4, r5, r6, r7, r8, r9, r10) := H
  have A5 := ah Kt
  clear Kt
  replace H := Option.bind_eq_some_iff.mp H
  obtain ⟨fQ, Vt, H⟩ := H
  replace H : ((slices_Clone_span.f dG).bind fun t109 => ((fhist_floats.f dB).bind fun mM => ((fhist_floats.f dA).bind fun qg => (some (cO, dF, jL, t105, dM, fQ, t109, mM, qg, 0))))) = some (r1, r2, r3, r4, r5, r6, r7, r8, r9, r10) := H
  have A6 := ah Vt
  clear Vt
  replace H := Option.bind_eq_some_iff.mp H
  obtain ⟨t109, RX, H⟩ := H
  replace H : ((fhist_floats.f dB).bind fun mM => ((fhist_floats.f dA).bind fun qg => (some (cO, dF, jL, t105, dM, fQ, t109, mM, qg, 0)))) = some (r1, r2, r3, r4, r5, r6, r7, r8, r9, r10) := H
  have A7 := ah RX
  clear RX
  replace H := Option.bind_eq_some_iff.mp H
  obtain ⟨mM, A80, H⟩ := H
  replace H : ((fhist_floats.f dA).bind fun qg => (some (cO, dF, jL, t105, dM, fQ, t109, mM, qg, 0))) = some (r1, r2, r3, r4, r5, r6, r7, r8, r9, r10) := H
  have A8 := ah A80
  clear A80
  replace H := Option.bind_eq_some_iff.mp H
  obtain ⟨qg, Zy, H⟩ := H
  replace H : (some (cO, dF, jL, t105, dM, fQ, t109, mM, qg, 0)) = some (r1, r2, r3, r4, r5, r6, r7, r8, r9, r10) := H
  have A9 := ah Zy
  clear Zy
  simp only [Option.some.injEq, Prod.mk.injEq] at H
  obtain ⟨rfl, rfl, rfl, rfl, rfl, rfl, rfl, rfl, rfl, rfl⟩ := H
  go_enter Try.func74, Try.ntmps74
  try go_wp2_with (first | ((with_reducible refine fK (N := 1) rfl ?_); refine fA ?hg (N := 1) ?hd (cs := #[.int .i64 cO, .int .u64 dF, .int .u64 dO, .int .u64 dP, .int .u64 dM, .slice iO dJ.length iP, .slice iJ dG.length iK, .slice iw dB.length iy, .slice iD dA.length iE]) (t := 29) ?hr ?_; (case hd => rfl); (case hg => rfl); (case hr => first | (go_simp; done) | (go_simp; rfl)); intro bV hg w10 hbox hb; have aN := ah (hbox); have xY := ah ((by rw [hg]; exact (aQ (bg HB.out)) : w.heap.size ≤ bV)); have dH := ah ((by rw [hg]; exact (aQ (bg HB.out)) : w.heap.size ≤ bV)); replace HB := ah (aZ (bg HB.out) hb); clear hb hbox hg) | ((with_reducible refine fK (N := 2) rfl ?_); refine fA ?hg (N := 2) ?hd (cs := #[.int .i64 0, .int .u64 0, .int .u64 0, .int .u64 0, .int .u64 0, .slice none 0 0, .slice none 0 0, .slice none 0 0, .slice none 0 0]) (t := 55) ?hr ?_; (case hd => rfl); (case hg => rfl); (case hr => first | (go_simp; done) | (go_simp; rfl)); intro aI hg VF hbox hb; have aJ := ah (hbox); have oN := ah ((by rw [hg]; exact (aQ (by repeat (first | (with_reducible first | exact HB.out | apply ak | apply ay | apply aH | refine aA ?_ dH.out) | exact HB.out))) : w.heap.size ≤ aI)); have bU := ah ((by rw [hg]; exact (aQ (by repeat (first | (with_reducible first | exact HB.out | apply ak | apply ay | apply aH | refine aA ?_ dH.out) | exact HB.out))) : w.heap.size ≤ aI)); have aT := ah ((by rw [hg]; exact Nat.ne_of_lt (jX (g := bV) (o := .cells #[.int .i64 cO, .int .u64 dF, .int .u64 dO, .int .u64 dP, .int .u64 dM, .slice iO dJ.length iP, .slice iJ dG.length iK, .slice iw dB.length iy, .slice iD dA.length iE] 29 (0, 0)) (jJ aN.out)) : bV ≠ aI)); have fB := ah ((by rw [hg]; exact Nat.ne_of_gt (jX (g := bV) (o := .cells #[.int .i64 cO, .int .u64 dF, .int .u64 dO, .int .u64 dP, .int .u64 dM, .slice iO dJ.length iP, .slice iJ dG.length iK, .slice iw dB.length iy, .slice iD dA.length iE] 29 (0, 0)) (jJ aN.out)) : aI ≠ bV)); replace aN := ah (eH aN.out hb); replace HB := ah (aZ (by repeat (first | (with_reducible first | exact HB.out | apply ak | apply ay | apply aH | refine aA ?_ dH.out) | exact HB.out)) hb); clear hb hbox hg; have ZH := aT.out; have ZI := fB.out; have yG := au aN.out; have yH := aC aN.out) | ((with_reducible refine bP (f := 31) rfl ?_); refine lG (some 6) rfl rfl Try.func31 (by kernel_rfl) rfl #[.agg #[.int .i64 cO, .int .u64 dF, .int .u64 dO, .int .u64 dP, .int .u64 dM, .slice iO dJ.length iP, .slice iJ dG.length iK, .slice iw dB.length iy, .slice iD dA.length iE]] rfl (by (try simp only [List.map_toArray, List.map_cons, List.map_nil]); first | done | rfl | (simp only [List.length_drop, List.length_take]; rfl)) ?_; (with_reducible refine (hist_Check.calls cO dF dO dP dM _ _ dJ _ _ dG _ _ dB _ _ dA dZ _ ?dK ?dL ?kC ?kD ?pR ?pU ?pV ?pW A2.out).mono ?_); (case dK => exact Kd.jV (Kd.bT nX.out HB.out)); (case dL => exact nY.out); (case kC => exact Kd.jV (Kd.bT oW.out HB.out)); (case kD => exact oZ.out); (case pR => exact Kd.jV (Kd.bT pK.out HB.out)); (case pU => exact pO.out); (case pV => exact Kd.jV (Kd.bT qm.out HB.out)); (case pW => exact qo.out); rintro e Zk ⟨rfl, hb⟩; refine ⟨_, rfl, ?_⟩; replace aN := ah (eH aN.out hb); replace aJ := ah (eH aJ.out hb); replace HB := ah (aZ (by repeat (first | (with_reducible first | exact HB.out | apply ak | apply ay | apply aH | refine aA ?_ dH.out | refine aA ?_ bU.out) | exact HB.out)) hb); (try clear hb); (try clear hb2); (try clear hk); (try clear hi); clear A2))
  have fZ := ah (kP aN.out)
  have gG := ah (kP aJ.out)
  have iC := ah (aH HB.out)
  clear aN
  clear aJ
  clear HB
  have aN := fZ
  have aJ := gG
  have HB := iC
  clear fZ gG iC
  refine uX (n := 27) (S := fun w' => w'.cell? ⟨bV, 0, none⟩ = some (.int .i64 cO) ∧ w'.cell? ⟨bV, 1, none⟩ = some (.int .u64 dF) ∧ w'.cell? ⟨bV, 2, none⟩ = some (.int .u64 dO) ∧ w'.cell? ⟨bV, 3, none⟩ = some (.int .u64 dP) ∧ w'.cell? ⟨bV, 4, none⟩ = some (.int .u64 dM) ∧ w'.cell? ⟨bV, 5, none⟩ = some (.slice iO dJ.length iP) ∧ w'.cell? ⟨bV, 6, none⟩ = some (.slice iJ dG.length iK) ∧ w'.cell? ⟨bV, 7, none⟩ = some (.slice iw dB.length iy) ∧ w'.cell? ⟨bV, 8, none⟩ = some (.slice iD dA.length iE)) (ds := []) #[false, false, false, false, false, false, false, false, false, false, false, false, false, false, false, false, false, false, false, false, false, false, false, false, false, false, false] (by kernel_rfl) rfl rfl ⟨(au aN.out 0).trans rfl, (au aN.out 1).trans rfl, (au aN.out 2).trans rfl, (au aN.out 3).trans rfl, (au aN.out 4).trans rfl, (au aN.out 5).trans rfl, (au aN.out 6).trans rfl, (au aN.out 7).trans rfl, (au aN.out 8).trans rfl⟩ (fun hHeld => ?_); refine mQ fhist_From.ada fhist_From.ZG (fun HT_ HW_ => ?_)
  generalize Zk.drew = DF at aN aJ HB hHeld ⊢
  refine dX (i := 0) (N := some 11) (v := ?_) (a' := ?_) #[true, false, false, false, false, false, false, false, false, false, false, false, false, false, false, false, false, false, false, false, false, false, false, false, false, false, false] rfl rfl (dD HT_.out (by kernel_rfl)) (fun _ _ _ h => h) (Or.inl ⟨by rfl, ?_⟩) ?_ ?_
  rotate_left
  ·intro w'
   go_simp
   with_reducible rfl
  rotate_left
  ·simp only [Act.put, List.setIfInBounds_toArray, List.set_cons_zero, List.set_cons_succ, bI, bM]
   rfl
  refine dX (i := 2) (N := some 13) (v := ?_) (a' := ?_) #[true, false, true, false, false, false, false, false, false, false, false, false, false, false, false, false, false, false, false, false, false, false, false, false, false, false, false] rfl rfl (dD HT_.out (by kernel_rfl)) (fun _ _ _ h => h) (Or.inl ⟨by rfl, ?_⟩) ?_ ?_
  rotate_left
  ·intro w'
   go_simp
   with_reducible rfl
  rotate_left
  ·simp only [Act.put, List.setIfInBounds_toArray, List.set_cons_zero, List.set_cons_succ, bI, bM]
   rfl
  refine dX (i := 4) (N := some 15) (v := ?_) (a' := ?_) #[true, false, true, false, true, false, false, false, false, false, false, false, false, false, false, false, false, false, false, false, false, false, false, false, false, false, false] rfl rfl (dD HT_.out (by kernel_rfl)) (fun _ _ _ h => h) (Or.inl ⟨by rfl, ?_⟩) ?_ ?_
  rotate_left
  ·intro w'
   go_simp
   with_reducible rfl
  rotate_left
  ·simp only [Act.put, List.setIfInBounds_toArray, List.set_cons_zero, List.set_cons_succ, bI, bM]
   rfl
  refine dX (i := 7) (N := some 18) (v := ?_) (a' := ?_) #[true, false, true, false, true, false, false, true, false, false, false, false, false, false, false, false, false, false, false, false, false, false, false, false, false, false, false] rfl rfl (dD HT_.out (by kernel_rfl)) (fun _ _ _ h => h) (Or.inl ⟨by rfl, ?_⟩) ?_ ?_
  rotate_left
  ·intro w'
   go_simp
   with_reducible rfl
  rotate_left
  ·simp only [Act.put, List.setIfInBounds_toArray, List.set_cons_zero, List.set_cons_succ, bI, bM]
   rfl
  refine dX (i := 10) (N := some 21) (v := ?_) (a' := ?_) #[true, false, true, false, true, false, false, true, false, false, true, false, false, false, false, false, false, false, false, false, false, false, false, false, false, false, false] rfl rfl (dD HT_.out (by kernel_rfl)) (fun _ _ _ h => h) (Or.inl ⟨by rfl, ?_⟩) ?_ ?_
  rotate_left
  ·intro w'
   go_simp
   with_reducible rfl
  rotate_left
  ·simp only [Act.put, List.setIfInBounds_toArray, List.set_cons_zero, List.set_cons_succ, bI, bM]
   rfl
  refine dX (i := 12) (N := some 23) (v := ?_) (a' := ?_) #[true, false, true, false, true, false, false, true, false, false, true, false, true, false, false, false, false, false, false, false, false, false, false, false, false, false, false] rfl rfl (dD HT_.out (by kernel_rfl)) (fun _ _ _ h => h) (Or.inl ⟨by rfl, ?_⟩) ?_ ?_
  rotate_left
  ·intro w'
   go_simp
   with_reducible rfl
  rotate_left
  ·simp only [Act.put, List.setIfInBounds_toArray, List.set_cons_zero, List.set_cons_succ, bI, bM]
   rfl
  refine dX (i := 15) (N := some 26) (v := ?_) (a' := ?_) #[true, false, true, false, true, false, false, true, false, false, true, false, true, false, false, true, false, false, false, false, false, false, false, false, false, false, false] rfl rfl (dD HT_.out (by kernel_rfl)) (fun _ _ _ h => h) (Or.inl ⟨by rfl, ?_⟩) ?_ ?_
  rotate_left
  ·intro w'
   go_simp
   with_reducible rfl
  rotate_left
  ·simp only [Act.put, List.setIfInBounds_toArray, List.set_cons_zero, List.set_cons_succ, bI, bM]
   rfl
  refine dX (i := 18) (N := some 29) (v := ?_) (a' := ?_) #[true, false, true, false, true, false, false, true, false, false, true, false, true, false, false, true, false, false, true, false, false, false, false, false, false, false, false] rfl rfl (dD HT_.out (by kernel_rfl)) (fun _ _ _ h => h) (Or.inl ⟨by rfl, ?_⟩) ?_ ?_
  rotate_left
  ·intro w'
   go_simp
   with_reducible rfl
  rotate_left
  ·simp only [Act.put, List.setIfInBounds_toArray, List.set_cons_zero, List.set_cons_succ, bI, bM]
   rfl
  refine dX (i := 21) (N := some 32) (v := ?_) (a' := ?_) #[true, false, true, false, true, false, false, true, false, false, true, false, true, false, false, true, false, false, true, false, false, true, false, false, false, false, false] rfl rfl (dD HT_.out (by kernel_rfl)) (fun _ _ _ h => h) (Or.inl ⟨by rfl, ?_⟩) ?_ ?_
  rotate_left
  ·intro w'
   go_simp
   with_reducible rfl
  rotate_left
  ·simp only [Act.put, List.setIfInBounds_toArray, List.set_cons_zero, List.set_cons_succ, bI, bM]
   rfl
  refine jT (i := 1) (N := some 12) (v := ?_) (a' := ?_) #[true, true, true, false, true, false, false, true, false, false, true, false, true, false, false, true, false, false, true, false, false, true, false, false, false, false, false] rfl rfl (fM HT_.out HW_.out (by kernel_rfl)) (fun _ _ _ h => h) (Or.inl ⟨by rfl, ?_⟩) hHeld ?_ ?_
  rotate_left
  ·rintro w' ⟨s0, s1, s2, s3, s4, s5, s6, s7, s8⟩
   go_simp
   with_reducible rfl
  rotate_left
  ·simp only [Act.put, List.setIfInBounds_toArray, List.set_cons_zero, List.set_cons_succ, bI, bM]
   rfl
  refine jT (i := 3) (N := some 14) (v := ?_) (a' := ?_) #[true, true, true, true, true, false, false, true, false, false, true, false, true, false, false, true, false, false, true, false, false, true, false, false, false, false, false] rfl rfl (fM HT_.out HW_.out (by kernel_rfl)) (fun _ _ _ h => h) (Or.inl ⟨by rfl, ?_⟩) hHeld ?_ ?_
  rotate_left
  ·rintro w' ⟨s0, s1, s2, s3, s4, s5, s6, s7, s8⟩
   go_simp
   with_reducible rfl
  rotate_left
  ·simp only [Act.put, List.setIfInBounds_toArray, List.set_cons_zero, List.set_cons_succ, bI, bM]
   rfl
  refine jT (i := 5) (N := some 16) (v := ?_) (a' := ?_) #[true, true, true, true, true, true, false, true, false, false, true, false, true, false, false, true, false, false, true, false, false, true, false, false, false, false, false] rfl rfl (fM HT_.out HW_.out (by kernel_rfl)) (fun _ _ _ h => h) (Or.inl ⟨by rfl, ?_⟩) hHeld ?_ ?_
  rotate_left
  ·rintro w' ⟨s0, s1, s2, s3, s4, s5, s6, s7, s8⟩
   go_simp
   with_reducible rfl
  rotate_left
  ·simp only [Act.put, List.setIfInBounds_toArray, List.set_cons_zero, List.set_cons_succ, bI, bM]
   rfl
  refine jT (i := 8) (N := some 19) (v := ?_) (a' := ?_) #[true, true, true, true, true, true, false, true, true, false, true, false, true, false, false, true, false, false, true, false, false, true, false, false, false, false, false] rfl rfl (fM HT_.out HW_.out (by kernel_rfl)) (fun _ _ _ h => h) (Or.inl ⟨by rfl, ?_⟩) hHeld ?_ ?_
  rotate_left
  ·rintro w' ⟨s0, s1, s2, s3, s4, s5, s6, s7, s8⟩
   go_simp
   with_reducible rfl
  rotate_left
  ·simp only [Act.put, List.setIfInBounds_toArray, List.set_cons_zero, List.set_cons_succ, bI, bM]
   rfl
  refine jT (i := 11) (N := some 22) (v := ?_) (a' := ?_) #[true, true, true, true, true, true, false, true, true, false, true, true, true, false, false, true, false, false, true, false, false, true, false, false, false, false, false] rfl rfl (fM HT_.out HW_.out (by kernel_rfl)) (fun _ _ _ h => h) (Or.inl ⟨by rfl, ?_⟩) hHeld ?_ ?_
  rotate_left
  ·rintro w' ⟨s0, s1, s2, s3, s4, s5, s6, s7, s8⟩
   go_simp
   with_reducible rfl
  rotate_left
  ·simp only [Act.put, List.setIfInBounds_toArray, List.set_cons_zero, List.set_cons_succ, bI, bM]
   rfl
  refine jT (i := 13) (N := some 24) (v := ?_) (a' := ?_) #[true, true, true, true, true, true, false, true, true, false, true, true, true, true, false, true, false, false, true, false, false, true, false, false, false, false, false] rfl rfl (fM HT_.out HW_.out (by kernel_rfl)) (fun _ _ _ h => h) (Or.inl ⟨by rfl, ?_⟩) hHeld ?_ ?_
  rotate_left
  ·rintro w' ⟨s0, s1, s2, s3, s4, s5, s6, s7, s8⟩
   go_simp
   with_reducible rfl
  rotate_left
  ·simp only [Act.put, List.setIfInBounds_toArray, List.set_cons_zero, List.set_cons_succ, bI, bM]
   rfl
  refine jT (i := 16) (N := some 27) (v := ?_) (a' := ?_) #[true, true, true, true, true, true, false, true, true, false, true, true, true, true, false, true, true, false, true, false, false, true, false, false, false, false, false] rfl rfl (fM HT_.out HW_.out (by kernel_rfl)) (fun _ _ _ h => h) (Or.inl ⟨by rfl, ?_⟩) hHeld ?_ ?_
  rotate_left
  ·rintro w' ⟨s0, s1, s2, s3, s4, s5, s6, s7, s8⟩
   go_simp
   with_reducible rfl
  rotate_left
  ·simp only [Act.put, List.setIfInBounds_toArray, List.set_cons_zero, List.set_cons_succ, bI, bM]
   rfl
  refine jT (i := 19) (N := some 30) (v := ?_) (a' := ?_) #[true, true, true, true, true, true, false, true, true, false, true, true, true, true, false, true, true, false, true, true, false, true, false, false, false, false, false] rfl rfl (fM HT_.out HW_.out (by kernel_rfl)) (fun _ _ _ h => h) (Or.inl ⟨by rfl, ?_⟩) hHeld ?_ ?_
  rotate_left
  ·rintro w' ⟨s0, s1, s2, s3, s4, s5, s6, s7, s8⟩
   go_simp
   with_reducible rfl
  rotate_left
  ·simp only [Act.put, List.setIfInBounds_toArray, List.set_cons_zero, List.set_cons_succ, bI, bM]
   rfl
  refine jT (i := 22) (N := some 33) (v := ?_) (a' := ?_) #[true, true, true, true, true, true, false, true, true, false, true, true, true, true, false, true, true, false, true, true, false, true, true, false, false, false, false] rfl rfl (fM HT_.out HW_.out (by kernel_rfl)) (fun _ _ _ h => h) (Or.inl ⟨by rfl, ?_⟩) hHeld ?_ ?_
  rotate_left
  ·rintro w' ⟨s0, s1, s2, s3, s4, s5, s6, s7, s8⟩
   go_simp
   with_reducible rfl
  rotate_left
  ·simp only [Act.put, List.setIfInBounds_toArray, List.set_cons_zero, List.set_cons_succ, bI, bM]
   rfl
  refine o9 (i := 6) (N := some 17) #[true, true, true, true, true, true, true, true, true, false, true, true, true, true, false, true, true, false, true, true, false, true, true, false, false, false, false] rfl rfl (jD HT_.out (by kernel_rfl)) (by decide) (fun K hK => ?_)
  refine ql Try.func137 (by kernel_rfl) rfl #[.int .u64 dO] (by rfl) rfl rfl (by (try simp only [List.map_toArray, List.map_cons, List.map_nil]); first | done | rfl | (simp only [List.length_drop, List.length_take]; rfl)) ?_
  with_reducible refine (fhist_Float.calls dO jL _ A4.out).mono ?_
  rintro e w' ⟨rfl, ⟨nd, rfl⟩⟩
  refine ⟨_, rfl, ?_⟩
  refine hK.out _ _ ⟨(au aN.out 0).trans rfl, (au aN.out 1).trans rfl, (au aN.out 2).trans rfl, (au aN.out 3).trans rfl, (au aN.out 4).trans rfl, (au aN.out 5).trans rfl, (au aN.out 6).trans rfl, (au aN.out 7).trans rfl, (au aN.out 8).trans rfl⟩ (fun hHeld => ?_)
  clear hK K
  refine jo (a' := ?_) ?_ ?_
  rotate_left
  ·show Act.put _ (some 17) _ = _
   simp only [Act.put, List.setIfInBounds_toArray, List.set_cons_zero, List.set_cons_succ, bI, bM]
   rfl
  refine o9 (i := 9) (N := some 20) #[true, true, true, true, true, true, true, true, true, true, true, true, true, true, false, true, true, false, true, true, false, true, true, false, false, false, false] rfl rfl (jD HT_.out (by kernel_rfl)) (by decide) (fun K hK => ?_)
  refine ql Try.func137 (by kernel_rfl) rfl #[.int .u64 dP] (by rfl) rfl rfl (by (try simp only [List.map_toArray, List.map_cons, List.map_nil]); first | done | rfl | (simp only [List.length_drop, List.length_take]; rfl)) ?_
  with_reducible refine (fhist_Float.calls dP t105 _ A5.out).mono ?_
  rintro e w' ⟨rfl, ⟨nd, rfl⟩⟩
  refine ⟨_, rfl, ?_⟩
  refine hK.out _ _ ⟨(au aN.out 0).trans rfl, (au aN.out 1).trans rfl, (au aN.out 2).trans rfl, (au aN.out 3).trans rfl, (au aN.out 4).trans rfl, (au aN.out 5).trans rfl, (au aN.out 6).trans rfl, (au aN.out 7).trans rfl, (au aN.out 8).trans rfl⟩ (fun hHeld => ?_)
  clear hK K
  refine jo (a' := ?_) ?_ ?_
  rotate_left
  ·show Act.put _ (some 20) _ = _
   simp only [Act.put, List.setIfInBounds_toArray, List.set_cons_zero, List.set_cons_succ, bI, bM]
   rfl
  refine o9 (i := 14) (N := some 25) #[true, true, true, true, true, true, true, true, true, true, true, true, true, true, true, true, true, false, true, true, false, true, true, false, false, false, false] rfl rfl (jD HT_.out (by kernel_rfl)) (by decide) (fun K hK => ?_)
  refine ql Try.func138 (by kernel_rfl) rfl #[.slice iO dJ.length iP] (by rfl) rfl rfl (by (try simp only [List.map_toArray, List.map_cons, List.map_nil]); first | done | rfl | (simp only [List.length_drop, List.length_take]; rfl)) ?_
  with_reducible refine (slices_Clone_span.calls _ _ dJ fQ _ ?dK ?dL A6.out).mono ?_
  (case dK => repeat (first | exact (Kd.bT nX.out (by repeat (first | (with_reducible first | exact HB.out | apply ak | apply ay | apply aH | refine aA ?_ dH.out | refine aA ?_ bU.out) | exact HB.out))) | (with_reducible refine Kd.TU ?_ _) | (with_reducible refine Kd.TV ?_ _) | (with_reducible refine Kd.Wp ?_)))
  (case dL => exact nY.out)
  rintro e w16 ⟨v107, rfl, ho0, hb⟩
  refine ⟨_, rfl, ?_⟩
  have fZ := ah (Kd.dh ho0 (aQ (by repeat (first | (with_reducible first | exact HB.out | apply ak | apply ay | apply aH | refine aA ?_ dH.out | refine aA ?_ bU.out) | exact HB.out))))
  have gG := ah (eH aN.out hb)
  have iC := ah (eH aJ.out hb)
  have jg := ah (aZ (by repeat (first | (with_reducible first | exact HB.out | apply ak | apply ay | apply aH | refine aA ?_ dH.out | refine aA ?_ bU.out) | exact HB.out)) hb)
  clear aN
  clear aJ
  clear HB
  have iQ := fZ
  have aN := gG
  have aJ := iC
  have HB := jg
  clear fZ gG iC jg
  (try clear hb)
  (try clear hb2)
  (try clear hk)
  (try clear hi)
  (try clear ho0)
  refine hK.out _ _ ⟨(au aN.out 0).trans rfl, (au aN.out 1).trans rfl, (au aN.out 2).trans rfl, (au aN.out 3).trans rfl, (au aN.out 4).trans rfl, (au aN.out 5).trans rfl, (au aN.out 6).trans rfl, (au aN.out 7).trans rfl, (au aN.out 8).trans rfl⟩ (fun hHeld => ?_)
  clear hK K
  refine jo (a' := ?_) ?_ ?_
  rotate_left
  ·show Act.put _ (some 25) _ = _
   simp only [Act.put, List.setIfInBounds_toArray, List.set_cons_zero, List.set_cons_succ, bI, bM]
   rfl
  refine o9 (i := 17) (N := some 28) #[true, true, true, true, true, true, true, true, true, true, true, true, true, true, true, true, true, true, true, true, false, true, true, false, false, false, false] rfl rfl (jD HT_.out (by kernel_rfl)) (by decide) (fun K hK => ?_)
  refine ql Try.func138 (by kernel_rfl) rfl #[.slice iJ dG.length iK] (by rfl) rfl rfl (by (try simp only [List.map_toArray, List.map_cons, List.map_nil]); first | done | rfl | (simp only [List.length_drop, List.length_take]; rfl)) ?_
  with_reducible refine (slices_Clone_span.calls _ _ dG t109 _ ?dK ?dL A7.out).mono ?_
  (case dK => exact Kd.jV (Kd.bT oW.out HB.out))
  (case dL => exact oZ.out)
  rintro e VG ⟨qw, rfl, ho0, hb⟩
  refine ⟨_, rfl, ?_⟩
  have fZ := ah (Kd.fV (Kd.fJ iQ.out) (Kd.iI ho0) hb)
  have gG := ah (Kd.dh (Kd.jh ho0 (Kd.kW (Kd.fJ iQ.out))) (aQ (by repeat (first | (with_reducible first | exact HB.out | apply ak | apply ay | apply aH | refine aA ?_ dH.out | refine aA ?_ bU.out) | exact HB.out))))
  have iC := ah (eH aN.out hb)
  have jg := ah (eH aJ.out hb)
  have kF := ah (aZ (by repeat (first | (with_reducible first | exact HB.out | apply ak | apply ay | apply aH | refine aA ?_ dH.out | refine aA ?_ bU.out) | exact HB.out)) hb)
  clear iQ
  clear aN
  clear aJ
  clear HB
  have iQ := fZ
  have eu := gG
  have aN := iC
  have aJ := jg
  have HB := kF
  clear fZ gG iC jg kF
  (try clear hb)
  (try clear hb2)
  (try clear hk)
  (try clear hi)
  (try clear ho0)
  refine hK.out _ _ ⟨(au aN.out 0).trans rfl, (au aN.out 1).trans rfl, (au aN.out 2).trans rfl, (au aN.out 3).trans rfl, (au aN.out 4).trans rfl, (au aN.out 5).trans rfl, (au aN.out 6).trans rfl, (au aN.out 7).trans rfl, (au aN.out 8).trans rfl⟩ (fun hHeld => ?_)
  clear hK K
  refine jo (a' := ?_) ?_ ?_
  rotate_left
  ·show Act.put _ (some 28) _ = _
   simp only [Act.put, List.setIfInBounds_toArray, List.set_cons_zero, List.set_cons_succ, bI, bM]
   rfl
  refine o9 (i := 20) (N := some 31) #[true, true, true, true, true, true, true, true, true, true, true, true, true, true, true, true, true, true, true, true, true, true, true, false, false, false, false] rfl rfl (jD HT_.out (by kernel_rfl)) (by decide) (fun K hK => ?_)
  refine ql Try.func139 (by kernel_rfl) rfl #[.slice iw dB.length iy] (by rfl) rfl rfl (by (try simp only [List.map_toArray, List.map_cons, List.map_nil]); first | done | rfl | (simp only [List.length_drop, List.length_take]; rfl)) ?_
  with_reducible refine (fhist_floats.calls _ _ dB mM _ ?dK ?dL A8.out).mono ?_
  (case dK => exact Kd.jV (Kd.bT pK.out HB.out))
  (case dL => exact pO.out)
  rintro e w18 ⟨Zr, rfl, ho0, hb⟩
  refine ⟨_, rfl, ?_⟩
  have fZ := ah (Kd.lu iQ.out hb)
  have gG := ah (Kd.lu eu.out hb)
  have iC := ah (Kd.dh ho0 (aQ (by repeat (first | (with_reducible first | exact HB.out | apply ak | apply ay | apply aH | refine aA ?_ dH.out | refine aA ?_ bU.out) | exact HB.out))))
  have jg := ah (eH aN.out hb)
  have kF := ah (eH aJ.out hb)
  have mJ := ah (aZ (by repeat (first | (with_reducible first | exact HB.out | apply ak | apply ay | apply aH | refine aA ?_ dH.out | refine aA ?_ bU.out) | exact HB.out)) hb)
  clear iQ
  clear eu
  clear aN
  clear aJ
  clear HB
  have iQ := fZ
  have eu := gG
  have zi := iC
  have aN := jg
  have aJ := kF
  have HB := mJ
  clear fZ gG iC jg kF mJ
  (try clear hb)
  (try clear hb2)
  (try clear hk)
  (try clear hi)
  (try clear ho0)
  refine hK.out _ _ ⟨(au aN.out 0).trans rfl, (au aN.out 1).trans rfl, (au aN.out 2).trans rfl, (au aN.out 3).trans rfl, (au aN.out 4).trans rfl, (au aN.out 5).trans rfl, (au aN.out 6).trans rfl, (au aN.out 7).trans rfl, (au aN.out 8).trans rfl⟩ (fun hHeld => ?_)
  clear hK K
  refine jo (a' := ?_) ?_ ?_
  rotate_left
  ·show Act.put _ (some 31) _ = _
   simp only [Act.put, List.setIfInBounds_toArray, List.set_cons_zero, List.set_cons_succ, bI, bM]
   rfl
  refine o9 (i := 23) (N := some 34) #[true, true, true, true, true, true, true, true, true, true, true, true, true, true, true, true, true, true, true, true, true, true, true, true, false, false, false] rfl rfl (jD HT_.out (by kernel_rfl)) (by decide) (fun K hK => ?_)
  refine ql Try.func139 (by kernel_rfl) rfl #[.slice iD dA.length iE] (by rfl) rfl rfl (by (try simp only [List.map_toArray, List.map_cons, List.map_nil]); first | done | rfl | (simp only [List.length_drop, List.length_take]; rfl)) ?_
  with_reducible refine (fhist_floats.calls _ _ dA qg _ ?dK ?dL A9.out).mono ?_
  (case dK => exact Kd.jV (Kd.bT qm.out HB.out))
  (case dL => exact qo.out)
  rintro e zo ⟨agf, rfl, ho0, hb⟩
  refine ⟨_, rfl, ?_⟩
  have fZ := ah (Kd.lu iQ.out hb)
  have gG := ah (Kd.lu eu.out hb)
  have iC := ah (Kd.fV (Kd.fJ zi.out) (Kd.iI ho0) hb)
  have jg := ah (Kd.dh (Kd.jh ho0 (Kd.kW (Kd.fJ zi.out))) (aQ (by repeat (first | (with_reducible first | exact HB.out | apply ak | apply ay | apply aH | refine aA ?_ dH.out | refine aA ?_ bU.out) | exact HB.out))))
  have kF := ah (eH aN.out hb)
  have mJ := ah (eH aJ.out hb)
  have LK := ah (aZ (by repeat (first | (with_reducible first | exact HB.out | apply ak | apply ay | apply aH | refine aA ?_ dH.out | refine aA ?_ bU.out) | exact HB.out)) hb)
  clear iQ
  clear eu
  clear zi
  clear aN
  clear aJ
  clear HB
  have iQ := fZ
  have eu := gG
  have zi := iC
  have VP := jg
  have aN := kF
  have aJ := mJ
  have HB := LK
  clear fZ gG iC jg kF mJ LK
  (try clear hb)
  (try clear hb2)
  (try clear hk)
  (try clear hi)
  (try clear ho0)
  obtain ⟨P9, LM, U4⟩ := Kd.dw VP.out
  (first | subst U4 | (injection U4 with pG uY pI; have uZ := pG.symm; have vg := pI.symm; clear pG uY pI; subst uZ; subst vg))
  obtain ⟨Gf, Gg, Ky⟩ := Kd.dw zi.out
  (first | subst Ky | (injection Ky with pG uY pI; have uZ := pG.symm; have vg := pI.symm; clear pG uY pI; subst uZ; subst vg))
  obtain ⟨NM, Cm, vO⟩ := Kd.dw eu.out
  (first | subst vO | (injection vO with pG uY pI; have uZ := pG.symm; have vg := pI.symm; clear pG uY pI; subst uZ; subst vg))
  obtain ⟨Jr, Js, U5⟩ := Kd.dw iQ.out
  (first | subst U5 | (injection U5 with pG uY pI; have uZ := pG.symm; have vg := pI.symm; clear pG uY pI; subst uZ; subst vg))
  refine hK.out _ _ ⟨(au aN.out 0).trans rfl, (au aN.out 1).trans rfl, (au aN.out 2).trans rfl, (au aN.out 3).trans rfl, (au aN.out 4).trans rfl, (au aN.out 5).trans rfl, (au aN.out 6).trans rfl, (au aN.out 7).trans rfl, (au aN.out 8).trans rfl⟩ (fun hHeld => ?_)
  clear hK K
  refine jo (a' := ?_) ?_ ?_
  rotate_left
  ·show Act.put _ (some 34) _ = _
   simp only [Act.put, List.setIfInBounds_toArray, List.set_cons_zero, List.set_cons_succ, bI, bM]
   rfl
  refine dX (i := 24) (N := some 35) (v := ?_) (a' := ?_) #[true, true, true, true, true, true, true, true, true, true, true, true, true, true, true, true, true, true, true, true, true, true, true, true, true, false, false] rfl rfl (dD HT_.out (by kernel_rfl)) (fun _ _ _ h => h) (Or.inl ⟨by rfl, ?_⟩) ?_ ?_
  rotate_left
  ·intro w'
   go_simp
   with_reducible rfl
  rotate_left
  ·simp only [Act.put, List.setIfInBounds_toArray, List.set_cons_zero, List.set_cons_succ, bI, bM]
   rfl
  refine o9 (i := 25) (N := none) #[true, true, true, true, true, true, true, true, true, true, true, true, true, true, true, true, true, true, true, true, true, true, true, true, true, true, false] rfl rfl (jD HT_.out (by kernel_rfl)) (by decide) (fun K hK => ?_)
  have agh : zo.cell? ⟨aI, 0, none⟩ = some (.int .i64 0) := (au aJ.out 0).trans rfl
  have aeF := aC aJ.out 0
  have aaZ := aT.out
  have aa0 := fB.out
  have agi : zo.cell? ⟨aI, 1, none⟩ = some (.int .u64 0) := (au aJ.out 1).trans rfl
  have aeG := aC aJ.out 1
  have aa1 := aT.out
  have aa2 := fB.out
  have agj : zo.cell? ⟨aI, 2, none⟩ = some (.int .u64 0) := (au aJ.out 2).trans rfl
  have aeH := aC aJ.out 2
  have aa3 := aT.out
  have aa4 := fB.out
  have agk : zo.cell? ⟨aI, 3, none⟩ = some (.int .u64 0) := (au aJ.out 3).trans rfl
  have aeI := aC aJ.out 3
  have aa5 := aT.out
  have aa6 := fB.out
  have agl : zo.cell? ⟨aI, 4, none⟩ = some (.int .u64 0) := (au aJ.out 4).trans rfl
  have aeJ := aC aJ.out 4
  have aa7 := aT.out
  have aa8 := fB.out
  have agm : zo.cell? ⟨aI, 5, none⟩ = some (.slice none 0 0) := (au aJ.out 5).trans rfl
  have aeK := aC aJ.out 5
  have aa9 := aT.out
  have abb := fB.out
  have agn : zo.cell? ⟨aI, 6, none⟩ = some (.slice none 0 0) := (au aJ.out 6).trans rfl
  have aeL := aC aJ.out 6
  have abd := aT.out
  have abe := fB.out
  have agp : zo.cell? ⟨aI, 7, none⟩ = some (.slice none 0 0) := (au aJ.out 7).trans rfl
  have aeM := aC aJ.out 7
  have abf := aT.out
  have abg := fB.out
  have agq : zo.cell? ⟨aI, 8, none⟩ = some (.slice none 0 0) := (au aJ.out 8).trans rfl
  have aeN := aC aJ.out 8
  have abh := aT.out
  have abj := fB.out
  refine Vm (w1 := ?_) (by rfl) rfl ?_ ?_
  rotate_left
  ·go_simp
   rfl
  refine hK.out _ _ ⟨((cell_far (p := ⟨aI, _, none⟩) aT.out _).trans (((cell_far (p := ⟨aI, _, none⟩) aT.out _).trans (((cell_far (p := ⟨aI, _, none⟩) aT.out _).trans (((cell_far (p := ⟨aI, _, none⟩) aT.out _).trans (((cell_far (p := ⟨aI, _, none⟩) aT.out _).trans (((cell_far (p := ⟨aI, _, none⟩) aT.out _).trans (((cell_far (p := ⟨aI, _, none⟩) aT.out _).trans (((cell_far (p := ⟨aI, _, none⟩) aT.out _).trans (((cell_far (p := ⟨aI, _, none⟩) aT.out _).trans (hHeld.1)))))))))))))))))), ((cell_far (p := ⟨aI, _, none⟩) aT.out _).trans (((cell_far (p := ⟨aI, _, none⟩) aT.out _).trans (((cell_far (p := ⟨aI, _, none⟩) aT.out _).trans (((cell_far (p := ⟨aI, _, none⟩) aT.out _).trans (((cell_far (p := ⟨aI, _, none⟩) aT.out _).trans (((cell_far (p := ⟨aI, _, none⟩) aT.out _).trans (((cell_far (p := ⟨aI, _, none⟩) aT.out _).trans (((cell_far (p := ⟨aI, _, none⟩) aT.out _).trans (((cell_far (p := ⟨aI, _, none⟩) aT.out _).trans (hHeld.2.1)))))))))))))))))), ((cell_far (p := ⟨aI, _, none⟩) aT.out _).trans (((cell_far (p := ⟨aI, _, none⟩) aT.out _).trans (((cell_far (p := ⟨aI, _, none⟩) aT.out _).trans (((cell_far (p := ⟨aI, _, none⟩) aT.out _).trans (((cell_far (p := ⟨aI, _, none⟩) aT.out _).trans (((cell_far (p := ⟨aI, _, none⟩) aT.out _).trans (((cell_far (p := ⟨aI, _, none⟩) aT.out _).trans (((cell_far (p := ⟨aI, _, none⟩) aT.out _).trans (((cell_far (p := ⟨aI, _, none⟩) aT.out _).trans (hHeld.2.2.1)))))))))))))))))), ((cell_far (p := ⟨aI, _, none⟩) aT.out _).trans (((cell_far (p := ⟨aI, _, none⟩) aT.out _).trans (((cell_far (p := ⟨aI, _, none⟩) aT.out _).trans (((cell_far (p := ⟨aI, _, none⟩) aT.out _).trans (((cell_far (p := ⟨aI, _, none⟩) aT.out _).trans (((cell_far (p := ⟨aI, _, none⟩) aT.out _).trans (((cell_far (p := ⟨aI, _, none⟩) aT.out _).trans (((cell_far (p := ⟨aI, _, none⟩) aT.out _).trans (((cell_far (p := ⟨aI, _, none⟩) aT.out _).trans (hHeld.2.2.2.1)))))))))))))))))), ((cell_far (p := ⟨aI, _, none⟩) aT.out _).trans (((cell_far (p := ⟨aI, _, none⟩) aT.out _).trans (((cell_far (p := ⟨aI, _, none⟩) aT.out _).trans (((cell_far (p := ⟨aI, _, none⟩) aT.out _).trans (((cell_far (p := ⟨aI, _, none⟩) aT.out _).trans (((cell_far (p := ⟨aI, _, none⟩) aT.out _).trans (((cell_far (p := ⟨aI, _, none⟩) aT.out _).trans (((cell_far (p := ⟨aI, _, none⟩) aT.out _).trans (((cell_far (p := ⟨aI, _, none⟩) aT.out _).trans (hHeld.2.2.2.2.1)))))))))))))))))), ((cell_far (p := ⟨aI, _, none⟩) aT.out _).trans (((cell_far (p := ⟨aI, _, none⟩) aT.out _).trans (((cell_far (p := ⟨aI, _, none⟩) aT.out _).trans (((cell_far (p := ⟨aI, _, none⟩) aT.out _).trans (((cell_far (p := ⟨aI, _, none⟩) aT.out _).trans (((cell_far (p := ⟨aI, _, none⟩) aT.out _).trans (((cell_far (p := ⟨aI, _, none⟩) aT.out _).trans (((cell_far (p := ⟨aI, _, none⟩) aT.out _).trans (((cell_far (p := ⟨aI, _, none⟩) aT.out _).trans (hHeld.2.2.2.2.2.1)))))))))))))))))), ((cell_far (p := ⟨aI, _, none⟩) aT.out _).trans (((cell_far (p := ⟨aI, _, none⟩) aT.out _).trans (((cell_far (p := ⟨aI, _, none⟩) aT.out _).trans (((cell_far (p := ⟨aI, _, none⟩) aT.out _).trans (((cell_far (p := ⟨aI, _, none⟩) aT.out _).trans (((cell_far (p := ⟨aI, _, none⟩) aT.out _).trans (((cell_far (p := ⟨aI, _, none⟩) aT.out _).trans (((cell_far (p := ⟨aI, _, none⟩) aT.out _).trans (((cell_far (p := ⟨aI, _, none⟩) aT.out _).trans (hHeld.2.2.2.2.2.2.1)))))))))))))))))), ((cell_far (p := ⟨aI, _, none⟩) aT.out _).trans (((cell_far (p := ⟨aI, _, none⟩) aT.out _).trans (((cell_far (p := ⟨aI, _, none⟩) aT.out _).trans (((cell_far (p := ⟨aI, _, none⟩) aT.out _).trans (((cell_far (p := ⟨aI, _, none⟩) aT.out _).trans (((cell_far (p := ⟨aI, _, none⟩) aT.out _).trans (((cell_far (p := ⟨aI, _, none⟩) aT.out _).trans (((cell_far (p := ⟨aI, _, none⟩) aT.out _).trans (((cell_far (p := ⟨aI, _, none⟩) aT.out _).trans (hHeld.2.2.2.2.2.2.2.1)))))))))))))))))), ((cell_far (p := ⟨aI, _, none⟩) aT.out _).trans (((cell_far (p := ⟨aI, _, none⟩) aT.out _).trans (((cell_far (p := ⟨aI, _, none⟩) aT.out _).trans (((cell_far (p := ⟨aI, _, none⟩) aT.out _).trans (((cell_far (p := ⟨aI, _, none⟩) aT.out _).trans (((cell_far (p := ⟨aI, _, none⟩) aT.out _).trans (((cell_far (p := ⟨aI, _, none⟩) aT.out _).trans (((cell_far (p := ⟨aI, _, none⟩) aT.out _).trans (((cell_far (p := ⟨aI, _, none⟩) aT.out _).trans (hHeld.2.2.2.2.2.2.2.2))))))))))))))))))⟩ (fun hHeld => ?_)
  clear hK K
  refine dX (i := 26) (N := some 3) (v := ?_) (a' := ?_) #[true, true, true, true, true, true, true, true, true, true, true, true, true, true, true, true, true, true, true, true, true, true, true, true, true, true, true] rfl rfl (dD HT_.out (by kernel_rfl)) (fun _ _ _ h => h) (Or.inl ⟨by rfl, ?_⟩) ?_ ?_
  rotate_left
  ·intro w'
   go_simp
   with_reducible rfl
  rotate_left
  ·simp only [Act.put, List.setIfInBounds_toArray, List.set_cons_zero, List.set_cons_succ, bI, bM]
   rfl
  refine y9 (su HT_.out (by kernel_rfl)) ?_
  try go_wp2
  refine bodyPost_ret (gu rfl _ _ aI 55 #[.int .i64 cO, .int .u64 dF, .int .u64 jL, .int .u64 t105, .int .u64 dM, .slice Jr fQ.length Js, .slice NM t109.length Cm, .slice Gf mM.length Gg, .slice P9 qg.length LM] (0, 0) _ rfl (by (repeat with_reducible refine bQ ?_); refine bC (cs := #[.int .i64 cO, .int .u64 dF, .int .u64 jL, .int .u64 t105, .int .u64 dM, .slice Jr fQ.length Js, .slice NM t109.length Cm, .slice Gf mM.length Gg, .slice none 0 0]) ?_ 8 _ rfl; (repeat with_reducible refine bQ ?_); refine bC (cs := #[.int .i64 cO, .int .u64 dF, .int .u64 jL, .int .u64 t105, .int .u64 dM, .slice Jr fQ.length Js, .slice NM t109.length Cm, .slice none 0 0, .slice none 0 0]) ?_ 7 _ rfl; (repeat with_reducible refine bQ ?_); refine bC (cs := #[.int .i64 cO, .int .u64 dF, .int .u64 jL, .int .u64 t105, .int .u64 dM, .slice Jr fQ.length Js, .slice none 0 0, .slice none 0 0, .slice none 0 0]) ?_ 6 _ rfl; (repeat with_reducible refine bQ ?_); refine bC (cs := #[.int .i64 cO, .int .u64 dF, .int .u64 jL, .int .u64 t105, .int .u64 dM, .slice none 0 0, .slice none 0 0, .slice none 0 0, .slice none 0 0]) ?_ 5 _ rfl; (repeat with_reducible refine bQ ?_); refine bC (cs := #[.int .i64 cO, .int .u64 dF, .int .u64 jL, .int .u64 t105, .int .u64 0, .slice none 0 0, .slice none 0 0, .slice none 0 0, .slice none 0 0]) ?_ 4 _ rfl; (repeat with_reducible refine bQ ?_); refine bC (cs := #[.int .i64 cO, .int .u64 dF, .int .u64 jL, .int .u64 0, .int .u64 0, .slice none 0 0, .slice none 0 0, .slice none 0 0, .slice none 0 0]) ?_ 3 _ rfl; (repeat with_reducible refine bQ ?_); refine bC (cs := #[.int .i64 cO, .int .u64 dF, .int .u64 0, .int .u64 0, .int .u64 0, .slice none 0 0, .slice none 0 0, .slice none 0 0, .slice none 0 0]) ?_ 2 _ rfl; (repeat with_reducible refine bQ ?_); refine bC (cs := #[.int .i64 cO, .int .u64 0, .int .u64 0, .int .u64 0, .int .u64 0, .slice none 0 0, .slice none 0 0, .slice none 0 0, .slice none 0 0]) ?_ 1 _ rfl; (repeat with_reducible refine bQ ?_); refine bC (cs := #[.int .i64 0, .int .u64 0, .int .u64 0, .int .u64 0, .int .u64 0, .slice none 0 0, .slice none 0 0, .slice none 0 0, .slice none 0 0]) ?_ 0 _ rfl; (repeat with_reducible refine bQ ?_); exact aJ.out) Try.underlying55 rfl (by kernel_rfl)) rfl ?_
  exact ⟨_, _, _, _, by first | rfl | (simp [aU, aV] <;> rfl) | (simp [*, aU, aV] <;> rfl), by (repeat with_reducible refine Kd.kQ ?_); exact Kd.bZ (Kd.cu (p := ⟨aI, 8, none⟩) (Kd.cu (p := ⟨aI, 7, none⟩) (Kd.cu (p := ⟨aI, 6, none⟩) (Kd.cu (p := ⟨aI, 5, none⟩) (Kd.cu (p := ⟨aI, 4, none⟩) (Kd.cu (p := ⟨aI, 3, none⟩) (Kd.cu (p := ⟨aI, 2, none⟩) (Kd.cu (p := ⟨aI, 1, none⟩) (Kd.cu (p := ⟨aI, 0, none⟩) (Kd.iH iQ.out aJ.out (by decide)) (fun _ hk => hk.2) (.int .i64 cO)) (fun _ hk => hk.2) (.int .u64 dF)) (fun _ hk => hk.2) (.int .u64 jL)) (fun _ hk => hk.2) (.int .u64 t105)) (fun _ hk => hk.2) (.int .u64 dM)) (fun _ hk => hk.2) (.slice Jr fQ.length Js)) (fun _ hk => hk.2) (.slice NM t109.length Cm)) (fun _ hk => hk.2) (.slice Gf mM.length Gg)) (fun _ hk => hk.2) (.slice P9 qg.length LM)) (fun _ hk => hk.1.2), by (repeat with_reducible refine Kd.kQ ?_); exact Kd.bZ (Kd.cu (p := ⟨aI, 8, none⟩) (Kd.cu (p := ⟨aI, 7, none⟩) (Kd.cu (p := ⟨aI, 6, none⟩) (Kd.cu (p := ⟨aI, 5, none⟩) (Kd.cu (p := ⟨aI, 4, none⟩) (Kd.cu (p := ⟨aI, 3, none⟩) (Kd.cu (p := ⟨aI, 2, none⟩) (Kd.cu (p := ⟨aI, 1, none⟩) (Kd.cu (p := ⟨aI, 0, none⟩) (Kd.iH eu.out aJ.out (by decide)) (fun _ hk => hk.2) (.int .i64 cO)) (fun _ hk => hk.2) (.int .u64 dF)) (fun _ hk => hk.2) (.int .u64 jL)) (fun _ hk => hk.2) (.int .u64 t105)) (fun _ hk => hk.2) (.int .u64 dM)) (fun _ hk => hk.2) (.slice Jr fQ.length Js)) (fun _ hk => hk.2) (.slice NM t109.length Cm)) (fun _ hk => hk.2) (.slice Gf mM.length Gg)) (fun _ hk => hk.2) (.slice P9 qg.length LM)) (fun _ hk => hk.1.2), by (repeat with_reducible refine Kd.kQ ?_); exact Kd.bZ (Kd.cu (p := ⟨aI, 8, none⟩) (Kd.cu (p := ⟨aI, 7, none⟩) (Kd.cu (p := ⟨aI, 6, none⟩) (Kd.cu (p := ⟨aI, 5, none⟩) (Kd.cu (p := ⟨aI, 4, none⟩) (Kd.cu (p := ⟨aI, 3, none⟩) (Kd.cu (p := ⟨aI, 2, none⟩) (Kd.cu (p := ⟨aI, 1, none⟩) (Kd.cu (p := ⟨aI, 0, none⟩) (Kd.iH zi.out aJ.out (by decide)) (fun _ hk => hk.2) (.int .i64 cO)) (fun _ hk => hk.2) (.int .u64 dF)) (fun _ hk => hk.2) (.int .u64 jL)) (fun _ hk => hk.2) (.int .u64 t105)) (fun _ hk => hk.2) (.int .u64 dM)) (fun _ hk => hk.2) (.slice Jr fQ.length Js)) (fun _ hk => hk.2) (.slice NM t109.length Cm)) (fun _ hk => hk.2) (.slice Gf mM.length Gg)) (fun _ hk => hk.2) (.slice P9 qg.length LM)) (fun _ hk => hk.1.2), by (repeat with_reducible refine Kd.kQ ?_); exact Kd.bZ (Kd.cu (p := ⟨aI, 8, none⟩) (Kd.cu (p := ⟨aI, 7, none⟩) (Kd.cu (p := ⟨aI, 6, none⟩) (Kd.cu (p := ⟨aI, 5, none⟩) (Kd.cu (p := ⟨aI, 4, none⟩) (Kd.cu (p := ⟨aI, 3, none⟩) (Kd.cu (p := ⟨aI, 2, none⟩) (Kd.cu (p := ⟨aI, 1, none⟩) (Kd.cu (p := ⟨aI, 0, none⟩) (Kd.iH VP.out aJ.out (by decide)) (fun _ hk => hk.2) (.int .i64 cO)) (fun _ hk => hk.2) (.int .u64 dF)) (fun _ hk => hk.2) (.int .u64 jL)) (fun _ hk => hk.2) (.int .u64 t105)) (fun _ hk => hk.2) (.int .u64 dM)) (fun _ hk => hk.2) (.slice Jr fQ.length Js)) (fun _ hk => hk.2) (.slice NM t109.length Cm)) (fun _ hk => hk.2) (.slice Gf mM.length Gg)) (fun _ hk => hk.2) (.slice P9 qg.length LM)) (fun _ hk => hk.1.2), by repeat (first | (with_reducible first | exact HB.out | apply ak | apply ay | apply aH | refine aA ?_ dH.out | refine aA ?_ bU.out) | exact HB.out)⟩
 rw [if_neg c3] at H
 have c3b0 : (dZ == 0) = false := beq_eq_false_iff_ne.mpr c3
 have c3b1 : (dZ != 0) = true := bne_iff_ne.mpr c3
 simp only [Option.some.injEq, Prod.mk.injEq] at H
 obtain ⟨rfl, rfl, rfl, rfl, rfl, rfl, rfl, rfl, rfl, rfl⟩ := H
 go_enter Try.func74, Try.ntmps74
 go_wp2_with (first | ((with_reducible refine fK (N := 1) rfl ?_); refine fA ?hg (N := 1) ?hd (cs := #[.int .i64 cO, .int .u64 dF, .int .u64 dO, .int .u64 dP, .int .u64 dM, .slice iO dJ.length iP, .slice iJ dG.length iK, .slice iw dB.length iy, .slice iD dA.length iE]) (t := 29) ?hr ?_; (case hd => rfl); (case hg => rfl); (case hr => first | (go_simp; done) | (go_simp; rfl)); intro bV hg w33 hbox hb; have aN := ah (hbox); have xY := ah ((by rw [hg]; exact (aQ (bg HB.out)) : w.heap.size ≤ bV)); have dH := ah ((by rw [hg]; exact (aQ (bg HB.out)) : w.heap.size ≤ bV)); replace HB := ah (aZ (bg HB.out) hb); clear hb hbox hg) | ((with_reducible refine fK (N := 2) rfl ?_); refine fA ?hg (N := 2) ?hd (cs := #[.int .i64 0, .int .u64 0, .int .u64 0, .int .u64 0, .int .u64 0, .slice none 0 0, .slice none 0 0, .slice none 0 0, .slice none 0 0]) (t := 55) ?hr ?_; (case hd => rfl); (case hg => rfl); (case hr => first | (go_simp; done) | (go_simp; rfl)); intro aI hg w34 hbox hb; have aJ := ah (hbox); have oN := ah ((by rw [hg]; exact (aQ (by repeat (first | (with_reducible first | exact HB.out | apply ak | apply ay | apply aH | refine aA ?_ dH.out) | exact HB.out))) : w.heap.size ≤ aI)); have bU := ah ((by rw [hg]; exact (aQ (by repeat (first | (with_reducible first | exact HB.out | apply ak | apply ay | apply aH | refine aA ?_ dH.out) | exact HB.out))) : w.heap.size ≤ aI)); have aT := ah ((by rw [hg]; exact Nat.ne_of_lt (jX (g := bV) (o := .cells #[.int .i64 cO, .int .u64 dF, .int .u64 dO, .int .u64 dP, .int .u64 dM, .slice iO dJ.length iP, .slice iJ dG.length iK, .slice iw dB.length iy, .slice iD dA.length iE] 29 (0, 0)) (jJ aN.out)) : bV ≠ aI)); have fB := ah ((by rw [hg]; exact Nat.ne_of_gt (jX (g := bV) (o := .cells #[.int .i64 cO, .int .u64 dF, .int .u64 dO, .int .u64 dP, .int .u64 dM, .slice iO dJ.length iP, .slice iJ dG.length iK, .slice iw dB.length iy, .slice iD dA.length iE] 29 (0, 0)) (jJ aN.out)) : aI ≠ bV)); replace aN := ah (eH aN.out hb); replace HB := ah (aZ (by repeat (first | (with_reducible first | exact HB.out | apply ak | apply ay | apply aH | refine aA ?_ dH.out) | exact HB.out)) hb); clear hb hbox hg; have aeO := aT.out; have aeP := fB.out; have abk := au aN.out; have abl := aC aN.out) | ((with_reducible refine bP (f := 31) rfl ?_); refine lG (some 6) rfl rfl Try.func31 (by kernel_rfl) rfl #[.agg #[.int .i64 cO, .int .u64 dF, .int .u64 dO, .int .u64 dP, .int .u64 dM, .slice iO dJ.length iP, .slice iJ dG.length iK, .slice iw dB.length iy, .slice iD dA.length iE]] rfl (by (try simp only [List.map_toArray, List.map_cons, List.map_nil]); first | done | rfl | (simp only [List.length_drop, List.length_take]; rfl)) ?_; (with_reducible refine (hist_Check.calls cO dF dO dP dM _ _ dJ _ _ dG _ _ dB _ _ dA dZ _ ?dK ?dL ?kC ?kD ?pR ?pU ?pV ?pW A2.out).mono ?_); (case dK => exact Kd.jV (Kd.bT nX.out HB.out)); (case dL => exact nY.out); (case kC => exact Kd.jV (Kd.bT oW.out HB.out)); (case kD => exact oZ.out); (case pR => exact Kd.jV (Kd.bT pK.out HB.out)); (case pU => exact pO.out); (case pV => exact Kd.jV (Kd.bT qm.out HB.out)); (case pW => exact qo.out); rintro e w37 ⟨rfl, hb⟩; refine ⟨_, rfl, ?_⟩; replace aN := ah (eH aN.out hb); replace aJ := ah (eH aJ.out hb); replace HB := ah (aZ (by repeat (first | (with_reducible first | exact HB.out | apply ak | apply ay | apply aH | refine aA ?_ dH.out | refine aA ?_ bU.out) | exact HB.out)) hb); (try clear hb); (try clear hb2); (try clear hk); (try clear hi); clear A2; have abm := au aJ.out; have abn := aC aJ.out))
 refine bodyPost_ret (gu rfl _ _ aI 55 #[.int .i64 0, .int .u64 0, .int .u64 0, .int .u64 0, .int .u64 0, .slice none 0 0, .slice none 0 0, .slice none 0 0, .slice none 0 0] (0, 0) _ rfl (by (repeat with_reducible refine bQ ?_); refine bC (cs := #[.int .i64 0, .int .u64 0, .int .u64 0, .int .u64 0, .int .u64 0, .slice none 0 0, .slice none 0 0, .slice none 0 0, .slice none 0 0]) ?_ 8 _ rfl; (repeat with_reducible refine bQ ?_); refine bC (cs := #[.int .i64 0, .int .u64 0, .int .u64 0, .int .u64 0, .int .u64 0, .slice none 0 0, .slice none 0 0, .slice none 0 0, .slice none 0 0]) ?_ 7 _ rfl; (repeat with_reducible refine bQ ?_); refine bC (cs := #[.int .i64 0, .int .u64 0, .int .u64 0, .int .u64 0, .int .u64 0, .slice none 0 0, .slice none 0 0, .slice none 0 0, .slice none 0 0]) ?_ 6 _ rfl; (repeat with_reducible refine bQ ?_); refine bC (cs := #[.int .i64 0, .int .u64 0, .int .u64 0, .int .u64 0, .int .u64 0, .slice none 0 0, .slice none 0 0, .slice none 0 0, .slice none 0 0]) ?_ 5 _ rfl; (repeat with_reducible refine bQ ?_); refine bC (cs := #[.int .i64 0, .int .u64 0, .int .u64 0, .int .u64 0, .int .u64 0, .slice none 0 0, .slice none 0 0, .slice none 0 0, .slice none 0 0]) ?_ 4 _ rfl; (repeat with_reducible refine bQ ?_); refine bC (cs := #[.int .i64 0, .int .u64 0, .int .u64 0, .int .u64 0, .int .u64 0, .slice none 0 0, .slice none 0 0, .slice none 0 0, .slice none 0 0]) ?_ 3 _ rfl; (repeat with_reducible refine bQ ?_); refine bC (cs := #[.int .i64 0, .int .u64 0, .int .u64 0, .int .u64 0, .int .u64 0, .slice none 0 0, .slice none 0 0, .slice none 0 0, .slice none 0 0]) ?_ 2 _ rfl; (repeat with_reducible refine bQ ?_); refine bC (cs := #[.int .i64 0, .int .u64 0, .int .u64 0, .int .u64 0, .int .u64 0, .slice none 0 0, .slice none 0 0, .slice none 0 0, .slice none 0 0]) ?_ 1 _ rfl; (repeat with_reducible refine bQ ?_); refine bC (cs := #[.int .i64 0, .int .u64 0, .int .u64 0, .int .u64 0, .int .u64 0, .slice none 0 0, .slice none 0 0, .slice none 0 0, .slice none 0 0]) ?_ 0 _ rfl; (repeat with_reducible refine bQ ?_); exact aJ.out) Try.underlying55 rfl (by kernel_rfl)) rfl ?_
 exact ⟨_, _, _, _, by first | rfl | (simp [aU, aV] <;> rfl) | (simp [*, aU, aV] <;> rfl), by first | exact Kd.eY _ _ _ _ _ | exact Kd.ig _ _ _ _ _ | exact Kd.iq _ _ _ _ _ | exact Kd.gY _ _ _ _ _ | exact Kd.gZ _ _ _ _ _, by first | exact Kd.eY _ _ _ _ _ | exact Kd.ig _ _ _ _ _ | exact Kd.iq _ _ _ _ _ | exact Kd.gY _ _ _ _ _ | exact Kd.gZ _ _ _ _ _, by first | exact Kd.eY _ _ _ _ _ | exact Kd.ig _ _ _ _ _ | exact Kd.iq _ _ _ _ _ | exact Kd.gY _ _ _ _ _ | exact Kd.gZ _ _ _ _ _, by first | exact Kd.eY _ _ _ _ _ | exact Kd.ig _ _ _ _ _ | exact Kd.iq _ _ _ _ _ | exact Kd.gY _ _ _ _ _ | exact Kd.gZ _ _ _ _ _, by repeat (first | (with_reducible first | exact HB.out | apply ak | apply ay | apply aH | refine aA ?_ dH.out | refine aA ?_ bU.out) | exact HB.out)⟩
end Go.Proofs.Ytooiccpmngmapaa.P
namespace Go.Proofs.Ytooiccpmngmapaa.P
open Go.RowKit Go.Shelf Go.Proofs.YtooiccpmngmapaaW.PrintWords Go.Proofs.YtooiccpmngmapaaW.PrintLast Go.Proofs.YtooiccpmngmapaaW.PrintMore
theorem HI.ZJ {w : World} {h : Hi} {x0 x1 x2 x3 x4 v5 v6 v7 v8 : Value} (hv : HI w (.agg #[x0, x1, x2, x3, x4, v5, v6, v7, v8]) h) : SI kSp w v5 h.f5 ∧ SI (Kd.int .i64) w v7 h.f7 := by
 obtain ⟨u5, u6, u7, u8, e, h5, h6, h7, h8⟩ := hv
 injection e with e
 have e5 := congrArg (fun a : Array Value => a.getD 5 undef) e
 have e7 := congrArg (fun a : Array Value => a.getD 7 undef) e
 simp at e5 e7
 rw [e5, e7]
 exact ⟨h5, h7⟩
def sZ : Hi := ⟨1, 0, 0, 5, 0, [⟨3, 3⟩], [], [1, -1, 4], []⟩
def VQ : Hi := ⟨0, 0, 0, 5, 0, [⟨2, 2⟩], [], [1, 3], []⟩
theorem Xo : CB sZ 0 = (VQ, 0) := by kernel_rfl
def Xp : Hi := ⟨0, 0, 0, 0, 0, [], [], [], []⟩
theorem Xq : CB sZ 2 = (Xp, 21) := by kernel_rfl
theorem Xr : qM sZ = 0 := by kernel_rfl
theorem Bl : Ql sZ := by unfold Ql; decide
theorem Bo (w : World) : Calls Try.prog 73 #[] w fun e w' => ∃ Hy Hz H9 Ia Ib Ic Ie Ig, e = .returned (.agg #[.int .i64 1, .int .u64 0, .int .u64 0, .int .u64 5, .int .u64 0, .slice Hy 1 Hz, .slice H9 0 Ia, .slice Ib 3 Ic, .slice Ie 0 Ig]) ∧ HI w' (.agg #[.int .i64 1, .int .u64 0, .int .u64 0, .int .u64 5, .int .u64 0, .slice Hy 1 Hz, .slice H9 0 Ia, .slice Ib 3 Ic, .slice Ie 0 Ig]) sZ ∧ Below w.heap.size w w' := by
 refine (tidepolelaw25_one.calls 1 0 0 5 0 [⟨3, 3⟩] [] [1, -1, 4] [] w (by kernel_rfl)).mono ?_
 rintro e w1 ⟨v5, v6, v7, v8, rfl, h5, h6, h7, h8, hb⟩
 have hi : HI w1 (.agg #[.int .i64 1, .int .u64 0, .int .u64 0, .int .u64 5, .int .u64 0, v5, v6, v7, v8]) sZ := ⟨v5, v6, v7, v8, rfl, .rC h5, .rC h6, .rC h7, .rC h8⟩
 obtain ⟨a5, c5, a6, c6, a7, c7, a8, c8, e, -⟩ := hi.open_
 rw [e] at hi ⊢
 exact ⟨a5, c5, a6, c6, a7, c7, a8, c8, rfl, hi, hb⟩
theorem SC (w : World) (v : Value) (hv : HI w v sZ) : Calls Try.prog 27 #[v, .int .i64 0] w fun e w' => ∃ Xt hc5 Xu hc6 Xv TP Xw hc8, e = .returned (.tuple #[.agg #[.int .i64 0, .int .u64 0, .int .u64 0, .int .u64 5, .int .u64 0, .slice Xt 1 hc5, .slice Xu 0 hc6, .slice Xv 2 TP, .slice Xw 0 hc8], .int .i64 0]) ∧ HI w' (.agg #[.int .i64 0, .int .u64 0, .int .u64 0, .int .u64 5, .int .u64 0, .slice Xt 1 hc5, .slice Xu 0 hc6, .slice Xv 2 TP, .slice Xw 0 hc8]) VQ ∧ Below w.heap.size w w' := by
 have hc := EY sZ Bl 0 (by decide) w v hv
 rw [Xo] at hc
 refine hc.mono ?_
 rintro e w1 ⟨v', rfl, hh, hb⟩
 have hi := hh.now
 obtain ⟨a5, c5, a6, c6, a7, c7, a8, c8, e, -⟩ := hi.open_
 subst e
 exact ⟨a5, c5, a6, c6, a7, c7, a8, c8, rfl, hi, hb⟩
theorem SE (w : World) (v : Value) (hv : HI w v sZ) : Calls Try.prog 27 #[v, .int .i64 2] w fun e w' => ∃ yA5 yc5 yA6 yc6 yA7 yc7 yA8 yc8, e = .returned (.tuple #[.agg #[.int .i64 0, .int .u64 0, .int .u64 0, .int .u64 0, .int .u64 0, .slice yA5 0 yc5, .slice yA6 0 yc6, .slice yA7 0 yc7, .slice yA8 0 yc8], .int .i64 21]) ∧ Below w.heap.size w w' := by
 have hc := EY sZ Bl 2 (by decide) w v hv
 rw [Xq] at hc
 refine hc.mono ?_
 rintro e w1 ⟨v', rfl, hh, hb⟩
 have hi := hh.now
 obtain ⟨a5, c5, a6, c6, a7, c7, a8, c8, e, -⟩ := hi.open_
 subst e
 exact ⟨a5, c5, a6, c6, a7, c7, a8, c8, rfl, hb⟩
theorem NP (w : World) (Hy H9 Ib Ie : Option Addr) (Hz Ia Ic Ig : Nat) : Calls Try.prog 76 #[.int .i64 7, .agg #[.int .i64 1, .int .u64 0, .int .u64 0, .int .u64 5, .int .u64 0, .slice Hy 1 Hz, .slice H9 0 Ia, .slice Ib 3 Ic, .slice Ie 0 Ig]] w fun e w' => e = .returned (.agg #[.int .i64 7, .int .i64 0, .int .i64 1, .int .u64 0, .int .u64 0, .int .u64 5, .int .u64 0, .slice Hy 1 Hz, .slice H9 0 Ia, .slice Ib 3 Ic, .slice Ie 0 Ig, .int .i64 0, .int .u64 0, .int .u64 0, .int .u64 0, .int .u64 0, .slice none 0 0, .slice none 0 0, .slice none 0 0, .slice none 0 0]) ∧ Below w.heap.size w w' :=
 Bf w 7 #[.int .i64 1, .int .u64 0, .int .u64 0, .int .u64 5, .int .u64 0, .slice Hy 1 Hz, .slice H9 0 Ia, .slice Ib 3 Ic, .slice Ie 0 Ig] #[.int .i64 7, .int .i64 0, .int .i64 1, .int .u64 0, .int .u64 0, .int .u64 5, .int .u64 0, .slice Hy 1 Hz, .slice H9 0 Ia, .slice Ib 3 Ic, .slice Ie 0 Ig, .int .i64 0, .int .u64 0, .int .u64 0, .int .u64 0, .int .u64 0, .slice none 0 0, .slice none 0 0, .slice none 0 0, .slice none 0 0] (by kernel_rfl) rfl (by kernel_rfl) rfl
theorem VR (Hy H9 Ib Ie : Option Addr) (Hz Ia Ic Ig : Nat) : ∀ j v, (#[.int .i64 1, .int .u64 0, .int .u64 0, .int .u64 5, .int .u64 0, .slice Hy 1 Hz, .slice H9 0 Ia, .slice Ib 3 Ic, .slice Ie 0 Ig] : Array Value)[j]? = some v → (#[.int .i64 7, .int .i64 0, .int .i64 1, .int .u64 0, .int .u64 0, .int .u64 5, .int .u64 0, .slice Hy 1 Hz, .slice H9 0 Ia, .slice Ib 3 Ic, .slice Ie 0 Ig, .int .i64 0, .int .u64 0, .int .u64 0, .int .u64 0, .int .u64 0, .slice none 0 0, .slice none 0 0, .slice none 0 0, .slice none 0 0] : Array Value)[2 + j]? = some v := by
 intro j v h
 match j, h with
 | 0, h => exact h
 | 1, h => exact h
 | 2, h => exact h
 | 3, h => exact h
 | 4, h => exact h
 | 5, h => exact h
 | 6, h => exact h
 | 7, h => exact h
 | 8, h => exact h
 | n + 9, h => simp at h
def ZK : Hi := ⟨-4, 0, 0, 5, 0, [⟨1, 1⟩], [], [5], []⟩
theorem Xx : CB sZ (-4) = (ZK, 0) := by kernel_rfl
theorem NQ (w : World) (Hy H9 Ib Ie : Option Addr) (Hz Ia Ic Ig : Nat) (hv : HI w (.agg #[.int .i64 1, .int .u64 0, .int .u64 0, .int .u64 5, .int .u64 0, .slice Hy 1 Hz, .slice H9 0 Ia, .slice Ib 3 Ic, .slice Ie 0 Ig]) sZ) : Calls Try.prog 75 #[.agg #[.int .i64 7, .int .i64 0, .int .i64 1, .int .u64 0, .int .u64 0, .int .u64 5, .int .u64 0, .slice Hy 1 Hz, .slice H9 0 Ia, .slice Ib 3 Ic, .slice Ie 0 Ig, .int .i64 0, .int .u64 0, .int .u64 0, .int .u64 0, .int .u64 0, .slice none 0 0, .slice none 0 0, .slice none 0 0, .slice none 0 0], .int .i64 (-4)] w fun e w' => ∃ (S2 : Array Value) (Yy : Option Addr) (Yz : Nat), e = .returned (.tuple #[.agg S2, .int .i64 0]) ∧ S2.size = 20 ∧ S2.all (·.oneCell') = true ∧ S2[0]? = some (.int .i64 7) ∧ S2[9]? = some (.slice Yy 1 Yz) ∧ Below w.heap.size w w' := by
 refine (Gq w #[.int .i64 7, .int .i64 0, .int .i64 1, .int .u64 0, .int .u64 0, .int .u64 5, .int .u64 0, .slice Hy 1 Hz, .slice H9 0 Ia, .slice Ib 3 Ic, .slice Ie 0 Ig, .int .i64 0, .int .u64 0, .int .u64 0, .int .u64 0, .int .u64 0, .slice none 0 0, .slice none 0 0, .slice none 0 0, .slice none 0 0] #[.int .i64 1, .int .u64 0, .int .u64 0, .int .u64 5, .int .u64 0, .slice Hy 1 Hz, .slice H9 0 Ia, .slice Ib 3 Ic, .slice Ie 0 Ig] 7 (-4) (fun S2 _ => ∃ (Yy : Option Addr) (Yz : Nat), S2.size = 20 ∧ S2.all (·.oneCell') = true ∧ S2[0]? = some (.int .i64 7) ∧ S2[9]? = some (.slice Yy 1 Yz)) (fun _ _ _ h _ _ => h) rfl rfl (VR Hy H9 Ib Ie Hz Ia Ic Ig) rfl rfl ?_ ?_).mono ?_
 ·intro W hb
  refine Gp W #[.int .i64 7, .int .i64 0, .int .i64 1, .int .u64 0, .int .u64 0, .int .u64 5, .int .u64 0, .slice Hy 1 Hz, .slice H9 0 Ia, .slice Ib 3 Ic, .slice Ie 0 Ig, .int .i64 0, .int .u64 0, .int .u64 0, .int .u64 0, .int .u64 0, .slice none 0 0, .slice none 0 0, .slice none 0 0, .slice none 0 0] #[.int .i64 1, .int .u64 0, .int .u64 0, .int .u64 5, .int .u64 0, .slice Hy 1 Hz, .slice H9 0 Ia, .slice Ib 3 Ic, .slice Ie 0 Ig] 0 rfl (VR Hy H9 Ib Ie Hz Ia Ic Ig) rfl ?_
  intro W' hb'
  have HC := OE sZ Bl _ _ ((hv.below hb).below hb')
  rw [Xr] at HC
  exact HC
 ·intro W hb
  have hv1 := hv.below hb
  have hc := EY sZ Bl (-4) (by decide) W _ hv1
  rw [Xx] at hc
  refine hc.mono ?_
  rintro e w1 ⟨v', rfl, hh, hb⟩
  obtain ⟨a5, d5, a6, d6, a7, d7, a8, d8, e, -⟩ := hh.now.open_
  subst e
  exact ⟨_, #[.int .i64 7, .int .i64 0, .int .i64 (-4), .int .u64 0, .int .u64 0, .int .u64 5, .int .u64 0, .slice a5 1 d5, .slice a6 0 d6, .slice a7 1 d7, .slice a8 0 d8, .int .i64 0, .int .u64 0, .int .u64 0, .int .u64 0, .int .u64 0, .slice none 0 0, .slice none 0 0, .slice none 0 0, .slice none 0 0], rfl, rfl, by kernel_rfl, by kernel_rfl, rfl, by kernel_rfl, ⟨_, _, rfl, by kernel_rfl, rfl, rfl⟩, hb⟩
 ·rintro e w1 ⟨S2, rfl, ⟨Yy, Yz, q1, q2, q3, q4⟩, hb⟩
  exact ⟨S2, Yy, Yz, rfl, q1, q2, q3, q4, hb⟩
theorem Qa (w : World) : Calls Try.prog 77 #[.int .i64 3, .int .i64 1] w fun e w' => e = .returned (.int .i64 2) ∧ Below w.heap.size w w' :=
 (scale_Place.calls 2 3 1 2 w (by kernel_rfl)).mono fun e w1 h => ⟨h.1, h.2.below⟩
theorem Qb (w : World) : Calls Try.prog 77 #[.int .i64 (-3), .int .i64 1] w fun e w' => e = .returned (.int .i64 (-1)) ∧ Below w.heap.size w w' :=
 (scale_Place.calls 2 (-3) 1 (-1) w (by kernel_rfl)).mono fun e w1 h => ⟨h.1, h.2.below⟩
def CP : Fh := ⟨1, 0, 0, 4617315517961601024, 0, [⟨3, 3⟩], [], [4607182418800017408, 0, 4616189618054758400], []⟩
def SG : Fh := ⟨0, 0, 0, 4617315517961601024, 0, [⟨2, 2⟩], [], [4607182418800017408, 4616189618054758400], []⟩
theorem Xy : fhist_From.f 1 0 0 5 0 [⟨3, 3⟩] [] [1, -1, 4] [] = some (1, 0, 0, 4617315517961601024, 0, [⟨3, 3⟩], [], [4607182418800017408, 0, 4616189618054758400], [], 0) := by kernel_rfl
theorem Xz : mG CP 0 = (SG, 0) := by kernel_rfl
theorem Qc : EZ CP := by unfold EZ; decide
theorem XA : scale_Fit.f 40 1 0 0 5 0 [⟨3, 3⟩] [] [1, -1, 4] [] 1 = some (-2, 0) := by kernel_rfl
theorem SH (w : World) (v : Value) (hv : HI w v sZ) : Calls Try.prog 74 #[v] w fun e w' => ∃ XB XC XD XE XF XG XH XI, e = .returned (.tuple #[.agg #[.int .i64 1, .int .u64 0, .int .u64 0, .int .u64 4617315517961601024, .int .u64 0, .slice XB 1 XC, .slice XD 0 XE, .slice XF 3 XG, .slice XH 0 XI], .int .i64 0]) ∧ GI w' (.agg #[.int .i64 1, .int .u64 0, .int .u64 0, .int .u64 4617315517961601024, .int .u64 0, .slice XB 1 XC, .slice XD 0 XE, .slice XF 3 XG, .slice XH 0 XI]) CP ∧ Below w.heap.size w w' := by
 obtain ⟨A5, c5, A6, c6, A7, c7, A8, c8, rfl, ⟨_, _, e5, KG, KH⟩, ⟨_, _, e6, KI, KJ⟩, ⟨_, _, e7, KL, h72⟩, ⟨_, _, e8, KO, KP⟩⟩ := hv.open_
 cases e5; cases e6; cases e7; cases e8
 refine (fhist_From.calls 1 0 0 5 0 A5 c5 _ A6 c6 _ A7 c7 _ A8 c8 _ _ _ _ _ _ _ _ _ _ _ w KH KG KJ KI h72 KL KP KO Xy).mono ?_
 rintro e w1 ⟨v5, v6, v7, v8, rfl, h5, h6, h7, h8, hb⟩
 have hi : GI w1 (.agg #[.int .i64 1, .int .u64 0, .int .u64 0, .int .u64 4617315517961601024, .int .u64 0, v5, v6, v7, v8]) CP := ⟨v5, v6, v7, v8, rfl, .rC h5, .rC h6, .rC h7, .rC h8⟩
 obtain ⟨a5, c5, a6, c6, a7, c7, a8, c8, e, -⟩ := hi.open_
 rw [e] at hi ⊢
 exact ⟨a5, c5, a6, c6, a7, c7, a8, c8, rfl, hi, hb⟩
theorem NR (w : World) (v : Value) (hv : GI w v CP) : Calls Try.prog 33 #[v, .int .i64 0] w fun e w' => ∃ XJ XK XL XM XO XP xA8 XQ, e = .returned (.tuple #[.agg #[.int .i64 0, .int .u64 0, .int .u64 0, .int .u64 4617315517961601024, .int .u64 0, .slice XJ 1 XK, .slice XL 0 XM, .slice XO 2 XP, .slice xA8 0 XQ], .int .i64 0]) ∧ GI w' (.agg #[.int .i64 0, .int .u64 0, .int .u64 0, .int .u64 4617315517961601024, .int .u64 0, .slice XJ 1 XK, .slice XL 0 XM, .slice XO 2 XP, .slice xA8 0 XQ]) SG ∧ Below w.heap.size w w' := by
 have hc := LG CP Qc 0 (by decide) w v hv
 rw [Xz] at hc
 refine hc.mono ?_
 rintro e w1 ⟨v', rfl, hh, hb⟩
 have hi := hh.now
 obtain ⟨a5, c5, a6, c6, a7, c7, a8, c8, e, -⟩ := hi.open_
 subst e
 exact ⟨a5, c5, a6, c6, a7, c7, a8, c8, rfl, hi, hb⟩
theorem U6 (w : World) (v : Value) (hv : HI w v sZ) : Calls Try.prog 38 #[v, .int .i64 1] w fun e w' => e = .returned (.tuple #[.int .i64 (-2), .int .i64 0]) ∧ Below w.heap.size w w' := by
 obtain ⟨A5, c5, A6, c6, A7, c7, A8, c8, rfl, ⟨_, _, e5, KG, KH⟩, ⟨_, _, e6, KI, KJ⟩, ⟨_, _, e7, KL, h72⟩, ⟨_, _, e8, KO, KP⟩⟩ := hv.open_
 cases e5; cases e6; cases e7; cases e8
 exact scale_Fit.calls 40 1 0 0 5 0 A5 c5 _ A6 c6 _ A7 c7 _ A8 c8 _ 1 _ _ w KH KG KJ KI h72 KL KP KO XA
set_option maxHeartbeats 16000000 in
set_option maxRecDepth 100000 in
theorem CQ (w : World) : Calls Try.prog 26 #[] w fun e w' => e = .returned (.bool true) ∧ Below w.heap.size w w' := by
 have hu := Try.underlying29
 have hus := Try.underlying108
 have huf := Try.underlying55
 have hup := Try.underlying113
 go_enter Try.func26, Try.ntmps26
 go_wp2_with fail
 refine (Bo w).mono ?_
 rintro e w1 ⟨Hy, Hz, H9, Ia, Ib, Ic, Ie, Ig, rfl, hh, hb⟩
 have B := ah hb
 have O := ah hh
 clear hb hh
 go_wp2_with fail
 refine (SC _ _ O.out).mono ?_
 rintro e w2 ⟨Xt, hc5, Xu, hc6, Xv, TP, Xw, hc8, rfl, hh, hb⟩
 replace B := ah (aG B.out B.out.size hb)
 replace O := ah (O.out.below hb)
 have Hh := ah hh
 clear hb hh
 go_wp2_with fail
 refine (Bo _).mono ?_
 rintro e w3 ⟨pA5, pc5, pA6, pc6, pA7, pc7, pA8, pc8, rfl, hh, hb⟩
 have hb0 := hb
 have hb := aG (ak (Below.refl w2.heap.size w2) (.cells #[.int .i64 0, .int .u64 0, .int .u64 0, .int .u64 5, .int .u64 0, .slice Xt 1 hc5, .slice Xu 0 hc6, .slice Xv 2 TP, .slice Xw 0 hc8] 29)) ((ak (Below.refl w2.heap.size w2) (.cells #[.int .i64 0, .int .u64 0, .int .u64 0, .int .u64 5, .int .u64 0, .slice Xt 1 hc5, .slice Xu 0 hc6, .slice Xv 2 TP, .slice Xw 0 hc8] 29))).size hb
 replace B := ah (aG B.out B.out.size hb)
 replace O := ah (O.out.below hb)
 replace Hh := ah (Hh.out.below hb)
 have T1 := ah (show rD w3 w2.heap.size #[.int .i64 0, .int .u64 0, .int .u64 0, .int .u64 5, .int .u64 0, .slice Xt 1 hc5, .slice Xu 0 hc6, .slice Xv 2 TP, .slice Xw 0 hc8] 29 from (rD.new w2 #[.int .i64 0, .int .u64 0, .int .u64 0, .int .u64 5, .int .u64 0, .slice Xt 1 hc5, .slice Xu 0 hc6, .slice Xv 2 TP, .slice Xw 0 hc8] 29).below hb0)
 have ht1 := fun i => T1.out.cell i
 have P := ah hh
 clear hb hb0 hh
 go_wp2_with fail
 refine (SH _ _ P.out).mono ?_
 rintro e w4 ⟨XB, XC, XD, XE, XF, XG, XH, XI, rfl, hh, hb⟩
 replace B := ah (aG B.out B.out.size hb)
 replace O := ah (O.out.below hb)
 replace Hh := ah (Hh.out.below hb)
 replace P := ah (P.out.below hb)
 replace T1 := ah (T1.out.below hb)
 replace ht1 := fun i => T1.out.cell i
 have Ff := ah hh
 clear hb hh
 have ht3 := fun i => (rD.new w4 #[.int .i64 1, .int .u64 0, .int .u64 0, .int .u64 4617315517961601024, .int .u64 0, .slice XB 1 XC, .slice XD 0 XE, .slice XF 3 XG, .slice XH 0 XI] 55).cell i
 go_wp2_with fail
 refine (NR _ _ (Ff.out.below (ak (Below.refl w4.heap.size w4) (.cells #[.int .i64 1, .int .u64 0, .int .u64 0, .int .u64 4617315517961601024, .int .u64 0, .slice XB 1 XC, .slice XD 0 XE, .slice XF 3 XG, .slice XH 0 XI] 55)))).mono ?_
 rintro e w5 ⟨XJ, XK, XL, XM, XO, XP, xA8, XQ, rfl, hh, hb⟩
 have hb0 := hb
 have hb := aG (ak (Below.refl w4.heap.size w4) (.cells #[.int .i64 1, .int .u64 0, .int .u64 0, .int .u64 4617315517961601024, .int .u64 0, .slice XB 1 XC, .slice XD 0 XE, .slice XF 3 XG, .slice XH 0 XI] 55)) ((ak (Below.refl w4.heap.size w4) (.cells #[.int .i64 1, .int .u64 0, .int .u64 0, .int .u64 4617315517961601024, .int .u64 0, .slice XB 1 XC, .slice XD 0 XE, .slice XF 3 XG, .slice XH 0 XI] 55))).size hb
 replace B := ah (aG B.out B.out.size hb)
 replace O := ah (O.out.below hb)
 replace Hh := ah (Hh.out.below hb)
 replace P := ah (P.out.below hb)
 replace Ff := ah (Ff.out.below hb)
 replace T1 := ah (T1.out.below hb)
 replace ht1 := fun i => T1.out.cell i
 clear hb hb0
 clear hh ht3
 go_wp2_with fail
 refine (Bo _).mono ?_
 rintro e w6 ⟨qA5, qc5, qA6, qc6, qA7, qc7, qA8, qc8, rfl, hh, hb⟩
 have hb0 := hb
 have hb := aG (ak (Below.refl w5.heap.size w5) (.cells #[.int .i64 0, .int .u64 0, .int .u64 0, .int .u64 4617315517961601024, .int .u64 0, .slice XJ 1 XK, .slice XL 0 XM, .slice XO 2 XP, .slice xA8 0 XQ] 55)) ((ak (Below.refl w5.heap.size w5) (.cells #[.int .i64 0, .int .u64 0, .int .u64 0, .int .u64 4617315517961601024, .int .u64 0, .slice XJ 1 XK, .slice XL 0 XM, .slice XO 2 XP, .slice xA8 0 XQ] 55))).size hb
 replace B := ah (aG B.out B.out.size hb)
 replace O := ah (O.out.below hb)
 replace Hh := ah (Hh.out.below hb)
 replace P := ah (P.out.below hb)
 replace Ff := ah (Ff.out.below hb)
 replace T1 := ah (T1.out.below hb)
 replace ht1 := fun i => T1.out.cell i
 have T5 := ah (show rD w6 w5.heap.size #[.int .i64 0, .int .u64 0, .int .u64 0, .int .u64 4617315517961601024, .int .u64 0, .slice XJ 1 XK, .slice XL 0 XM, .slice XO 2 XP, .slice xA8 0 XQ] 55 from (rD.new w5 #[.int .i64 0, .int .u64 0, .int .u64 0, .int .u64 4617315517961601024, .int .u64 0, .slice XJ 1 XK, .slice XL 0 XM, .slice XO 2 XP, .slice xA8 0 XQ] 55).below hb0)
 have YA := fun i => T5.out.cell i
 have Q := ah hh
 clear hb hb0 hh
 go_wp2_with fail
 refine (SE _ _ Q.out).mono ?_
 rintro e w7 ⟨yA5, yc5, yA6, yc6, yA7, yc7, yA8, yc8, rfl, hb⟩
 replace B := ah (aG B.out B.out.size hb)
 replace O := ah (O.out.below hb)
 replace Hh := ah (Hh.out.below hb)
 replace P := ah (P.out.below hb)
 replace Ff := ah (Ff.out.below hb)
 replace Q := ah (Q.out.below hb)
 replace T1 := ah (T1.out.below hb)
 replace ht1 := fun i => T1.out.cell i
 replace T5 := ah (T5.out.below hb)
 replace YA := fun i => T5.out.cell i
 clear hb
 go_wp2_with fail
 refine (Bo _).mono ?_
 rintro e w8 ⟨rA5, rc5, rA6, rc6, rA7, rc7, rA8, rc8, rfl, hh, hb⟩
 have hb0 := hb
 have hb := aG (ak (Below.refl w7.heap.size w7) (.cells #[.int .i64 0, .int .u64 0, .int .u64 0, .int .u64 0, .int .u64 0, .slice yA5 0 yc5, .slice yA6 0 yc6, .slice yA7 0 yc7, .slice yA8 0 yc8] 29)) ((ak (Below.refl w7.heap.size w7) (.cells #[.int .i64 0, .int .u64 0, .int .u64 0, .int .u64 0, .int .u64 0, .slice yA5 0 yc5, .slice yA6 0 yc6, .slice yA7 0 yc7, .slice yA8 0 yc8] 29))).size hb
 replace B := ah (aG B.out B.out.size hb)
 replace O := ah (O.out.below hb)
 replace Hh := ah (Hh.out.below hb)
 replace P := ah (P.out.below hb)
 replace Ff := ah (Ff.out.below hb)
 replace Q := ah (Q.out.below hb)
 replace T1 := ah (T1.out.below hb)
 replace ht1 := fun i => T1.out.cell i
 replace T5 := ah (T5.out.below hb)
 replace YA := fun i => T5.out.cell i
 have R := ah hh
 clear hb hb0 hh
 go_wp2_with fail
 refine (NP _ rA5 rA6 rA7 rA8 rc5 rc6 rc7 rc8).mono ?_
 rintro e w9 ⟨rfl, hb⟩
 replace B := ah (aG B.out B.out.size hb)
 replace O := ah (O.out.below hb)
 replace Hh := ah (Hh.out.below hb)
 replace P := ah (P.out.below hb)
 replace Ff := ah (Ff.out.below hb)
 replace Q := ah (Q.out.below hb)
 replace R := ah (R.out.below hb)
 replace T1 := ah (T1.out.below hb)
 replace ht1 := fun i => T1.out.cell i
 replace T5 := ah (T5.out.below hb)
 replace YA := fun i => T5.out.cell i
 clear hb
 go_wp2_with fail
 refine (NQ _ rA5 rA6 rA7 rA8 rc5 rc6 rc7 rc8 R.out).mono ?_
 rintro e w10 ⟨S2, Yy, Yz, rfl, q1, q2, q3, q4, hb⟩
 replace B := ah (aG B.out B.out.size hb)
 replace O := ah (O.out.below hb)
 replace Hh := ah (Hh.out.below hb)
 replace P := ah (P.out.below hb)
 replace Ff := ah (Ff.out.below hb)
 replace Q := ah (Q.out.below hb)
 replace R := ah (R.out.below hb)
 replace T1 := ah (T1.out.below hb)
 replace ht1 := fun i => T1.out.cell i
 replace T5 := ah (T5.out.below hb)
 replace YA := fun i => T5.out.cell i
 clear hb
 have Q1 := ah q1
 have Q2 := ah q2
 clear q1 q2
 have N1 := ah (heap_alloc_new w10 (.cells #[.int .i64 0, .int .i64 0, .int .i64 0, .int .u64 0, .int .u64 0, .int .u64 0, .int .u64 0, .slice none 0 0, .slice none 0 0, .slice none 0 0, .slice none 0 0, .int .i64 0, .int .u64 0, .int .u64 0, .int .u64 0, .int .u64 0, .slice none 0 0, .slice none 0 0, .slice none 0 0, .slice none 0 0] 108))
 go_wp2_with (refine wpList_store_row rfl 108 (.tmp 9) (.tmp 37) rfl w10.heap.size S2 rfl rfl 108 _ N1.out (by rw [Q1.out]; kernel_rfl) (by rw [Q1.out]; rfl) Q2.out ?_; rw [World.setRow_alloc_new])
 refine (Bo _).mono ?_
 rintro e VF ⟨uA5, uc5, uA6, uc6, uA7, uc7, uA8, uc8, rfl, hh, hb⟩
 have hb0 := hb
 have hb := aG (ak (Below.refl w10.heap.size w10) (.cells S2 108)) ((ak (Below.refl w10.heap.size w10) (.cells S2 108))).size hb
 replace B := ah (aG B.out B.out.size hb)
 replace O := ah (O.out.below hb)
 replace Hh := ah (Hh.out.below hb)
 replace P := ah (P.out.below hb)
 replace Ff := ah (Ff.out.below hb)
 replace Q := ah (Q.out.below hb)
 replace R := ah (R.out.below hb)
 replace T1 := ah (T1.out.below hb)
 replace ht1 := fun i => T1.out.cell i
 replace T5 := ah (T5.out.below hb)
 replace YA := fun i => T5.out.cell i
 have T9 := ah (show rD VF w10.heap.size S2 108 from (rD.new w10 S2 108).below hb0)
 have ht9 := fun i => T9.out.cell i
 have U := ah hh
 clear hb hb0 hh
 go_wp2_with fail
 refine (U6 _ _ U.out).mono ?_
 rintro e w12 ⟨rfl, hb⟩
 replace B := ah (aG B.out B.out.size hb)
 replace O := ah (O.out.below hb)
 replace Hh := ah (Hh.out.below hb)
 replace P := ah (P.out.below hb)
 replace Ff := ah (Ff.out.below hb)
 replace Q := ah (Q.out.below hb)
 replace R := ah (R.out.below hb)
 replace U := ah (U.out.below hb)
 replace T1 := ah (T1.out.below hb)
 replace ht1 := fun i => T1.out.cell i
 replace T5 := ah (T5.out.below hb)
 replace YA := fun i => T5.out.cell i
 replace T9 := ah (T9.out.below hb)
 replace ht9 := fun i => T9.out.cell i
 clear hb
 obtain ⟨_, _, e5, _, hC5⟩ := (HI.ZJ Hh.out).1
 cases e5
 obtain ⟨ad5, e1, hx0, hx1⟩ := pX hC5 0 (by decide) (by decide)
 subst e1
 obtain ⟨_, _, e7, _, hC7⟩ := (HI.ZJ Hh.out).2
 cases e7
 obtain ⟨ad7, e2, hx7⟩ := Kd.gB hC7 1 (by decide) (by decide)
 subst e2
 have hx0' : w12.cell? ad5 = some (.int .i64 2) := hx0
 have hx7' : w12.cell? ⟨ad7.block, ad7.off + 1, none⟩ = some (.int .i64 3) := hx7
 have PA := ah Qa
 have PB := ah Qb
 go_wp2_with (first | (go_at_call 77; (with_reducible first | refine (PA.out _).mono ?_ | refine (PB.out _).mono ?_); rintro e w20 ⟨rfl, hb⟩; replace B := ah (aG B.out B.out.size hb); clear hb))
 go_ret
 exact ⟨rfl, B.out⟩
def CU : Int := 9218868437227405312
theorem SK : FloatKind.f64.format.signWeight = 9223372036854775808 := by kernel_rfl
theorem Jt : FloatKind.f64.format.infRung = 9218868437227405312 := by kernel_rfl
theorem OY : FloatKind.f64.format.binade = 4503599627370496 := by kernel_rfl
theorem XR : FloatKind.f64.format.fractionBits = 52 := by kernel_rfl
theorem SL : FloatKind.f64.format.leastPlace = -1074 := by kernel_rfl
theorem Ih {a : Int} : dY a = true ↔ a < 9218868437227405312 := by unfold dY; rw [decide_eq_true_eq]
theorem OZ (m n : Nat) (e g : Int) : Ieee.Datum.sum (.number false m e) (.number false n g) = some (.number false (m <<< (e - min e g).toNat + n <<< (g - min e g).toNat) (min e g)) := by
 have key : ∀ (t : Nat) (b : Int), (Ieee.Datum.number (if (t : Int) = 0 then (false && false) else decide ((t : Int) < 0)) (t : Int).natAbs b) = .number false t b := by
  intro t b
  have : (if (t : Int) = 0 then (false && false) else decide ((t : Int) < 0)) = false := by
   by_cases c : (t : Int) = 0
   ·rw [if_pos c]; rfl
   ·rw [if_neg c]; exact ahH (by omega)
  rw [this]; rfl
 exact congrArg some (key (m <<< (e - min e g).toNat + n <<< (g - min e g).toNat) (min e g))
theorem wP (f : Ieee.Format) (x : Nat) : f.word false x = x := rfl
theorem LP (f : Ieee.Format) (m : Nat) (e : Int) : f.nearest false m e ≤ f.infRung := by
 unfold Ieee.Format.nearest
 by_cases c : m = 0
 ·rw [if_pos c, wP]; exact Nat.zero_le _
 ·rw [if_neg c, wP]; exact Nat.min_le_right _ _
theorem NS (m : Nat) (e : Int) : FloatKind.f64.format.nearest false m e ≤ 9218868437227405312 := by
 have := LP FloatKind.f64.format m e
 rw [Jt] at this
 exact this
theorem Ii {a b : Int} (ha : 0 ≤ a) (ra : dY a = true) (hb : 0 ≤ b) (rb : dY b = true) (h : ¬ dY (addN a b) = true) : (addN a b : Int) = CU := by
 obtain ⟨m, e, h1⟩ := uy ha ra
 obtain ⟨n, g, h2⟩ := uy hb rb
 obtain ⟨t, c, h3⟩ : ∃ t c, Ieee.Datum.sum (.number false m e) (.number false n g) = some (.number false t c) := ⟨_, _, OZ m n e g⟩
 have e1 : addN a b = FloatKind.f64.format.nearest false t c := by
  unfold addN Bj Ieee.Format.add
  rw [h1, h2, h3]
  rfl
 have := NS t c
 rw [Ih, e1] at h
 rw [e1]
 unfold CU
 omega
theorem Fe {b : Int} (hb : 0 ≤ b) (rb : dY b = true) : Bj CU b = some 9218868437227405312 := by
 obtain ⟨n, g, h2⟩ := uy hb rb
 unfold Bj Ieee.Format.add
 rw [h2, show FloatKind.f64.format.read CU.toNat = .infinity false by kernel_rfl]
 kernel_rfl
theorem SN (n k : Nat) (hk : k ≤ (n * 2 ^ k).log2 + 2) : Ieee.Toward.even.cut false (n * 2 ^ k) k = n := by
 unfold Ieee.Toward.cut
 rw [Nat.min_eq_left hk, Nat.shiftLeft_eq, Nat.one_mul]
 have hp : 0 < 2 ^ k := Nat.two_pow_pos k
 simp only [Nat.mul_div_cancel _ hp, Nat.mul_mod_left]
 have h1 : decide (2 ^ k < 2 * 0) = false := ahH (by omega)
 have h2 : (2 ^ k == 2 * 0) = false := beq_eq_false_iff_ne.2 (by omega)
 rw [h1, h2]
 rfl
theorem NT {m k : Nat} (h : m < 9007199254740992) (hn : m = 0 ∨ k = 0 ∨ 4503599627370496 ≤ m) (hz : m < 4503599627370496 → k = 0) : FloatKind.f64.format.nearest false (m * 2 ^ k) (-1074) = min (k * 4503599627370496 + m) 9218868437227405312 := by
 unfold Ieee.Format.nearest
 by_cases c : m * 2 ^ k = 0
 ·have hp : 0 < 2 ^ k := Nat.two_pow_pos k
  have hm : m = 0 := by
   rcases Nat.mul_eq_zero.1 c with h | h
   ·exact h
   ·omega
  have hk := hz (by omega)
  rw [if_pos c, hm, hk, wP, Nat.zero_mul, Nat.zero_add, Nat.zero_min]
 rw [if_neg c, XR, SL, Jt, OY]
 have hm : m ≠ 0 := fun q => c (by rw [q, Nat.zero_mul])
 have hlast : max (-1074 + ((m * 2 ^ k).log2 : Int) - (52 : Nat)) (-1074) = -1074 + (k : Int) := by
  by_cases cz : m < 4503599627370496
  ·have hk := hz cz
   have : (m * 2 ^ k).log2 < 52 := (Nat.log2_lt c).2 (by rw [hk]; simpa using cz)
   omega
  ·have h1 : ¬ (m * 2 ^ k).log2 < 52 + k := fun q => by
    have := (Nat.log2_lt c).1 q
    rw [Nat.pow_add] at this
    exact absurd (Nat.lt_of_mul_lt_mul_right this) (by omega)
   have h2 : (m * 2 ^ k).log2 < 53 + k := (Nat.log2_lt c).2 (by rw [Nat.pow_add]; exact Nat.mul_lt_mul_of_pos_right (by omega) (Nat.two_pow_pos k))
   omega
 have hl : k ≤ (m * 2 ^ k).log2 + 2 := by omega
 simp only [hlast]
 rw [show (-1074 - (-1074 + (k : Int))).toNat = 0 by omega, show (-1074 + (k : Int) - -1074).toNat = k by omega, Nat.shiftLeft_zero, SN m k hl, wP]
theorem Ij {x : Int} (h0 : 0 ≤ x) (h : dY x = true) : (addN 0 x : Int) = x := by
 obtain ⟨n, rfl⟩ : ∃ n : Nat, x = n := ⟨x.toNat, by omega⟩
 rw [Ih] at h
 have hr : FloatKind.f64.format.read (0 : Int).toNat = .number false 0 (-1074) := by kernel_rfl
 have hs := SK
 have h1 : n / 9223372036854775808 = 0 := Nat.div_eq_of_lt (by omega)
 have h2 : n % 9223372036854775808 = n := Nat.mod_eq_of_lt (by omega)
 have fin : ∀ (m k : Nat), FloatKind.f64.format.read n = .number false m (-1074 + (k : Int)) → m < 9007199254740992 → (m = 0 ∨ k = 0 ∨ 4503599627370496 ≤ m) → (m < 4503599627370496 → k = 0) → k * 4503599627370496 + m = n → (addN 0 (n : Int) : Int) = n := by
  intro m k hrd hm hc hz he
  have e1 : addN 0 (n : Int) = FloatKind.f64.format.nearest false (m * 2 ^ k) (-1074) := by
   unfold addN Bj Ieee.Format.add
   rw [hr, Int.toNat_natCast, hrd]
   rw [OZ, show min (-1074 : Int) (-1074 + (k : Int)) = -1074 by omega, show (-1074 - (-1074) : Int).toNat = 0 by omega, show (-1074 + (k : Int) - -1074).toNat = k by omega, Nat.shiftLeft_eq, Nat.shiftLeft_eq, Nat.zero_mul, Nat.zero_add]
   rfl
  rw [e1, NT hm hc hz, Nat.min_eq_left (by omega), he]
 have hrd : FloatKind.f64.format.read n = if n < 4503599627370496 then .number false n (-1074) else .number false (4503599627370496 + n % 4503599627370496) (-1074 + ((n / 4503599627370496 - 1 : Nat) : Int)) := by
  unfold Ieee.Format.read
  rw [SK, OY, Jt, SL]
  simp only [h1, h2]
  rw [if_pos (show n < 9218868437227405312 by omega)]
  rfl
 by_cases c : n < 4503599627370496
 ·rw [if_pos c] at hrd
  exact fin n 0 (by rw [hrd]; rfl) (by omega) (.inr (.inl rfl)) (fun _ => rfl) (by omega)
 ·rw [if_neg c] at hrd
  have hd := Nat.div_add_mod n 4503599627370496
  have hm := Nat.mod_lt n (show 0 < 4503599627370496 by decide)
  have hq : 1 ≤ n / 4503599627370496 := (Nat.le_div_iff_mul_le (by decide)).2 (by omega)
  refine fin _ _ hrd (by omega) (.inr (.inr (by omega))) (fun q => absurd q (by omega)) ?_
  generalize n / 4503599627370496 = q at *
  generalize n % 4503599627370496 = r at *
  omega
def kM (s : Int) : Int → List Int → List Int
 | cur, [] => [cur]
 | cur, p :: t => if dW p s = cur then kM s cur t else cur :: kM s (dW p s) t
def uz (s : Int) : List Int → List Int
 | [] => []
 | p :: t => kM s (dW p s) t
theorem zN (s q : Int) : ∀ (l : List Int) (cur : Int), q ∈ kM s cur l ↔ q = cur ∨ ∃ p ∈ l, dW p s = q := by
  intro l
  induction l with
  | nil => intro cur; simp [kM]
  | cons p t ih =>
    intro cur
    simp only [kM, List.mem_cons]
    by_cases h : dW p s = cur
    · rw [if_pos h, ih]
      constructor
      · rintro (h1 | ⟨x, hx, h1⟩)
        · exact .inl h1
        · exact .inr ⟨x, .inr hx, h1⟩
      · rintro (h1 | ⟨x, hx | hx, h1⟩)
        · exact .inl h1
        · subst hx; exact .inl (by omega)
        · exact .inr ⟨x, hx, h1⟩
    · rw [if_neg h, List.mem_cons, ih]
      constructor
      · rintro (h1 | h1 | ⟨x, hx, h1⟩)
        · exact .inl h1
        · exact .inr ⟨p, .inl rfl, h1.symm⟩
        · exact .inr ⟨x, .inr hx, h1⟩
      · rintro (h1 | ⟨x, hx | hx, h1⟩)
        · exact .inl h1
        · subst hx; exact .inr (.inl h1.symm)
        · exact .inr (.inr ⟨x, hx, h1⟩)
theorem Qd (s q : Int) (l : List Int) : q ∈ uz s l ↔ ∃ p ∈ l, dW p s = q := by
  cases l with
  | nil => simp [uz]
  | cons p t =>
    unfold uz
    rw [zN]
    constructor
    · rintro (h1 | ⟨x, hx, h1⟩)
      · exact ⟨p, by simp, h1.symm⟩
      · exact ⟨x, by simp [hx], h1⟩
    · rintro ⟨x, hx, h1⟩
      rcases List.mem_cons.1 hx with rfl | hx
      · exact .inl h1.symm
      · exact .inr ⟨x, hx, h1⟩
def mO (s q : Int) : Int → List Pu → Int
 | a, [] => a
 | a, p :: t => if dW p.f0 s = q then mO s q (addN a p.f1) t else mO s q a t
def vS (l : List Pu) : Prop := ∀ p ∈ l, 0 ≤ p.f1 ∧ dY p.f1 = true
theorem LQ {b : Int} (hb : 0 ≤ b) (rb : dY b = true) : (addN CU b : Int) = CU := by
 unfold addN
 rw [Fe hb rb]
 rfl
def LU (a : Int) : Prop := (0 ≤ a ∧ dY a = true) ∨ a = CU
theorem Qe {a b : Int} (ha : LU a) (hb : 0 ≤ b) (rb : dY b = true) : Bj a b = some (addN a b) ∧ LU (addN a b) := by
 rcases ha with ⟨h0, h1⟩ | rfl
 ·refine ⟨Fb h0 h1 hb rb, ?_⟩
  by_cases c : dY (addN a b) = true
  ·exact .inl ⟨Int.natCast_nonneg _, c⟩
  ·exact .inr (Ii h0 h1 hb rb c)
 ·have e := LQ hb rb
  refine ⟨?_, .inr e⟩
  rw [Fe hb rb]
  unfold addN
  rw [Fe hb rb]
  rfl
theorem CV (s q : Int) : ∀ (l : List Pu), vS l → mO s q CU l = CU
  | [], _ => rfl
  | p :: t, h => by
    obtain ⟨h0, h1⟩ := h p (by simp)
    have ht : vS t := fun x hx => h x (List.mem_cons_of_mem _ hx)
    simp only [mO]
    split
    · rw [LQ h0 h1]; exact CV s q t ht
    · exact CV s q t ht
theorem Fg (s q : Int) : ∀ (l : List Pu) (a : Int), (∀ p ∈ l, dW p.f0 s ≠ q) → mO s q a l = a
  | [], _, _ => rfl
  | p :: t, a, h => by
    simp only [mO]
    rw [if_neg (h p (by simp))]
    exact Fg s q t a (fun x hx => h x (List.mem_cons_of_mem _ hx))
theorem SQ : dY CU = false := by unfold dY CU; exact ahH (by omega)
def zO (l : List Pu) : Bool := l.any (fun p => !dY p.f1)
def qW (s : Int) (cur : Pu) (l : List Pu) (q : Int) : Int := if q = cur.f0 then mO s q cur.f1 l else mO s q 0 l
theorem Fj (s c : Int) (l : List Int) : c ∈ kM s c l := (zN s c l c).2 (.inl rfl)
theorem LV (s : Int) : ∀ (l : List Pu) (cur : Pu), vS l → 0 ≤ cur.f1 → dY cur.f1 = true → (∀ p ∈ l, cur.f0 ≤ dW p.f0 s) → l.Pairwise (fun x y => dW x.f0 s ≤ dW y.f0 s) →
    lY s cur l = if zO ((kM s cur.f0 (l.map (·.f0))).map (fun q => (⟨q, qW s cur l q⟩ : Pu))) = true then none else some ((kM s cur.f0 (l.map (·.f0))).map (fun q => (⟨q, qW s cur l q⟩ : Pu))) := by
  intro l
  induction l with
  | nil =>
    intro cur _ h0 h1 _ _
    have e : qW s cur [] cur.f0 = cur.f1 := by unfold qW; rw [if_pos rfl]; rfl
    simp only [lY, List.map_nil, kM, List.map_cons, e]
    rw [if_neg (by simp [zO, h1])]
  | cons p t ih =>
    intro cur hr h0 h1 hle hpw
    obtain ⟨p0, p1⟩ := hr p (by simp)
    have ht : vS t := fun x hx => hr x (List.mem_cons_of_mem _ hx)
    obtain ⟨hp1, hp2⟩ := List.pairwise_cons.1 hpw
    have hcp := hle p (by simp)
    simp only [lY, List.map_cons, kM]
    by_cases c : dW p.f0 s = cur.f0
    · rw [if_pos c, if_pos c]
      by_cases ro : dY (addN cur.f1 p.f1) = true
      · rw [if_pos ro, ih ⟨cur.f0, addN cur.f1 p.f1⟩ ht (Int.natCast_nonneg _) ro (fun x hx => hle x (List.mem_cons_of_mem _ hx)) hp2]
        have e : (fun q => (⟨q, qW s ⟨cur.f0, addN cur.f1 p.f1⟩ t q⟩ : Pu)) = fun q => (⟨q, qW s cur (p :: t) q⟩ : Pu) := by
          funext q
          unfold qW
          simp only [mO]
          by_cases cq : q = cur.f0
          · rw [if_pos cq, if_pos cq, if_pos (by rw [cq]; exact c)]
          · rw [if_neg cq, if_neg cq, if_neg (by rw [c]; exact fun h => cq h.symm)]
        rw [e]
      · rw [if_neg ro, if_pos]
        refine List.any_eq_true.2 ⟨⟨cur.f0, qW s cur (p :: t) cur.f0⟩, List.mem_map_of_mem (f := fun q => (⟨q, qW s cur (p :: t) q⟩ : Pu)) (Fj s _ _), ?_⟩
        have e : qW s cur (p :: t) cur.f0 = CU := by
          unfold qW
          rw [if_pos rfl]
          simp only [mO]
          rw [if_pos c, Ii h0 h1 p0 p1 ro, CV s _ t ht]
        simp only [e, SQ, Bool.not_false]
    · rw [if_neg c, if_neg c, ih ⟨dW p.f0 s, p.f1⟩ ht p0 p1 hp1 hp2]
      have e0 : qW s cur (p :: t) cur.f0 = cur.f1 := by
        unfold qW
        rw [if_pos rfl]
        refine Fg s _ _ _ fun x hx => ?_
        rcases List.mem_cons.1 hx with rfl | hx
        · exact c
        · have := hp1 x hx
          omega
      have e : (kM s (dW p.f0 s) (t.map (·.f0))).map (fun q => (⟨q, qW s ⟨dW p.f0 s, p.f1⟩ t q⟩ : Pu)) = (kM s (dW p.f0 s) (t.map (·.f0))).map (fun q => (⟨q, qW s cur (p :: t) q⟩ : Pu)) := by
        refine List.map_congr_left fun q hq => ?_
        have hq' : dW p.f0 s ≤ q := by
          rcases (zN s q _ _).1 hq with rfl | ⟨x, hx, rfl⟩
          · exact Int.le_refl _
          · obtain ⟨y, hy, rfl⟩ := List.mem_map.1 hx
            exact hp1 y hy
        unfold qW
        rw [if_neg (show ¬ q = cur.f0 by omega)]
        simp only [mO]
        by_cases cq : q = dW p.f0 s
        · rw [if_pos cq, if_pos cq.symm, Ij p0 p1]
        · rw [if_neg cq, if_neg (fun h => cq h.symm)]
      rw [e]
      have tb : ∀ r : List Pu, zO ((⟨cur.f0, cur.f1⟩ : Pu) :: r) = zO r := fun r => by unfold zO; rw [List.any_cons, h1]; rfl
      rw [List.map_cons, e0, tb]
      generalize (kM s (dW p.f0 s) (t.map (·.f0))).map (fun q => (⟨q, qW s cur (p :: t) q⟩ : Pu)) = r
      cases zO r <;> rfl
def Bq (s : Int) (l : List Pu) : List Pu := (uz s (l.map (·.f0))).map (fun q => (⟨q, mO s q 0 l⟩ : Pu))
theorem yt {l : List Pu} (h : RowOKU l) : vS l := fun p hp => ⟨by have := (h.wf.1 p hp).2; unfold u64 at this; omega, h.cnt p hp⟩
theorem Fp {s : Int} {l : List Pu} (hr : RowOKU l) : lq s l = if zO (Bq s l) = true then none else some (Bq s l) := by
  have hR := yt hr
  have hu := hr.ups
  cases l with
  | nil => rfl
  | cons p t =>
    obtain ⟨p0, p1⟩ := hR p (by simp)
    have ht : vS t := fun x hx => hR x (List.mem_cons_of_mem _ hx)
    have hpw : (p :: t).Pairwise (fun x y => dW x.f0 s ≤ dW y.f0 s) := List.Pairwise.imp (R := fun x y : Pu => x.f0 < y.f0) (fun {a b} h => wH (Int.le_of_lt h)) hu
    obtain ⟨hp1, hp2⟩ := List.pairwise_cons.1 hpw
    show lY s ⟨dW p.f0 s, p.f1⟩ t = if zO ((kM s (dW p.f0 s) (t.map (·.f0))).map (fun q => (⟨q, mO s q 0 (p :: t)⟩ : Pu))) = true then none else some ((kM s (dW p.f0 s) (t.map (·.f0))).map (fun q => (⟨q, mO s q 0 (p :: t)⟩ : Pu)))
    rw [LV s t ⟨dW p.f0 s, p.f1⟩ ht p0 p1 hp1 hp2]
    have e : (fun q => (⟨q, qW s ⟨dW p.f0 s, p.f1⟩ t q⟩ : Pu)) = fun q => (⟨q, mO s q 0 (p :: t)⟩ : Pu) := by
      funext q
      unfold qW
      simp only [mO]
      by_cases cq : q = dW p.f0 s
      · rw [if_pos cq, if_pos cq.symm, Ij p0 p1]
      · rw [if_neg cq, if_neg (fun h => cq h.symm)]
    rw [e]
theorem U7 (done : List Int) (cur : Int) (h : done.length < 4611686018427387904) : wrap64 (((done ++ [cur]).length : Int) - 1) = (done.length : Int) ∧ rd (done ++ [cur]) (done.length : Int) = cur := by
 refine ⟨by rw [eX (by simp <;> omega) (by simp <;> omega)]; simp, ?_⟩
 rw [sK (by simp)]; simp
theorem Ju (pl : List Int) (s : Int) (hp : ∀ x ∈ pl, i64 x) (hm : pl.length ≤ 4096) : ∀ (d k i : Nat) (done : List Int) (cur : Int), pl.length - i = d → d + 67 ≤ k → i ≤ pl.length → done.length < i →
    tidepoleref25_wide.l0 k pl s (done ++ [cur]) (i : Int) = some (done ++ kM s cur (pl.drop i)) := by
  intro d
  induction d with
  | zero =>
    intro k i done cur hd hk hi hdl
    obtain ⟨k, rfl⟩ : ∃ m, k = m + 1 := ⟨k - 1, by omega⟩
    rw [tidepoleref25_wide.l0, if_neg (by omega), List.drop_eq_nil_of_le (by omega)]
    rfl
  | succ d ih =>
    intro k i done cur hd hk hi hdl
    obtain ⟨k, rfl⟩ : ∃ m, k = m + 1 := ⟨k - 1, by omega⟩
    have hlt : i < pl.length := by omega
    obtain ⟨w1, w2⟩ := U7 done cur (by omega)
    have hlen : ((done ++ [cur]).length : Int) = (done.length : Int) + 1 := by simp
    rw [tidepoleref25_wide.l0, if_pos (by omega), if_pos (by omega), sK hlt, zI _ (by omega) _ _ (hp _ (List.getElem_mem hlt)), Option.bind_some, if_neg (by omega), w1, w2, if_pos (by omega), if_pos (by omega)]
    rw [List.drop_eq_getElem_cons hlt, kM, wrap_succ (by omega)]
    by_cases c : dW pl[i] s = cur
    · rw [if_pos c.symm, if_pos c]
      exact ih k (i + 1) done cur (by omega) (by omega) (by omega) (by omega)
    · rw [if_neg (fun h => c h.symm), if_neg c, if_pos (by simp <;> omega)]
      rw [ih k (i + 1) (done ++ [cur]) (dW pl[i] s) (by omega) (by omega) (by omega) (by simp <;> omega)]
      simp
theorem NU (pl : List Int) (s : Int) (hp : ∀ x ∈ pl, i64 x) (hm : pl.length ≤ 4096) (k : Nat) (hk : pl.length + 68 ≤ k) : tidepoleref25_wide.f k pl s = some (uz s pl) := by
  unfold tidepoleref25_wide.f
  obtain ⟨k, rfl⟩ : ∃ m, k = m + 1 := ⟨k - 1, by omega⟩
  cases pl with
  | nil => rw [tidepoleref25_wide.l0, if_neg (by simp)]; rfl
  | cons p t =>
    have h0 : rd (p :: t) 0 = p := rfl
    rw [tidepoleref25_wide.l0, if_pos (by simp <;> omega), if_pos (by omega), h0, zI _ (by omega) _ _ (hp _ (by simp)), Option.bind_some, if_pos (show (([] : List Int).length : Int) = 0 from rfl), if_pos (by simp)]
    rw [show wrap64 (0 + 1) = ((1 : Nat) : Int) from by unfold wrap64; omega]
    have := Ju (p :: t) s hp hm t.length k 1 [] (dW p s) (by simp) (by simp at hk; omega) (by simp) (by simp)
    exact this
theorem zQ (s : Int) : ∀ (l : List Int) (cur : Int), (kM s cur l).length ≤ l.length + 1
  | [], _ => by simp [kM]
  | p :: t, cur => by
    simp only [kM]
    split
    · have := zQ s t cur; simp; omega
    · have := zQ s t (dW p s); simp; omega
theorem Qg (s : Int) (l : List Int) : (uz s l).length ≤ l.length := by
 cases l with
 | nil => simp [uz]
 | cons p t => have := zQ s t (dW p s); simp [uz]; omega
attribute [local go_sem] iV iW jH jI gW gX iY iZ
def tidepoleref17_Runs.l0 : Nat → List Int → List (eP) → Int → Int → Option ((List (eP)))
 | 0, _, _, _, _ => none
 | k + 1, x0, x3, x4, x5 => if x5 < (x0.length : Int) then (if x5 = 0 then (if 0 ≤ x5 then (if x3.length < 8796093022208 then ((some (x3 ++ [(⟨wrap64 ((rd x0 x5) - x4), 0⟩ : eP)] : List (eP))).bind fun y102 => (if 0 ≤ (wrap64 ((y102.length : Int) - 1)) then (if (wrap64 ((y102.length : Int) - 1)) < (y102.length : Int) then (tidepoleref17_Runs.l0 k x0 (y102.set ((wrap64 ((y102.length : Int) - 1)) : Int).toNat (⟨(aW y102 (wrap64 ((y102.length : Int) - 1))).f0, wrap64 (((aW y102 (wrap64 ((y102.length : Int) - 1))).f1) + 1)⟩ : eP)) (wrap64 ((rd x0 x5) + 1)) (wrap64 (x5 + 1))) else (none)) else (none))) else (none)) else (none)) else (if 0 ≤ x5 then (if (rd x0 x5) = x4 then (if 0 ≤ (wrap64 ((x3.length : Int) - 1)) then (if (wrap64 ((x3.length : Int) - 1)) < (x3.length : Int) then (tidepoleref17_Runs.l0 k x0 (x3.set ((wrap64 ((x3.length : Int) - 1)) : Int).toNat (⟨(aW x3 (wrap64 ((x3.length : Int) - 1))).f0, wrap64 (((aW x3 (wrap64 ((x3.length : Int) - 1))).f1) + 1)⟩ : eP)) (wrap64 ((rd x0 x5) + 1)) (wrap64 (x5 + 1))) else (none)) else (none)) else (if x3.length < 8796093022208 then ((some (x3 ++ [(⟨wrap64 ((rd x0 x5) - x4), 0⟩ : eP)] : List (eP))).bind fun y113 => (if 0 ≤ (wrap64 ((y113.length : Int) - 1)) then (if (wrap64 ((y113.length : Int) - 1)) < (y113.length : Int) then (tidepoleref17_Runs.l0 k x0 (y113.set ((wrap64 ((y113.length : Int) - 1)) : Int).toNat (⟨(aW y113 (wrap64 ((y113.length : Int) - 1))).f0, wrap64 (((aW y113 (wrap64 ((y113.length : Int) - 1))).f1) + 1)⟩ : eP)) (wrap64 ((rd x0 x5) + 1)) (wrap64 (x5 + 1))) else (none)) else (none))) else (none))) else (none))) else (some x3)
def tidepoleref17_Runs.f (k : Nat) (l0 : List Int) : Option ((List (eP))) := tidepoleref17_Runs.l0 k l0 ([] : List (eP)) 0 0
set_option maxHeartbeats 8000000 in
set_option maxRecDepth 100000 in
theorem tidepoleref17_Runs.calls (k : Nat) (A0 : Option Addr) (c0 : Nat) (l0 : List Int) (r : List (eP)) (w : World) (hr0 : Kd.C (Kd.int .i64) w A0 l0.length l0) (hc0 : l0.length ≤ c0) (h : tidepoleref17_Runs.f k l0 = some r) :
  Calls Try.prog 85 #[.slice A0 l0.length c0] w fun e w' => ∃ mW : Value, e = .returned (mW) ∧ Kd.R mV 127 w' w.heap.size (fun _ => True) mW r ∧ Below w.heap.size w w' := by
 have Rk := Try.underlying127
 have HR0 := ah hr0
 have uH := ah hc0
 clear hr0 hc0
 have HB := ah (Below.refl w.heap.size w)
 have H : (tidepoleref17_Runs.l0 k l0 ([] : List (eP)) 0 0) = some r := h
 clear h
 have H' := ah H
 clear H
 go_enter Try.func85, Try.ntmps85
 go_wp2
 go_loopg [3, 4, 5] k (fun kq v3 v4 v5 w' => ∃ (fG : List (eP)) (dU : Int) (bG : Int), v4 = .int .i64 dU ∧ v5 = .int .i64 bG ∧ aj (tidepoleref17_Runs.l0 kq l0 fG dU bG = some r) ∧ aj (kq ≤ k) ∧ aj (Kd.R mV 127 w' w.heap.size (fun _ => True) v3 fG) ∧ aj (Below w.heap.size w w'))
 case atStart => exact ⟨(([] : List (eP))), (0), (0), (by first | rfl | (simp; done) | (simp [*]; done)), (by first | rfl | (simp; done) | (simp [*]; done)), H', ⟨Nat.le_refl _⟩, ⟨by first | exact Kd.eY _ _ _ _ _ | exact Kd.ig _ _ _ _ _ | exact Kd.iq _ _ _ _ _ | exact Kd.gY _ _ _ _ _ | exact Kd.gZ _ _ _ _ _⟩, ⟨by repeat (first | (with_reducible first | exact HB.out | apply ak | apply ay | apply aH) | exact HB.out)⟩⟩
 case round =>
  clear H'
  obtain ⟨fG, dU, bG, rfl, rfl, HA, jy, HO_3, HB⟩ := hrel
  cases gk with
  | zero => exact absurd HA.out (by simp [tidepoleref17_Runs.l0])
  | succ k1 =>
   have H := HA.out
   clear HA
   simp only [tidepoleref17_Runs.l0] at H
   by_cases c2 : bG < (l0.length : Int)
   ·rw [if_pos c2] at H
    have c2b0 : decide (bG < (l0.length : Int)) = true := ahG c2
    clear c2
    by_cases c3 : bG = 0
    ·rw [if_pos c3] at H
     have c3b0 : (bG == 0) = true := beq_iff_eq.mpr c3
     have c3b1 : (bG != 0) = false := bne_eq_false_iff_eq.mpr c3
     clear c3
     by_cases c4 : 0 ≤ bG
     ·rw [if_pos c4] at H
      have c4b0 : decide (0 ≤ bG) = true := ahG c4
      clear c4
      by_cases c5 : fG.length < 8796093022208
      ·rw [if_pos c5] at H
       have Es := ah c5
       clear c5
       obtain ⟨y102, hy102⟩ : ∃ y_ : List (eP), y_ = (fG ++ [(⟨wrap64 ((rd l0 bG) - dU), 0⟩ : eP)]) := ⟨_, rfl⟩
       replace H : (if 0 ≤ (wrap64 ((y102.length : Int) - 1)) then (if (wrap64 ((y102.length : Int) - 1)) < (y102.length : Int) then (tidepoleref17_Runs.l0 k1 l0 (y102.set ((wrap64 ((y102.length : Int) - 1)) : Int).toNat (⟨(aW y102 (wrap64 ((y102.length : Int) - 1))).f0, wrap64 (((aW y102 (wrap64 ((y102.length : Int) - 1))).f1) + 1)⟩ : eP)) (wrap64 ((rd l0 bG) + 1)) (wrap64 (bG + 1))) else (none)) else (none)) = some r := by first | (rw [hy102]; with_reducible exact H) | (have jA := (Option.bind_some _ _).symm.trans H; rw [hy102]; with_reducible exact jA) | (have jA := (Option.bind_some _ _).symm.trans H; with_reducible exact jA) | with_reducible exact H | (rw [hy102]; exact H) | exact H
       have OQ := ah hy102
       clear hy102
       obtain ⟨uT, Jj⟩ : ∃ j_ : Int, (wrap64 ((y102.length : Int) - 1)) = j_ := ⟨_, rfl⟩
       replace H : (if 0 ≤ (uT) then (if (uT) < (y102.length : Int) then (tidepoleref17_Runs.l0 k1 l0 (y102.set ((uT) : Int).toNat (⟨(aW y102 (uT)).f0, wrap64 (((aW y102 (uT)).f1) + 1)⟩ : eP)) (wrap64 ((rd l0 bG) + 1)) (wrap64 (bG + 1))) else (none)) else (none)) = some r := by first | (rw [Jj] at H; exact H) | (simp only [Jj] at H ⊢; exact H)
       have hji6w : (IntKind.i64.wrap ((y102.length : Int) - 1)) = uT := (bI _).trans Jj
       by_cases c7 : 0 ≤ (uT)
       ·rw [if_pos c7] at H
        have c7b0 : decide (0 ≤ (uT)) = true := ahG c7
        clear c7
        by_cases c8 : (uT) < (y102.length : Int)
        ·rw [if_pos c8] at H
         have c8b0 : decide ((uT) < (y102.length : Int)) = true := ahG c8
         clear c8
         obtain ⟨xJ, sQ⟩ : ∃ y_ : List (eP), y_ = (y102.set ((uT) : Int).toNat (⟨(aW y102 (uT)).f0, wrap64 (((aW y102 (uT)).f1) + 1)⟩ : eP)) := ⟨_, rfl⟩
         replace H : (tidepoleref17_Runs.l0 k1 l0 xJ (wrap64 ((rd l0 bG) + 1)) (wrap64 (bG + 1))) = some r := by first | (rw [sQ]; with_reducible exact H) | (have jA := (Option.bind_some _ _).symm.trans H; rw [sQ]; with_reducible exact jA) | (have jA := (Option.bind_some _ _).symm.trans H; with_reducible exact jA) | with_reducible exact H | (rw [sQ]; exact H) | exact H
         have AL := ah sQ
         clear sQ
         have H' := ah H
         clear H
         have fC : 0 ≤ (bG : Int) := ahF (by assumption)
         have fD : bG < (l0.length : Int) := ahF (by assumption)
         obtain ⟨kE, jM, bW⟩ := Kd.gB HR0.out bG fC fD
         cases jM
         replace bW := (HB.out.cell (World.block_lt_of_cell? w _ bW)).trans bW
         replace fC := eq_true fC
         replace fD := eq_true fD
         go_wp2_with (first | ((with_reducible refine eG (b := .append) (xs := #[.tmp 22, .tmp 30]) rfl ?_); at_builtin; refine Kd.je mV (w0 := w) w.heap.size rfl (.tmp 22) (.tmp 30) 39 127 (.agg #[(.int .i64 0), (.int .i64 0)]) 16 rfl Try.underlying39 IJ rfl (by decide) (by omega) u3 fG (⟨wrap64 ((rd l0 bG) - dU), 0⟩ : eP) [.int .i64 (wrap64 ((rd l0 bG) - dU)), .int .i64 0] (fun _ => True) (fun _ => False) rfl rfl ?aP (fun _ hk => hk.elim) ?aF ?aO ?aB ?aS ?aL ?_; (case aP => exact vH _ _ _ (⟨wrap64 ((rd l0 bG) - dU), 0⟩ : eP)); (case aB => exact (bg HB.out)); (case aF => exact (fun _ _ => trivial)); (case aO => exact (Kd.fJ HO_3.out)); (case aS => exact (aQ (bg HB.out))); (case aL => have := Es.out; omega); intro zD w10 ho hb hg hat; rw [← OQ.out] at ho; have jf := ah (ho); replace HB := ah (hb); clear HO_3 ho hb hg hat; obtain ⟨AX, oz, Ce⟩ := Kd.dw jf.out; subst Ce; have nN : 0 ≤ ((uT) : Int) := ahF (by assumption); have nO : (uT) < (y102.length : Int) := ahF (by assumption); obtain ⟨Dj, xI, jW, qN⟩ := qI (Kd.bF jf.out).2.2 (uT) nN nO; cases xI; replace nN := eq_true nN; replace nO := eq_true nO; have p9 : 0 ≤ ((uT) : Int) := ahF (by assumption); have q9 : ((uT) : Int) < ((y102.length : Int) : Int) := ahF (by assumption); obtain ⟨VT, Jc, Rx, gb9, gl9, cl9, HG9⟩ := Kd.qC jf.out (by omega); (first | cases Rx | (injection Rx with ea_ en_ ec_; (first | subst ea_ | (injection ea_ with ea_; subst ea_)); subst ec_; clear en_)); have GB9 := ah gb9; have GG9 := ah HG9; clear gb9 gl9 HG9; (first | simp only [add_plain] at jW | skip); (first | simp only [add_plain] at qN | skip); obtain ⟨ce9, ade, hM9, XT, XU⟩ := Kd.jC jf.out z127 ((uT) : Int) p9 q9; obtain rfl := rH hM9; have ae0 : w10.cell? ⟨VT, ((uT) : Int).toNat * 2, none⟩ = some (.int .i64 ((aW y102 (uT)).f0)) := XT 0 _ rfl; have ae1 : w10.cell? ⟨VT, ((uT) : Int).toNat * 2 + 1, none⟩ = some (.int .i64 ((aW y102 (uT)).f1)) := XT 1 _ rfl; have ae2 : w10.frozen? ⟨VT, ((uT) : Int).toNat * 2, none⟩ = false := XU 0; have ae3 : w10.frozen? ⟨VT, ((uT) : Int).toNat * 2 + 1, none⟩ = false := XU 1; clear ade XT XU hM9; replace p9 := eq_true p9; replace q9 := eq_true q9; have ZL := ah (show Kd.R mV 127 w10 w.heap.size (fun _ => True) (.slice (some ⟨VT, 0, none⟩) y102.length oz) y102 from (Kd.fJ jf.out)); obtain ⟨agx, VU, ZM, SS, VW⟩ := Kd.jC ZL.out z127 ((uT) : Int) (ahF (by assumption)) (by have h_ : ((uT) : Int) < ((y102.length : Int) : Int) := ahF (by assumption); first | exact h_ | (have e_ := (Kd.bF jf.out).1; omega) | simpa using h_); obtain rfl := rH ZM; have XV := Kd.qF ZL.out ((uT) : Int) (ahF (by assumption)) (by have h_ : ((uT) : Int) < ((y102.length : Int) : Int) := ahF (by assumption); first | exact h_ | (have e_ := (Kd.bF jf.out).1; omega) | simpa using h_) (seg := [.int .i64 (wrap64 (((aW y102 (uT)).f1) + 1))]) (j := 1) VU SS (show 2 ≤ 2 from by decide) (x' := (⟨(aW y102 (uT)).f0, wrap64 (((aW y102 (uT)).f1) + 1)⟩ : eP)) (vH _ _ _ (⟨(aW y102 (uT)).f0, wrap64 (((aW y102 (uT)).f1) + 1)⟩ : eP) ) (fun _ hk => hk); have XW := SS 1 _ rfl; (try simp only [show (mV).sz = 2 from rfl, Nat.mul_one, Nat.add_zero] at XW); have XY := VW 1; (try simp only [show (mV).sz = 2 from rfl, Nat.mul_one, Nat.add_zero] at XY); clear VU SS VW ZM) | ((with_reducible refine kK (t := 3) (p := 41) rfl ?_); refine jS (t := 3) (p := 41) (v := ?vo_w13) (w1 := (w10.setCell ⟨VT, ((uT) : Int).toNat * 2 + 1, none⟩ (.int .i64 (wrap64 (((aW y102 (uT)).f1) + 1))))) ?hg ?ho ?hn ?hr ?_; (case ho => rfl); (case hg => rfl); (case hn => rfl); (case hr => first | (go_simp; done) | (go_simp; rfl)); intro Rt hw; have hg : w10.grownBy Rt (some VT) := (by rw [hw]; exact XV.2); have hp_ : Kd.R mV 127 Rt w.heap.size (fun _ => True) (.slice (some ⟨VT, 0, none⟩) y102.length oz) xJ := (by rw [hw, AL.out]; exact XV.1); clear XV; replace jf := ah (hp_); replace HB := ah ((by rw [hw]; exact aA (HB.out) GB9.out : Below w.heap.size w Rt)); clear hg hw hp_; have XZ : 0 ≤ (bG : Int) := ahF (by assumption); have X0 : bG < (l0.length : Int) := ahF (by assumption); obtain ⟨ZN, adf, Jv⟩ := Kd.gB HR0.out bG XZ X0; obtain rfl : kE = ZN := (by injection adf); replace Jv := (HB.out.cell (World.block_lt_of_cell? w _ Jv)).trans Jv; replace XZ := eq_true XZ; replace X0 := eq_true X0))
         go_roundg k1
         case measure => have := jy.out; omega
         case rel => exact ⟨(xJ), (wrap64 ((rd l0 bG) + 1)), (wrap64 (bG + 1)), (by first | rfl | (simp; done) | (simp [*]; done)), (by first | rfl | (simp; done) | (simp [*]; done)), H', ⟨by have := jy.out; omega⟩, ⟨by (repeat with_reducible refine Kd.kQ ?_); exact jf.out⟩, ⟨by repeat (first | (with_reducible first | exact HB.out | apply ak | apply ay | apply aH) | exact HB.out)⟩⟩
        rw [if_neg c8] at H
        exact absurd H (by simp)
       rw [if_neg c7] at H
       exact absurd H (by simp)
      rw [if_neg c5] at H
      exact absurd H (by simp)
     rw [if_neg c4] at H
     exact absurd H (by simp)
    rw [if_neg c3] at H
    have c3b0 : (bG == 0) = false := beq_eq_false_iff_ne.mpr c3
    have c3b1 : (bG != 0) = true := bne_iff_ne.mpr c3
    by_cases c14 : 0 ≤ bG
    ·rw [if_pos c14] at H
     have c14b0 : decide (0 ≤ bG) = true := ahG c14
     clear c14
     by_cases c15 : (rd l0 bG) = dU
     ·rw [if_pos c15] at H
      have c15b0 : ((rd l0 bG) == dU) = true := beq_iff_eq.mpr c15
      have c15b1 : ((rd l0 bG) != dU) = false := bne_eq_false_iff_eq.mpr c15
      clear c15
      obtain ⟨nC, SV⟩ : ∃ j_ : Int, (wrap64 ((fG.length : Int) - 1)) = j_ := ⟨_, rfl⟩
      replace H : (if 0 ≤ (nC) then (if (nC) < (fG.length : Int) then (tidepoleref17_Runs.l0 k1 l0 (fG.set ((nC) : Int).toNat (⟨(aW fG (nC)).f0, wrap64 (((aW fG (nC)).f1) + 1)⟩ : eP)) (wrap64 ((rd l0 bG) + 1)) (wrap64 (bG + 1))) else (none)) else (none)) = some r := by first | (rw [SV] at H; exact H) | (simp only [SV] at H ⊢; exact H)
      have hji16w : (IntKind.i64.wrap ((fG.length : Int) - 1)) = nC := (bI _).trans SV
      by_cases c17 : 0 ≤ (nC)
      ·rw [if_pos c17] at H
       have c17b0 : decide (0 ≤ (nC)) = true := ahG c17
       clear c17
       by_cases c18 : (nC) < (fG.length : Int)
       ·rw [if_pos c18] at H
        have c18b0 : decide ((nC) < (fG.length : Int)) = true := ahG c18
        clear c18
        obtain ⟨X3, LW⟩ : ∃ y_ : List (eP), y_ = (fG.set ((nC) : Int).toNat (⟨(aW fG (nC)).f0, wrap64 (((aW fG (nC)).f1) + 1)⟩ : eP)) := ⟨_, rfl⟩
        replace H : (tidepoleref17_Runs.l0 k1 l0 X3 (wrap64 ((rd l0 bG) + 1)) (wrap64 (bG + 1))) = some r := by first | (rw [LW]; with_reducible exact H) | (have jA := (Option.bind_some _ _).symm.trans H; rw [LW]; with_reducible exact jA) | (have jA := (Option.bind_some _ _).symm.trans H; with_reducible exact jA) | with_reducible exact H | (rw [LW]; exact H) | exact H
        have ZO := ah LW
        clear LW
        have H' := ah H
        clear H
        have NV : 0 ≤ (bG : Int) := ahF (by assumption)
        have NW : bG < (l0.length : Int) := ahF (by assumption)
        obtain ⟨O1, e108, wQ⟩ := Kd.gB HR0.out bG NV NW
        cases e108
        replace wQ := (HB.out.cell (World.block_lt_of_cell? w _ wQ)).trans wQ
        replace NV := eq_true NV
        replace NW := eq_true NW
        obtain ⟨P9, LM, U4⟩ := Kd.dw HO_3.out
        subst U4
        have X4 : 0 ≤ ((nC) : Int) := ahF (by assumption)
        have X5 : (nC) < (fG.length : Int) := ahF (by assumption)
        obtain ⟨ae4, e109, U8, U9⟩ := qI (Kd.bF HO_3.out).2.2 (nC) X4 X5
        cases e109
        replace X4 := eq_true X4
        replace X5 := eq_true X5
        have p19 : 0 ≤ ((nC) : Int) := ahF (by assumption)
        have q19 : ((nC) : Int) < ((fG.length : Int) : Int) := ahF (by assumption)
        obtain ⟨LX, ZB, UY, ZP, adi, agy, ZQ⟩ := Kd.qC HO_3.out (by omega)
        (first | cases UY | (injection UY with ea_ en_ ec_; (first | subst ea_ | (injection ea_ with ea_; subst ea_)); subst ec_; clear en_))
        have adk := ah ZP
        have agz := ah ZQ
        clear ZP adi ZQ
        (first | simp only [add_plain] at U8 | skip)
        (first | simp only [add_plain] at U9 | skip)
        obtain ⟨agA, ZR, ZT, SX, SY⟩ := Kd.jC HO_3.out z127 ((nC) : Int) p19 q19
        obtain rfl := rH ZT
        have adl : wr.cell? ⟨LX, ((nC) : Int).toNat * 2, none⟩ = some (.int .i64 ((aW fG (nC)).f0)) := SX 0 _ rfl
        have adn : wr.cell? ⟨LX, ((nC) : Int).toNat * 2 + 1, none⟩ = some (.int .i64 ((aW fG (nC)).f1)) := SX 1 _ rfl
        have ado : wr.frozen? ⟨LX, ((nC) : Int).toNat * 2, none⟩ = false := SY 0
        have adp : wr.frozen? ⟨LX, ((nC) : Int).toNat * 2 + 1, none⟩ = false := SY 1
        clear ZR SX SY ZT
        replace p19 := eq_true p19
        replace q19 := eq_true q19
        have ZU := ah (show Kd.R mV 127 wr w.heap.size (fun _ => True) (.slice (some ⟨LX, 0, none⟩) fG.length LM) fG from (Kd.fJ HO_3.out))
        obtain ⟨agB, VX, ZV, S9, VY⟩ := Kd.jC ZU.out z127 ((nC) : Int) (ahF (by assumption)) (by have h_ : ((nC) : Int) < ((fG.length : Int) : Int) := ahF (by assumption); first | exact h_ | (have e_ := (Kd.bF HO_3.out).1; omega) | simpa using h_)
        obtain rfl := rH ZV
        have X6 := Kd.qF ZU.out ((nC) : Int) (ahF (by assumption)) (by have h_ : ((nC) : Int) < ((fG.length : Int) : Int) := ahF (by assumption); first | exact h_ | (have e_ := (Kd.bF HO_3.out).1; omega) | simpa using h_) (seg := [.int .i64 (wrap64 (((aW fG (nC)).f1) + 1))]) (j := 1) VX S9 (show 2 ≤ 2 from by decide) (x' := (⟨(aW fG (nC)).f0, wrap64 (((aW fG (nC)).f1) + 1)⟩ : eP)) (vH _ _ _ (⟨(aW fG (nC)).f0, wrap64 (((aW fG (nC)).f1) + 1)⟩ : eP) ) (fun _ hk => hk)
        have X7 := S9 1 _ rfl
        (try simp only [show (mV).sz = 2 from rfl, Nat.mul_one, Nat.add_zero] at X7)
        have X8 := VY 1
        (try simp only [show (mV).sz = 2 from rfl, Nat.mul_one, Nat.add_zero] at X8)
        clear VX S9 VY ZV
        go_wp2_with (first | ((with_reducible refine kK (t := 3) (p := 41) rfl ?_); refine jS (t := 3) (p := 41) (v := ?vo_w22) (w1 := (wr.setCell ⟨LX, ((nC) : Int).toNat * 2 + 1, none⟩ (.int .i64 (wrap64 (((aW fG (nC)).f1) + 1))))) ?hg ?ho ?hn ?hr ?_; (case ho => rfl); (case hg => rfl); (case hn => rfl); (case hr => first | (go_simp; done) | (go_simp; rfl)); intro VZ hw; have hg : wr.grownBy VZ (some LX) := (by rw [hw]; exact X6.2); have hp_ : Kd.R mV 127 VZ w.heap.size (fun _ => True) (.slice (some ⟨LX, 0, none⟩) fG.length LM) X3 := (by rw [hw, ZO.out]; exact X6.1); clear X6; replace HO_3 := ah (hp_); replace HB := ah ((by rw [hw]; exact aA (HB.out) adk.out : Below w.heap.size w VZ)); clear hg hw hp_; have zq : 0 ≤ (bG : Int) := ahF (by assumption); have zu : bG < (l0.length : Int) := ahF (by assumption); obtain ⟨Ou, MZ, ou⟩ := Kd.gB HR0.out bG zq zu; obtain rfl : O1 = Ou := (by injection MZ); replace ou := (HB.out.cell (World.block_lt_of_cell? w _ ou)).trans ou; replace zq := eq_true zq; replace zu := eq_true zu))
        go_roundg k1
        case measure => have := jy.out; omega
        case rel => exact ⟨(X3), (wrap64 ((rd l0 bG) + 1)), (wrap64 (bG + 1)), (by first | rfl | (simp; done) | (simp [*]; done)), (by first | rfl | (simp; done) | (simp [*]; done)), H', ⟨by have := jy.out; omega⟩, ⟨by (repeat with_reducible refine Kd.kQ ?_); exact HO_3.out⟩, ⟨by repeat (first | (with_reducible first | exact HB.out | apply ak | apply ay | apply aH) | exact HB.out)⟩⟩
       rw [if_neg c18] at H
       exact absurd H (by simp)
      rw [if_neg c17] at H
      exact absurd H (by simp)
     rw [if_neg c15] at H
     have c15b0 : ((rd l0 bG) == dU) = false := beq_eq_false_iff_ne.mpr c15
     have c15b1 : ((rd l0 bG) != dU) = true := bne_iff_ne.mpr c15
     by_cases c23 : fG.length < 8796093022208
     ·rw [if_pos c23] at H
      have ZW := ah c23
      clear c23
      obtain ⟨y113, hy113⟩ : ∃ y_ : List (eP), y_ = (fG ++ [(⟨wrap64 ((rd l0 bG) - dU), 0⟩ : eP)]) := ⟨_, rfl⟩
      replace H : (if 0 ≤ (wrap64 ((y113.length : Int) - 1)) then (if (wrap64 ((y113.length : Int) - 1)) < (y113.length : Int) then (tidepoleref17_Runs.l0 k1 l0 (y113.set ((wrap64 ((y113.length : Int) - 1)) : Int).toNat (⟨(aW y113 (wrap64 ((y113.length : Int) - 1))).f0, wrap64 (((aW y113 (wrap64 ((y113.length : Int) - 1))).f1) + 1)⟩ : eP)) (wrap64 ((rd l0 bG) + 1)) (wrap64 (bG + 1))) else (none)) else (none)) = some r := by first | (rw [hy113]; with_reducible exact H) | (have jA := (Option.bind_some _ _).symm.trans H; rw [hy113]; with_reducible exact jA) | (have jA := (Option.bind_some _ _).symm.trans H; with_reducible exact jA) | with_reducible exact H | (rw [hy113]; exact H) | exact H
      have ZX := ah hy113
      clear hy113
      obtain ⟨nD, Tc⟩ : ∃ j_ : Int, (wrap64 ((y113.length : Int) - 1)) = j_ := ⟨_, rfl⟩
      replace H : (if 0 ≤ (nD) then (if (nD) < (y113.length : Int) then (tidepoleref17_Runs.l0 k1 l0 (y113.set ((nD) : Int).toNat (⟨(aW y113 (nD)).f0, wrap64 (((aW y113 (nD)).f1) + 1)⟩ : eP)) (wrap64 ((rd l0 bG) + 1)) (wrap64 (bG + 1))) else (none)) else (none)) = some r := by first | (rw [Tc] at H; exact H) | (simp only [Tc] at H ⊢; exact H)
      have hji24w : (IntKind.i64.wrap ((y113.length : Int) - 1)) = nD := (bI _).trans Tc
      by_cases c25 : 0 ≤ (nD)
      ·rw [if_pos c25] at H
       have c25b0 : decide (0 ≤ (nD)) = true := ahG c25
       clear c25
       by_cases QO : (nD) < (y113.length : Int)
       ·rw [if_pos QO] at H
        have c26b0 : decide ((nD) < (y113.length : Int)) = true := ahG QO
        clear QO
        obtain ⟨X9, LY⟩ : ∃ y_ : List (eP), y_ = (y113.set ((nD) : Int).toNat (⟨(aW y113 (nD)).f0, wrap64 (((aW y113 (nD)).f1) + 1)⟩ : eP)) := ⟨_, rfl⟩
        replace H : (tidepoleref17_Runs.l0 k1 l0 X9 (wrap64 ((rd l0 bG) + 1)) (wrap64 (bG + 1))) = some r := by first | (rw [LY]; with_reducible exact H) | (have jA := (Option.bind_some _ _).symm.trans H; rw [LY]; with_reducible exact jA) | (have jA := (Option.bind_some _ _).symm.trans H; with_reducible exact jA) | with_reducible exact H | (rw [LY]; exact H) | exact H
        have ZY := ah LY
        clear LY
        have H' := ah H
        clear H
        have NV : 0 ≤ (bG : Int) := ahF (by assumption)
        have NW : bG < (l0.length : Int) := ahF (by assumption)
        obtain ⟨O1, e108, wQ⟩ := Kd.gB HR0.out bG NV NW
        cases e108
        replace wQ := (HB.out.cell (World.block_lt_of_cell? w _ wQ)).trans wQ
        replace NV := eq_true NV
        replace NW := eq_true NW
        have Ya : 0 ≤ (bG : Int) := ahF (by assumption)
        have Yb : bG < (l0.length : Int) := ahF (by assumption)
        obtain ⟨Z4, adq, Jw⟩ := Kd.gB HR0.out bG Ya Yb
        obtain rfl : O1 = Z4 := (by injection adq)
        replace Jw := (HB.out.cell (World.block_lt_of_cell? w _ Jw)).trans Jw
        replace Ya := eq_true Ya
        replace Yb := eq_true Yb
        go_wp2_with (first | ((with_reducible refine eG (b := .append) (xs := #[.tmp 22, .tmp 30]) rfl ?_); at_builtin; refine Kd.je mV (w0 := w) w.heap.size rfl (.tmp 22) (.tmp 30) 39 127 (.agg #[(.int .i64 0), (.int .i64 0)]) 16 rfl Try.underlying39 IJ rfl (by decide) (by omega) u3 fG (⟨wrap64 ((rd l0 bG) - dU), 0⟩ : eP) [.int .i64 (wrap64 ((rd l0 bG) - dU)), .int .i64 0] (fun _ => True) (fun _ => False) rfl rfl ?aP (fun _ hk => hk.elim) ?aF ?aO ?aB ?aS ?aL ?_; (case aP => exact vH _ _ _ (⟨wrap64 ((rd l0 bG) - dU), 0⟩ : eP)); (case aB => exact (bg HB.out)); (case aF => exact (fun _ _ => trivial)); (case aO => exact (Kd.fJ HO_3.out)); (case aS => exact (aQ (bg HB.out))); (case aL => have := ZW.out; omega); intro Xl VO ho hb hg hat; rw [← ZX.out] at ho; have yh := ah (ho); replace HB := ah (hb); clear HO_3 ho hb hg hat; obtain ⟨ZE, UZ, U2⟩ := Kd.dw yh.out; subst U2; have Yc : 0 ≤ ((nD) : Int) := ahF (by assumption); have Yd : (nD) < (y113.length : Int) := ahF (by assumption); obtain ⟨ae5, e116, Va, Vb⟩ := qI (Kd.bF yh.out).2.2 (nD) Yc Yd; cases e116; replace Yc := eq_true Yc; replace Yd := eq_true Yd; have p27 : 0 ≤ ((nD) : Int) := ahF (by assumption); have q27 : ((nD) : Int) < ((y113.length : Int) : Int) := ahF (by assumption); obtain ⟨LZ, QY, MX, Z5, ads, agC, Z7⟩ := Kd.qC yh.out (by omega); (first | cases MX | (injection MX with ea_ en_ ec_; (first | subst ea_ | (injection ea_ with ea_; subst ea_)); subst ec_; clear en_)); have adt := ah Z5; have agD := ah Z7; clear Z5 ads Z7; (first | simp only [add_plain] at Va | skip); (first | simp only [add_plain] at Vb | skip); obtain ⟨agE, Z8, Z9, Td, Tf⟩ := Kd.jC yh.out z127 ((nD) : Int) p27 q27; obtain rfl := rH Z9; have adu : VO.cell? ⟨LZ, ((nD) : Int).toNat * 2, none⟩ = some (.int .i64 ((aW y113 (nD)).f0)) := Td 0 _ rfl; have adv : VO.cell? ⟨LZ, ((nD) : Int).toNat * 2 + 1, none⟩ = some (.int .i64 ((aW y113 (nD)).f1)) := Td 1 _ rfl; have adw : VO.frozen? ⟨LZ, ((nD) : Int).toNat * 2, none⟩ = false := Tf 0; have adx : VO.frozen? ⟨LZ, ((nD) : Int).toNat * 2 + 1, none⟩ = false := Tf 1; clear Z8 Td Tf Z9; replace p27 := eq_true p27; replace q27 := eq_true q27; have aac := ah (show Kd.R mV 127 VO w.heap.size (fun _ => True) (.slice (some ⟨LZ, 0, none⟩) y113.length UZ) y113 from (Kd.fJ yh.out)); obtain ⟨agF, V3, aad, Ti, V4⟩ := Kd.jC aac.out z127 ((nD) : Int) (ahF (by assumption)) (by have h_ : ((nD) : Int) < ((y113.length : Int) : Int) := ahF (by assumption); first | exact h_ | (have e_ := (Kd.bF yh.out).1; omega) | simpa using h_); obtain rfl := rH aad; have Ye := Kd.qF aac.out ((nD) : Int) (ahF (by assumption)) (by have h_ : ((nD) : Int) < ((y113.length : Int) : Int) := ahF (by assumption); first | exact h_ | (have e_ := (Kd.bF yh.out).1; omega) | simpa using h_) (seg := [.int .i64 (wrap64 (((aW y113 (nD)).f1) + 1))]) (j := 1) V3 Ti (show 2 ≤ 2 from by decide) (x' := (⟨(aW y113 (nD)).f0, wrap64 (((aW y113 (nD)).f1) + 1)⟩ : eP)) (vH _ _ _ (⟨(aW y113 (nD)).f0, wrap64 (((aW y113 (nD)).f1) + 1)⟩ : eP) ) (fun _ hk => hk); have Yf := Ti 1 _ rfl; (try simp only [show (mV).sz = 2 from rfl, Nat.mul_one, Nat.add_zero] at Yf); have Yg := V4 1; (try simp only [show (mV).sz = 2 from rfl, Nat.mul_one, Nat.add_zero] at Yg); clear V3 Ti V4 aad) | ((with_reducible refine kK (t := 3) (p := 41) rfl ?_); refine jS (t := 3) (p := 41) (v := ?vo_w31) (w1 := (VO.setCell ⟨LZ, ((nD) : Int).toNat * 2 + 1, none⟩ (.int .i64 (wrap64 (((aW y113 (nD)).f1) + 1))))) ?hg ?ho ?hn ?hr ?_; (case ho => rfl); (case hg => rfl); (case hn => rfl); (case hr => first | (go_simp; done) | (go_simp; rfl)); intro w31 hw; have hg : VO.grownBy w31 (some LZ) := (by rw [hw]; exact Ye.2); have hp_ : Kd.R mV 127 w31 w.heap.size (fun _ => True) (.slice (some ⟨LZ, 0, none⟩) y113.length UZ) X9 := (by rw [hw, ZY.out]; exact Ye.1); clear Ye; replace yh := ah (hp_); replace HB := ah ((by rw [hw]; exact aA (HB.out) adt.out : Below w.heap.size w w31)); clear hg hw hp_; have Yh : 0 ≤ (bG : Int) := ahF (by assumption); have Yi : bG < (l0.length : Int) := ahF (by assumption); obtain ⟨aae, e118, Jy⟩ := Kd.gB HR0.out bG Yh Yi; obtain rfl : O1 = aae := (by injection e118); replace Jy := (HB.out.cell (World.block_lt_of_cell? w _ Jy)).trans Jy; replace Yh := eq_true Yh; replace Yi := eq_true Yi))
        go_roundg k1
        case measure => have := jy.out; omega
        case rel => exact ⟨(X9), (wrap64 ((rd l0 bG) + 1)), (wrap64 (bG + 1)), (by first | rfl | (simp; done) | (simp [*]; done)), (by first | rfl | (simp; done) | (simp [*]; done)), H', ⟨by have := jy.out; omega⟩, ⟨by (repeat with_reducible refine Kd.kQ ?_); exact yh.out⟩, ⟨by repeat (first | (with_reducible first | exact HB.out | apply ak | apply ay | apply aH) | exact HB.out)⟩⟩
       rw [if_neg QO] at H
       exact absurd H (by simp)
      rw [if_neg c25] at H
      exact absurd H (by simp)
     rw [if_neg c23] at H
     exact absurd H (by simp)
    rw [if_neg c14] at H
    exact absurd H (by simp)
   rw [if_neg c2] at H
   have c2b0 : decide (bG < (l0.length : Int)) = false := ahH c2
   clear c2
   obtain rfl := Option.some.inj H
   go_wp2
   go_ret
   exact ⟨_, by first | rfl | (simp [aU, aV] <;> rfl) | (simp [*, aU, aV] <;> rfl), by (repeat with_reducible refine Kd.kQ ?_); exact HO_3.out, by repeat (first | (with_reducible first | exact HB.out | apply ak | apply ay | apply aH) | exact HB.out)⟩
end Go.Proofs.Ytooiccpmngmapaa.P
namespace Go.Proofs.Ytooiccpmngmapaa.P
open Go.RowKit Go.Shelf Go.Proofs.YtooiccpmngmapaaW.PrintWords Go.Proofs.YtooiccpmngmapaaW.PrintLast Go.Proofs.YtooiccpmngmapaaW.PrintMore
theorem Ik {l : List Int} {i : Nat} (h : i < l.length) : (iM (l.take (i + 1))).2 = l[i] + 1 := by
 rw [take_at h, rV]; rfl
theorem Tj (c : List Sp × Int) (p : Int) : (uO c p).1 ≠ [] := by
 unfold uO
 split
 ·simp
 ·rename_i h
  have hc : c.1 ≠ [] := fun e => h (.inl e)
  obtain ⟨s, hs⟩ : ∃ s, c.1.getLast? = some s := ⟨c.1.getLast hc, List.getLast?_eq_some_getLast hc⟩
  simp [hs]
theorem L6 {l : List Int} {i : Nat} (h : i < l.length) : (iM (l.take (i + 1))).1 ≠ [] := by
 rw [take_at h, rV]; exact Tj _ _
theorem Tn {l : List Int} (hu : l.Pairwise (· < ·)) {i : Nat} (h : i + 1 < l.length) : l[i] < l[i + 1] := List.pairwise_iff_getElem.1 hu i (i + 1) (by omega) h (by omega)
theorem Jz (l : List Int) (hu : l.Pairwise (· < ·)) (hb : ∀ x ∈ l, -1048576 ≤ x ∧ x ≤ 1048576) (hm : l.length ≤ 4096) : ∀ (d k i : Nat), l.length - i = d → d < k → i ≤ l.length → (iM (l.take i)).1.length ≤ i →
    tidepoleref06_Runs.l0 k l ((iM (l.take i)).1.length : Int) (i : Int) = some ((spansOf l).length : Int) := by
  intro d
  induction d with
  | zero =>
    intro k i hd hk hi hc
    obtain ⟨k, rfl⟩ : ∃ m, k = m + 1 := ⟨k - 1, by omega⟩
    rw [tidepoleref06_Runs.l0, if_neg (by omega), List.take_of_length_le (by omega)]
    rfl
  | succ d ih =>
    intro k i hd hk hi hc
    obtain ⟨k, rfl⟩ : ∃ m, k = m + 1 := ⟨k - 1, by omega⟩
    have hlt : i < l.length := by omega
    have hs : iM (l.take (i + 1)) = uO (iM (l.take i)) l[i] := by rw [take_at hlt, rV]
    rw [tidepoleref06_Runs.l0, if_pos (by omega)]
    cases i with
    | zero =>
      rw [if_pos (by simp)]
      have e1 : (iM (l.take 1)).1.length = 1 := by rw [hs]; simp [uO, iM]
      have := ih k 1 (by omega) (by omega) (by omega) (by omega)
      rw [e1] at this
      have e0 : (iM (l.take 0)).1.length = 0 := by simp [iM]
      rw [e0]
      rw [show wrap64 (((0 : Nat) : Int) + 1) = ((1 : Nat) : Int) from by unfold wrap64; omega]
      exact this
    | succ i =>
      have hi' : i < l.length := by omega
      have hup := Tn hu hlt
      have e2 := Ik hi'
      have hne := L6 hi'
      obtain ⟨b1, b2⟩ := hb l[i] (List.getElem_mem hi')
      obtain ⟨b3, b4⟩ := hb l[i + 1] (List.getElem_mem hlt)
      rw [if_neg (by omega), if_pos (by omega), eX (x := ((i + 1 : Nat) : Int) - 1) (by omega) (by omega), show ((i + 1 : Nat) : Int) - 1 = (i : Int) by omega, if_pos (by omega), if_pos (by omega), sK hlt, sK hi', eX (x := l[i] + 1) (by omega) (by omega), wrap_succ (by omega)]
      by_cases c : l[i + 1] = l[i] + 1
      · rw [if_pos c]
        have e1 : (iM (l.take (i + 1 + 1))).1.length = (iM (l.take (i + 1))).1.length := by
          rw [hs]
          unfold uO
          rw [if_neg (by rw [e2]; rintro (h | h); exact hne h; omega)]
          obtain ⟨s, hs'⟩ : ∃ s, (iM (l.take (i + 1))).1.getLast? = some s := ⟨_, List.getLast?_eq_some_getLast hne⟩
          have hlen : 0 < (iM (l.take (i + 1))).1.length := List.length_pos_iff.2 hne
          simp [hs']; omega
        rw [← e1]
        exact ih k (i + 1 + 1) (by omega) (by omega) (by omega) (by omega)
      · rw [if_neg c]
        have e1 : (iM (l.take (i + 1 + 1))).1.length = (iM (l.take (i + 1))).1.length + 1 := by
          rw [hs]
          unfold uO
          rw [if_pos (by rw [e2]; exact .inr (by omega))]
          simp
        rw [eX (by omega) (by omega), show ((iM (l.take (i + 1))).1.length : Int) + 1 = ((iM (l.take (i + 1 + 1))).1.length : Int) by omega]
        exact ih k (i + 1 + 1) (by omega) (by omega) (by omega) (by omega)
theorem Fq (l : List Int) (hu : l.Pairwise (· < ·)) (hb : ∀ x ∈ l, -1048576 ≤ x ∧ x ≤ 1048576) (hm : l.length ≤ 4096) (k : Nat) (hk : 4096 < k) : tidepoleref06_Runs.f k l = some ((spansOf l).length : Int) := by
 have := Jz l hu hb hm l.length k 0 (by omega) (by omega) (by omega) (by simp [iM])
 exact this
attribute [local go_sem] iV iW jH jI gW gX iY iZ
def tidepoleref10_Right.f (a0 : Int) : Option (Bool) := some (decide (a0 < 9218868437227405312))
set_option maxHeartbeats 8000000 in
set_option maxRecDepth 100000 in
theorem tidepoleref10_Right.calls (a0 : Int) (r : Bool) (w : World) (h : tidepoleref10_Right.f a0 = some r) :
  Calls Try.prog 151 #[.int .u64 a0] w fun e w' => e = .returned (.bool r) ∧ cZ w w' := by
 have H : (some (decide (a0 < 9218868437227405312))) = some r := h
 clear h
 obtain rfl := Option.some.inj H
 go_enter Try.func151, Try.ntmps151
 go_wp2
 go_ret
 exact ⟨by first | rfl | (simp; done) | (simp [*]; done), by repeat (first | exact cZ.refl _ | apply cZ.step)⟩
def tidepoleref10_Side.l0 : Nat → List Int → Int → Option (Int)
 | 0, _, _ => none
 | k + 1, x1, x6 => if x6 < (x1.length : Int) then (if 0 ≤ x6 then ((tidepoleref10_Right.f (rd x1 x6)).bind fun fQ => (if fQ = true then (tidepoleref10_Side.l0 k x1 (wrap64 (x6 + 1))) else (some 22))) else (none)) else (some 0)
def tidepoleref10_Side.f (k : Nat) (l0 : List (eP)) (l1 : List Int) : Option (Int) := (tidepoleref06_Check.f k l0).bind fun dV => (if dV = 0 then ((tidepoleref06_Places.f k l0).bind fun fH => (if (fH.length : Int) = (l1.length : Int) then (tidepoleref10_Side.l0 k l1 0) else (some 23))) else (some dV))
set_option maxHeartbeats 8000000 in
set_option maxRecDepth 100000 in
theorem tidepoleref10_Side.calls (k : Nat) (A0 : Option Addr) (c0 : Nat) (l0 : List (eP)) (A1 : Option Addr) (c1 : Nat) (l1 : List Int) (r : Int) (w : World) (hr0 : Kd.C mV w A0 l0.length l0) (hc0 : l0.length ≤ c0) (hr1 : Kd.C (Kd.int .u64) w A1 l1.length l1) (hc1 : l1.length ≤ c1) (h : tidepoleref10_Side.f k l0 l1 = some r) :
  Calls Try.prog 152 #[.slice A0 l0.length c0, .slice A1 l1.length c1] w fun e w' => e = .returned (.int .i64 r) ∧ Below w.heap.size w w' := by
 have HR0 := ah hr0
 have uH := ah hc0
 clear hr0 hc0
 have HR1 := ah hr1
 have F9 := ah hc1
 clear hr1 hc1
 have HB := ah (Below.refl w.heap.size w)
 have H : ((tidepoleref06_Check.f k l0).bind fun dV => (if dV = 0 then ((tidepoleref06_Places.f k l0).bind fun fH => (if (fH.length : Int) = (l1.length : Int) then (tidepoleref10_Side.l0 k l1 0) else (some 23))) else (some dV))) = some r := h
 clear h
 replace H := Option.bind_eq_some_iff.mp H
 obtain ⟨dV, G7, H⟩ := H
 replace H : (if dV = 0 then ((tidepoleref06_Places.f k l0).bind fun fH => (if (fH.length : Int) = (l1.length : Int) then (tidepoleref10_Side.l0 k l1 0) else (some 23))) else (some dV)) = some r := H
 have A3 := ah G7
 clear G7
 by_cases c4 : dV = 0
 ·rw [if_pos c4] at H
  have c4b0 : (dV == 0) = true := beq_iff_eq.mpr c4
  have c4b1 : (dV != 0) = false := bne_eq_false_iff_eq.mpr c4
  clear c4
  replace H := Option.bind_eq_some_iff.mp H
  obtain ⟨fH, Kt, H⟩ := H
  replace H : (if (fH.length : Int) = (l1.length : Int) then (tidepoleref10_Side.l0 k l1 0) else (some 23)) = some r := H
  have A5 := ah Kt
  clear Kt
  by_cases c6 : (fH.length : Int) = (l1.length : Int)
  ·rw [if_pos c6] at H
   have c6b0 : ((fH.length : Int) == (l1.length : Int)) = true := beq_iff_eq.mpr c6
   have c6b1 : ((fH.length : Int) != (l1.length : Int)) = false := bne_eq_false_iff_eq.mpr c6
   have c6b2 : (fH.length == l1.length) = true := by first | simpa using c6 | (simp at c6 ⊢; omega)
   clear c6
   have H' := ah H
   clear H
   go_enter Try.func152, Try.ntmps152
   go_wp2_with (first | ((with_reducible refine bP (f := 142) rfl ?_); refine gU (some 8) Try.func142 #[.slice A0 l0.length c0] ?_; (with_reducible refine (tidepoleref06_Check.calls k _ _ l0 dV _ ?dK ?dL A3.out).mono ?_); (case dK => exact Kd.jV HR0.out); (case dL => exact uH.out); rintro e w7 ⟨rfl, hb⟩; refine ⟨_, rfl, ?_⟩; replace HB := ah (aZ (bg HB.out) hb); (try clear hb); (try clear hb2); (try clear hk); (try clear hi); clear A3) | ((with_reducible refine bP (f := 97) rfl ?_); refine gU (some 13) Try.func97 #[.slice A0 l0.length c0] ?_; (with_reducible refine (tidepoleref06_Places.calls k _ _ l0 fH _ ?dK ?dL A5.out).mono ?_); (case dK => exact Kd.jV (Kd.bT HR0.out HB.out)); (case dL => exact uH.out); rintro e w8 ⟨zD, rfl, ho0, hb⟩; refine ⟨_, rfl, ?_⟩; have jf := ah (Kd.dh ho0 (aQ (bg HB.out))); replace HB := ah (aZ (bg HB.out) hb); (try clear hb); (try clear hb2); (try clear hk); (try clear hi); (try clear ho0); clear A5; obtain ⟨JI, Jc, Rx⟩ := Kd.dw jf.out; subst Rx))
   go_loopg [6] k (fun kq v6 w' => ∃ (fP : Int), v6 = .int .i64 fP ∧ aj (tidepoleref10_Side.l0 kq l1 fP = some r) ∧ aj (kq ≤ k) ∧ aj (Below w.heap.size w w'))
   case atStart => exact ⟨(0), (by first | rfl | (simp; done) | (simp [*]; done)), H', ⟨Nat.le_refl _⟩, ⟨by repeat (first | (with_reducible first | exact HB.out | apply ak | apply ay | apply aH) | exact HB.out)⟩⟩
   case round =>
    clear H'
    try clear c1
    try clear p2
    try clear c4
    try clear c4b0
    try clear c4b1
    try clear c6
    try clear c6b0
    try clear c6b1
    try clear c6b2
    try clear c9
    obtain ⟨fP, rfl, HA, jy, HB⟩ := hrel
    cases gk with
    | zero => exact absurd HA.out (by simp [tidepoleref10_Side.l0])
    | succ k1 =>
     have H := HA.out
     clear HA
     simp only [tidepoleref10_Side.l0] at H
     by_cases c10 : fP < (l1.length : Int)
     ·rw [if_pos c10] at H
      have c10b0 : decide (fP < (l1.length : Int)) = true := ahG c10
      clear c10
      by_cases c11 : 0 ≤ fP
      ·rw [if_pos c11] at H
       have c11b0 : decide (0 ≤ fP) = true := ahG c11
       clear c11
       replace H := Option.bind_eq_some_iff.mp H
       obtain ⟨fQ, Tq, H⟩ := H
       replace H : (if fQ = true then (tidepoleref10_Side.l0 k1 l1 (wrap64 (fP + 1))) else (some 22)) = some r := H
       have Vd := ah Tq
       clear Tq
       by_cases c13 : fQ = true
       ·subst c13
        have H1 : (tidepoleref10_Side.l0 k1 l1 (wrap64 (fP + 1))) = some r := by rw [if_pos rfl] at H; exact H
        clear H
        have H := H1
        clear H1
        have H' := ah H
        clear H
        have nN : 0 ≤ (fP : Int) := ahF (by assumption)
        have nO : fP < (l1.length : Int) := ahF (by assumption)
        obtain ⟨Dj, xI, jW⟩ := Kd.gB HR1.out fP nN nO
        cases xI
        replace jW := (HB.out.cell (World.block_lt_of_cell? w _ jW)).trans jW
        replace nN := eq_true nN
        replace nO := eq_true nO
        go_wp2_with (first | ((with_reducible refine bP (f := 151) rfl ?_); refine gU (some 28) Try.func151 #[.int .u64 (rd l1 fP)] ?_; (with_reducible refine (tidepoleref10_Right.calls (rd l1 fP) true _ Vd.out).mono ?_); rintro e w' ⟨rfl, ⟨nd, rfl⟩⟩; refine ⟨_, rfl, ?_⟩; clear Vd))
        go_roundg k1
        case measure => have := jy.out; omega
        case rel => exact ⟨(wrap64 (fP + 1)), (by first | rfl | (simp; done) | (simp [*]; done)), H', ⟨by have := jy.out; omega⟩, ⟨by repeat (first | (with_reducible first | exact HB.out | apply ak | apply ay | apply aH) | exact HB.out)⟩⟩
       replace c13 := Bool.eq_false_iff.mpr c13
       subst c13
       have H1 : (some 22) = some r := by rw [if_neg (show ¬ (false = true) by decide)] at H; exact H
       clear H
       have H := H1
       clear H1
       obtain rfl := Option.some.inj H
       have nN : 0 ≤ (fP : Int) := ahF (by assumption)
       have nO : fP < (l1.length : Int) := ahF (by assumption)
       obtain ⟨Dj, xI, jW⟩ := Kd.gB HR1.out fP nN nO
       cases xI
       replace jW := (HB.out.cell (World.block_lt_of_cell? w _ jW)).trans jW
       replace nN := eq_true nN
       replace nO := eq_true nO
       go_wp2_with (first | ((with_reducible refine bP (f := 151) rfl ?_); refine gU (some 28) Try.func151 #[.int .u64 (rd l1 fP)] ?_; (with_reducible refine (tidepoleref10_Right.calls (rd l1 fP) false _ Vd.out).mono ?_); rintro e w' ⟨rfl, ⟨nd, rfl⟩⟩; refine ⟨_, rfl, ?_⟩; clear Vd))
       go_ret
       exact ⟨by first | rfl | (simp [aU, aV] <;> rfl) | (simp [*, aU, aV] <;> rfl), by repeat (first | (with_reducible first | exact HB.out | apply ak | apply ay | apply aH) | exact HB.out)⟩
      rw [if_neg c11] at H
      exact absurd H (by simp)
     rw [if_neg c10] at H
     have c10b0 : decide (fP < (l1.length : Int)) = false := ahH c10
     clear c10
     obtain rfl := Option.some.inj H
     go_wp2
     go_ret
     exact ⟨by first | rfl | (simp [aU, aV] <;> rfl) | (simp [*, aU, aV] <;> rfl), by repeat (first | (with_reducible first | exact HB.out | apply ak | apply ay | apply aH) | exact HB.out)⟩
  rw [if_neg c6] at H
  have c6b0 : ((fH.length : Int) == (l1.length : Int)) = false := beq_eq_false_iff_ne.mpr c6
  have c6b1 : ((fH.length : Int) != (l1.length : Int)) = true := bne_iff_ne.mpr c6
  have c6b2 : (fH.length == l1.length) = false := by first | simpa using c6 | (simp at c6 ⊢; omega)
  obtain rfl := Option.some.inj H
  go_enter Try.func152, Try.ntmps152
  go_wp2_with (first | ((with_reducible refine bP (f := 142) rfl ?_); refine gU (some 8) Try.func142 #[.slice A0 l0.length c0] ?_; (with_reducible refine (tidepoleref06_Check.calls k _ _ l0 dV _ ?dK ?dL A3.out).mono ?_); (case dK => exact Kd.jV HR0.out); (case dL => exact uH.out); rintro e Zk ⟨rfl, hb⟩; refine ⟨_, rfl, ?_⟩; replace HB := ah (aZ (bg HB.out) hb); (try clear hb); (try clear hb2); (try clear hk); (try clear hi); clear A3) | ((with_reducible refine bP (f := 97) rfl ?_); refine gU (some 13) Try.func97 #[.slice A0 l0.length c0] ?_; (with_reducible refine (tidepoleref06_Places.calls k _ _ l0 fH _ ?dK ?dL A5.out).mono ?_); (case dK => exact Kd.jV (Kd.bT HR0.out HB.out)); (case dL => exact uH.out); rintro e DF ⟨zD, rfl, ho0, hb⟩; refine ⟨_, rfl, ?_⟩; have jf := ah (Kd.dh ho0 (aQ (bg HB.out))); replace HB := ah (aZ (bg HB.out) hb); (try clear hb); (try clear hb2); (try clear hk); (try clear hi); (try clear ho0); clear A5; obtain ⟨Nq, Kw, Jd⟩ := Kd.dw jf.out; subst Jd))
  go_ret
  exact ⟨by first | rfl | (simp [aU, aV] <;> rfl) | (simp [*, aU, aV] <;> rfl), by repeat (first | (with_reducible first | exact HB.out | apply ak | apply ay | apply aH) | exact HB.out)⟩
 rw [if_neg c4] at H
 have c4b0 : (dV == 0) = false := beq_eq_false_iff_ne.mpr c4
 have c4b1 : (dV != 0) = true := bne_iff_ne.mpr c4
 obtain rfl := Option.some.inj H
 go_enter Try.func152, Try.ntmps152
 go_wp2_with (first | ((with_reducible refine bP (f := 142) rfl ?_); refine gU (some 8) Try.func142 #[.slice A0 l0.length c0] ?_; (with_reducible refine (tidepoleref06_Check.calls k _ _ l0 dV _ ?dK ?dL A3.out).mono ?_); (case dK => exact Kd.jV HR0.out); (case dL => exact uH.out); rintro e VG ⟨rfl, hb⟩; refine ⟨_, rfl, ?_⟩; replace HB := ah (aZ (bg HB.out) hb); (try clear hb); (try clear hb2); (try clear hk); (try clear hi); clear A3))
 go_ret
 exact ⟨by first | rfl | (simp [aU, aV] <;> rfl) | (simp [*, aU, aV] <;> rfl), by repeat (first | (with_reducible first | exact HB.out | apply ak | apply ay | apply aH) | exact HB.out)⟩
mutual
def tidepoleref10_Check.j0 : Nat → Bool → Int → Int → Int → Int → Int → List (eP) → List (eP) → List Int → List Int → Option (Int)
 | 0, _, _, _, _, _, _, _, _, _, _ => none
 | k + 1, x11, mF, oD, oG, oH, pY, oI, oJ, oK, oL => if x11 = true then (some 21) else (if oD ≥ 9218868437227405312 then (some 11) else ((tidepoleref10_Right.f oG).bind fun fH => (if fH = true then ((tidepoleref10_Right.f oH).bind fun dZ => (tidepoleref10_Check.j1 k (!dZ) mF oD oG oH pY oI oJ oK oL)) else (tidepoleref10_Check.j1 k true mF oD oG oH pY oI oJ oK oL))))
def tidepoleref10_Check.j1 : Nat → Bool → Int → Int → Int → Int → Int → List (eP) → List (eP) → List Int → List Int → Option (Int)
 | 0, _, _, _, _, _, _, _, _, _, _ => none
 | k + 1, x24, mF, oD, oG, oH, pY, oI, oJ, oK, oL => if x24 = true then (some 22) else ((tidepoleref10_Side.f k oI oK).bind fun jL => (if jL = 0 then ((tidepoleref10_Side.f k oJ oL).bind fun t105 => (some t105)) else (some jL)))
end
def tidepoleref10_Check.f (k : Nat) (cO : Int) (dF : Int) (dO : Int) (dP : Int) (dM : Int) (dJ : List (eP)) (dG : List (eP)) (dB : List Int) (dA : List Int) : Option (Int) := if cO < (-4) then (tidepoleref10_Check.j0 k true cO dF dO dP dM dJ dG dB dA) else (tidepoleref10_Check.j0 k (decide (cO > 8)) cO dF dO dP dM dJ dG dB dA)
set_option maxHeartbeats 8000000 in
set_option maxRecDepth 100000 in
theorem tidepoleref10_Check.calls (k : Nat) (cO : Int) (dF : Int) (dO : Int) (dP : Int) (dM : Int) (iO : Option Addr) (iP : Nat) (dJ : List (eP)) (iJ : Option Addr) (iK : Nat) (dG : List (eP)) (iw : Option Addr) (iy : Nat) (dB : List Int) (iD : Option Addr) (iE : Nat) (dA : List Int) (r : Int) (w : World) (oP : Kd.C mV w iO dJ.length dJ) (oQ : dJ.length ≤ iP) (oU : Kd.C mV w iJ dG.length dG) (oV : dG.length ≤ iK) (qP : Kd.C (Kd.int .u64) w iw dB.length dB) (qQ : dB.length ≤ iy) (qR : Kd.C (Kd.int .u64) w iD dA.length dA) (qU : dA.length ≤ iE) (h : tidepoleref10_Check.f k cO dF dO dP dM dJ dG dB dA = some r) :
  Calls Try.prog 95 #[.agg #[.int .i64 cO, .int .u64 dF, .int .u64 dO, .int .u64 dP, .int .u64 dM, .slice iO dJ.length iP, .slice iJ dG.length iK, .slice iw dB.length iy, .slice iD dA.length iE]] w fun e w' => e = .returned (.int .i64 r) ∧ Below w.heap.size w w' := by
 have aaf := Try.underlying60
 have nX := ah oP
 have nY := ah oQ
 clear oP oQ
 have oW := ah oU
 have oZ := ah oV
 clear oU oV
 have pK := ah qP
 have pO := ah qQ
 clear qP qQ
 have qm := ah qR
 have qo := ah qU
 clear qR qU
 have HB := ah (Below.refl w.heap.size w)
 have H : (if cO < (-4) then (tidepoleref10_Check.j0 k true cO dF dO dP dM dJ dG dB dA) else (tidepoleref10_Check.j0 k (decide (cO > 8)) cO dF dO dP dM dJ dG dB dA)) = some r := h
 clear h
 have HC2 := ah H
 clear H
 go_enter Try.func95, Try.ntmps95
 go_upto_region 1 with (first | ((with_reducible refine fK (N := 1) rfl ?_); refine fA ?hg (N := 1) ?hd (cs := #[.int .i64 cO, .int .u64 dF, .int .u64 dO, .int .u64 dP, .int .u64 dM, .slice iO dJ.length iP, .slice iJ dG.length iK, .slice iw dB.length iy, .slice iD dA.length iE]) (t := 60) ?hr ?_; (case hd => rfl); (case hg => rfl); (case hr => first | (go_simp; done) | (go_simp; rfl)); intro bV hg w3 hbox hb; have aN := ah (hbox); have xY := ah ((by rw [hg]; exact (aQ (bg HB.out)) : w.heap.size ≤ bV)); have dH := ah ((by rw [hg]; exact (aQ (bg HB.out)) : w.heap.size ≤ bV)); replace HB := ah (aZ (bg HB.out) hb); clear hb hbox hg))
 (try simp only [Act.put, List.setIfInBounds_toArray, List.set_cons_zero, List.set_cons_succ])
 go_cut [11] (fun v11 wc => ∃ (kq : Nat) (jr : Bool), v11 = .bool jr ∧ aj (tidepoleref10_Check.j0 kq jr cO dF dO dP dM dJ dG dB dA = some r) ∧ aj (kq ≤ k) ∧ aj (wc.heap[bV]? = some (.cells #[.int .i64 cO, .int .u64 dF, .int .u64 dO, .int .u64 dP, .int .u64 dM, (.slice iO dJ.length iP), (.slice iJ dG.length iK), (.slice iw dB.length iy), (.slice iD dA.length iE)] 60 (0, 0))) ∧ aj (Below w.heap.size w wc))
 case first =>
  have H := HC2.out
  clear HC2
  by_cases c4 : cO < (-4)
  ·rw [if_pos c4] at H
   have c4b0 : decide (cO < (-4)) = true := ahG c4
   clear c4
   (first | rw [c4b0] | (simp only [bI, bM]; rw [c4b0]) | skip)
   have H' := ah H
   clear H
   have Tt := au aN.out
   have Tv := aC aN.out
   go_wp2
   go_meet
   case rel => exact ⟨_, (true), (by first | rfl | (simp; done) | (simp [*]; done)), H', ⟨by first | omega | exact Nat.le_refl _⟩, ⟨by (repeat with_reducible refine bQ ?_); exact aN.out⟩, ⟨by repeat (first | (with_reducible first | exact HB.out | apply ak | apply ay | apply aH | refine aA ?_ dH.out) | exact HB.out)⟩⟩
  rw [if_neg c4] at H
  have c4b0 : decide (cO < (-4)) = false := ahH c4
  clear c4
  (first | rw [c4b0] | (simp only [bI, bM]; rw [c4b0]) | skip)
  have H' := ah H
  clear H
  have Tz := au aN.out
  have TA := aC aN.out
  go_wp2
  go_meet
  case rel => exact ⟨_, (decide (cO > 8)), (by first | rfl | (simp; done) | (simp [*]; done)), H', ⟨by first | omega | exact Nat.le_refl _⟩, ⟨by (repeat with_reducible refine bQ ?_); exact aN.out⟩, ⟨by repeat (first | (with_reducible first | exact HB.out | apply ak | apply ay | apply aH | refine aA ?_ dH.out) | exact HB.out)⟩⟩
 case rest =>
  clear HC2
  try clear p2
  try clear c4
  try clear c4b0
  try clear Tt
  try clear Tz
  try clear Tv
  try clear TA
  obtain ⟨kq, jr, rfl, HA, Zg, aN, HB⟩ := hcut
  cases kq with
  | zero => exact absurd HA.out (by simp [tidepoleref10_Check.j0])
  | succ V5 =>
   have H := HA.out
   clear HA
   simp only [tidepoleref10_Check.j0] at H
   by_cases c7 : jr = true
   ·subst c7
    have H1 : (some 21) = some r := by rw [if_pos rfl] at H; exact H
    clear H
    have H := H1
    clear H1
    obtain rfl := Option.some.inj H
    go_wp2
    go_ret
    exact ⟨by first | rfl | (simp [aU, aV] <;> rfl) | (simp [*, aU, aV] <;> rfl), by repeat (first | (with_reducible first | exact HB.out | apply ak | apply ay | apply aH | refine aA ?_ dH.out) | exact HB.out)⟩
   replace c7 := Bool.eq_false_iff.mpr c7
   subst c7
   have H1 : (if dF ≥ 9218868437227405312 then (some 11) else ((tidepoleref10_Right.f dO).bind fun fH => (if fH = true then ((tidepoleref10_Right.f dP).bind fun dZ => (tidepoleref10_Check.j1 V5 (!dZ) cO dF dO dP dM dJ dG dB dA)) else (tidepoleref10_Check.j1 V5 true cO dF dO dP dM dJ dG dB dA)))) = some r := by rw [if_neg (show ¬ (false = true) by decide)] at H; exact H
   clear H
   have H := H1
   clear H1
   by_cases c8 : dF ≥ 9218868437227405312
   ·rw [if_pos c8] at H
    have c8b0 : decide (9218868437227405312 ≤ dF) = true := ahG c8
    clear c8
    obtain rfl := Option.some.inj H
    have rJ := au aN.out
    have rM := aC aN.out
    go_wp2
    go_ret
    exact ⟨by first | rfl | (simp [aU, aV] <;> rfl) | (simp [*, aU, aV] <;> rfl), by repeat (first | (with_reducible first | exact HB.out | apply ak | apply ay | apply aH | refine aA ?_ dH.out) | exact HB.out)⟩
   rw [if_neg c8] at H
   have c8b0 : decide (9218868437227405312 ≤ dF) = false := ahH c8
   clear c8
   have Yj := ah H
   clear H
   have tq := au aN.out
   have tu := aC aN.out
   go_upto_region 5 with (fail)
   go_cut [24] (fun v24 wc => ∃ (kq : Nat) (O4 : Bool), v24 = .bool O4 ∧ aj (tidepoleref10_Check.j1 kq O4 cO dF dO dP dM dJ dG dB dA = some r) ∧ aj (kq ≤ V5) ∧ aj (wc.heap[bV]? = some (.cells #[.int .i64 cO, .int .u64 dF, .int .u64 dO, .int .u64 dP, .int .u64 dM, (.slice iO dJ.length iP), (.slice iJ dG.length iK), (.slice iw dB.length iy), (.slice iD dA.length iE)] 60 (0, 0))) ∧ aj (Below w.heap.size w wc))
   case first =>
    have H := Yj.out
    clear Yj
    replace H := Option.bind_eq_some_iff.mp H
    obtain ⟨fH, Tq, H⟩ := H
    replace H : (if fH = true then ((tidepoleref10_Right.f dP).bind fun dZ => (tidepoleref10_Check.j1 V5 (!dZ) cO dF dO dP dM dJ dG dB dA)) else (tidepoleref10_Check.j1 V5 true cO dF dO dP dM dJ dG dB dA)) = some r := H
    have Vd := ah Tq
    clear Tq
    by_cases c13 : fH = true
    ·subst c13
     have H1 : ((tidepoleref10_Right.f dP).bind fun dZ => (tidepoleref10_Check.j1 V5 (!dZ) cO dF dO dP dM dJ dG dB dA)) = some r := by rw [if_pos rfl] at H; exact H
     clear H
     have H := H1
     clear H1
     replace H := Option.bind_eq_some_iff.mp H
     obtain ⟨dZ, aag, H⟩ := H
     replace H : (tidepoleref10_Check.j1 V5 (!dZ) cO dF dO dP dM dJ dG dB dA) = some r := H
     have A14 := ah aag
     clear aag
     have H' := ah H
     clear H
     have Jp := au aN.out
     have Jq := aC aN.out
     go_wp2_with (first | ((with_reducible refine bP (f := 151) rfl ?_); refine gU (some 17) Try.func151 #[.int .u64 dO] ?_; (with_reducible refine (tidepoleref10_Right.calls dO true _ Vd.out).mono ?_); rintro e w' ⟨rfl, ⟨nd, rfl⟩⟩; refine ⟨_, rfl, ?_⟩; clear Vd) | (go_at_call 151; (with_reducible refine (tidepoleref10_Right.calls dP dZ _ A14.out).mono ?_); rintro e w' ⟨rfl, ⟨nd, rfl⟩⟩; clear A14))
     go_meet
     case rel => exact ⟨_, (!dZ), (by first | rfl | (simp; done) | (simp [*]; done)), H', ⟨by have := Zg.out; first | omega | exact Nat.le_refl _⟩, ⟨by (repeat with_reducible refine bQ ?_); exact aN.out⟩, ⟨by repeat (first | (with_reducible first | exact HB.out | apply ak | apply ay | apply aH | refine aA ?_ dH.out) | exact HB.out)⟩⟩
    replace c13 := Bool.eq_false_iff.mpr c13
    subst c13
    have H1 : (tidepoleref10_Check.j1 V5 true cO dF dO dP dM dJ dG dB dA) = some r := by rw [if_neg (show ¬ (false = true) by decide)] at H; exact H
    clear H
    have H := H1
    clear H1
    have H' := ah H
    clear H
    have Ad := au aN.out
    have Ae := aC aN.out
    go_wp2_with (first | ((with_reducible refine bP (f := 151) rfl ?_); refine gU (some 17) Try.func151 #[.int .u64 dO] ?_; (with_reducible refine (tidepoleref10_Right.calls dO false _ Vd.out).mono ?_); rintro e w' ⟨rfl, ⟨nd, rfl⟩⟩; refine ⟨_, rfl, ?_⟩; clear Vd))
    go_meet
    case rel => exact ⟨_, (true), (by first | rfl | (simp; done) | (simp [*]; done)), H', ⟨by have := Zg.out; first | omega | exact Nat.le_refl _⟩, ⟨by (repeat with_reducible refine bQ ?_); exact aN.out⟩, ⟨by repeat (first | (with_reducible first | exact HB.out | apply ak | apply ay | apply aH | refine aA ?_ dH.out) | exact HB.out)⟩⟩
   case rest =>
    clear Yj
    try clear c1
    try clear p2
    try clear c4
    try clear c4b0
    try clear c7
    try clear c8
    try clear c8b0
    try clear c9
    try clear c13
    try clear c15
    try clear tq
    try clear Jp
    try clear Ad
    try clear Tt
    try clear Tz
    try clear rJ
    try clear tu
    try clear Jq
    try clear Ae
    try clear Tv
    try clear TA
    try clear rM
    try clear p2
    obtain ⟨kq, O4, rfl, HA, HJ9, aN, HB⟩ := hcut
    cases kq with
    | zero => exact absurd HA.out (by simp [tidepoleref10_Check.j1])
    | succ YB =>
     have H := HA.out
     clear HA
     simp only [tidepoleref10_Check.j1] at H
     by_cases c17 : O4 = true
     ·subst c17
      have H1 : (some 22) = some r := by rw [if_pos rfl] at H; exact H
      clear H
      have H := H1
      clear H1
      obtain rfl := Option.some.inj H
      go_wp2
      go_ret
      exact ⟨by first | rfl | (simp [aU, aV] <;> rfl) | (simp [*, aU, aV] <;> rfl), by repeat (first | (with_reducible first | exact HB.out | apply ak | apply ay | apply aH | refine aA ?_ dH.out) | exact HB.out)⟩
     replace c17 := Bool.eq_false_iff.mpr c17
     subst c17
     have H1 : ((tidepoleref10_Side.f YB dJ dB).bind fun jL => (if jL = 0 then ((tidepoleref10_Side.f YB dG dA).bind fun t105 => (some t105)) else (some jL))) = some r := by rw [if_neg (show ¬ (false = true) by decide)] at H; exact H
     clear H
     have H := H1
     clear H1
     replace H := Option.bind_eq_some_iff.mp H
     obtain ⟨jL, TB, H⟩ := H
     replace H : (if jL = 0 then ((tidepoleref10_Side.f YB dG dA).bind fun t105 => (some t105)) else (some jL)) = some r := H
     have Yk := ah TB
     clear TB
     by_cases c19 : jL = 0
     ·rw [if_pos c19] at H
      have c19b0 : (jL == 0) = true := beq_iff_eq.mpr c19
      have c19b1 : (jL != 0) = false := bne_eq_false_iff_eq.mpr c19
      clear c19
      replace H := Option.bind_eq_some_iff.mp H
      obtain ⟨t105, EL, H⟩ := H
      replace H : (some t105) = some r := H
      have tC := ah EL
      clear EL
      obtain rfl := Option.some.inj H
      have OW := au aN.out
      have OX := aC aN.out
      go_wp2_with (first | ((with_reducible refine bP (f := 152) rfl ?_); refine gU (some 29) Try.func152 #[.slice iO dJ.length iP, .slice iw dB.length iy] ?_; (with_reducible refine (tidepoleref10_Side.calls YB _ _ dJ _ _ dB jL _ ?dK ?dL ?kC ?kD Yk.out).mono ?_); (case dK => exact Kd.jV (Kd.bT nX.out HB.out)); (case dL => exact nY.out); (case kC => exact Kd.jV (Kd.bT pK.out HB.out)); (case kD => exact pO.out); rintro e VZ ⟨rfl, hb⟩; refine ⟨_, rfl, ?_⟩; replace aN := ah (eH aN.out hb); replace HB := ah (aZ (by repeat (first | (with_reducible first | exact HB.out | refine bJ ?_ | refine aA ?_ dH.out) | exact HB.out)) hb); (try clear hb); (try clear hb2); (try clear hk); (try clear hi); clear Yk; have yK := au aN.out; have yL := aC aN.out) | ((with_reducible refine bP (f := 152) rfl ?_); refine gU (some 37) Try.func152 #[.slice iJ dG.length iK, .slice iD dA.length iE] ?_; (with_reducible refine (tidepoleref10_Side.calls YB _ _ dG _ _ dA t105 _ ?dK ?dL ?kC ?kD tC.out).mono ?_); (case dK => exact Kd.jV (Kd.bT oW.out HB.out)); (case dL => exact oZ.out); (case kC => exact Kd.jV (Kd.bT qm.out HB.out)); (case kD => exact qo.out); rintro e w24 ⟨rfl, hb⟩; refine ⟨_, rfl, ?_⟩; replace aN := ah (eH aN.out hb); replace HB := ah (aZ (by repeat (first | (with_reducible first | exact HB.out | refine bJ ?_ | refine aA ?_ dH.out) | exact HB.out)) hb); (try clear hb); (try clear hb2); (try clear hk); (try clear hi); clear tC))
      go_ret
      exact ⟨by first | rfl | (simp [aU, aV] <;> rfl) | (simp [*, aU, aV] <;> rfl), by repeat (first | (with_reducible first | exact HB.out | apply ak | apply ay | apply aH | refine aA ?_ dH.out) | exact HB.out)⟩
     rw [if_neg c19] at H
     have c19b0 : (jL == 0) = false := beq_eq_false_iff_ne.mpr c19
     have c19b1 : (jL != 0) = true := bne_iff_ne.mpr c19
     obtain rfl := Option.some.inj H
     have abx := au aN.out
     have aby := aC aN.out
     go_wp2_with (first | ((with_reducible refine bP (f := 152) rfl ?_); refine gU (some 29) Try.func152 #[.slice iO dJ.length iP, .slice iw dB.length iy] ?_; (with_reducible refine (tidepoleref10_Side.calls YB _ _ dJ _ _ dB jL _ ?dK ?dL ?kC ?kD Yk.out).mono ?_); (case dK => exact Kd.jV (Kd.bT nX.out HB.out)); (case dL => exact nY.out); (case kC => exact Kd.jV (Kd.bT pK.out HB.out)); (case kD => exact pO.out); rintro e TL ⟨rfl, hb⟩; refine ⟨_, rfl, ?_⟩; replace aN := ah (eH aN.out hb); replace HB := ah (aZ (by repeat (first | (with_reducible first | exact HB.out | refine bJ ?_ | refine aA ?_ dH.out) | exact HB.out)) hb); (try clear hb); (try clear hb2); (try clear hk); (try clear hi); clear Yk))
     go_ret
     exact ⟨by first | rfl | (simp [aU, aV] <;> rfl) | (simp [*, aU, aV] <;> rfl), by repeat (first | (with_reducible first | exact HB.out | apply ak | apply ay | apply aH | refine aA ?_ dH.out) | exact HB.out)⟩
end Go.Proofs.Ytooiccpmngmapaa.P