/- ScaleFloats: the part that this text bears of the proof that the statement answers true for every input. No condition. -/
import Derived.Test.YtooiccpmngmapaaQScaleFloats5
import Derived.ProofKit
import Derived.JoinedOf
import Derived.OpenShut
import Derived.ShutString
import Derived.ChangeOld
import Derived.SizedLaws
import Derived.JoinedTies
import Derived.Test.YtooiccpmngmapaaChecked
import GoSem.Claim
import GoSem.ClaimJoined
import GoSem.ClaimMapViews
set_option linter.unusedVariables false
set_option linter.unusedSimpArgs false
namespace Go.Proofs.Ytooiccpmngmapaa.P
open Go.RowKit Go.Shelf Go.Proofs.YtooiccpmngmapaaW.PrintWords Go.Proofs.YtooiccpmngmapaaW.PrintLast Go.Proofs.YtooiccpmngmapaaW.PrintMore
theorem O5 {l : List Int} (h : ∀ x ∈ l, MK .u64 x) : Jl l := fun x hx => Ef (h x hx)
def YC (h : Fh) : Prop := i64 h.f0 ∧ u64 h.f1 ∧ u64 h.f2 ∧ u64 h.f3 ∧ u64 h.f4 ∧ kU h.f5 ∧ kU h.f6 ∧ Jl h.f7 ∧ Jl h.f8
instance (h : Fh) : Decidable (YC h) := by unfold YC; exact inferInstance
theorem Yr {x : Vq} (h : WA x) : YC x := ⟨IK h.1, Ef h.2.1, Ef h.2.2.1, Ef h.2.2.2.1, Ef h.2.2.2.2.1, J7 h.2.2.2.2.2.1, J7 h.2.2.2.2.2.2.1, O5 h.2.2.2.2.2.2.2.1, O5 h.2.2.2.2.2.2.2.2⟩
theorem aax {h : Fh} (x : YC h) (h7 : h.f7.length ≤ 300) (h8 : h.f8.length ≤ 300) : EZ h := ⟨x.1, x.2.1, x.2.2.1, x.2.2.2.1, x.2.2.2.2.1, x.2.2.2.2.2.1, x.2.2.2.2.2.2.1, x.2.2.2.2.2.2.2.1, x.2.2.2.2.2.2.2.2, by omega, by omega⟩
theorem Ob (a x : Fh) (e tt : Int) (hw : EZ a) (ht : i64 tt) (hx : mG a tt = (x, e)) (w : World) (u : Value) (hu : GI w u a) : Calls Try.prog 33 #[u, .int .i64 tt] w fun r w' => ∃ D5x g5x D6x g6x D7x g7x D8x g8x, r = .returned (.tuple #[.agg #[.int .i64 x.f0, .int .u64 x.f1, .int .u64 x.f2, .int .u64 x.f3, .int .u64 x.f4, .slice D5x x.f5.length g5x, .slice D6x x.f6.length g6x, .slice D7x x.f7.length g7x, .slice D8x x.f8.length g8x], .int .i64 e]) ∧ GI w' (.agg #[.int .i64 x.f0, .int .u64 x.f1, .int .u64 x.f2, .int .u64 x.f3, .int .u64 x.f4, .slice D5x x.f5.length g5x, .slice D6x x.f6.length g6x, .slice D7x x.f7.length g7x, .slice D8x x.f8.length g8x]) x ∧ Below w.heap.size w w' := by
 have := LG a hw tt ht w u hu
 rw [hx] at this
 refine this.mono ?_
 rintro r w1 ⟨v0, rfl, h0, hb⟩
 obtain ⟨a5, c5, a6, c6, a7, c7, a8, c8, e, -⟩ := h0.now.open_
 have hi := h0.now
 subst e
 exact ⟨a5, c5, a6, c6, a7, c7, a8, c8, rfl, hi, hb⟩
theorem Gx {a x : Fh} {e tt : Int} (hw : EZ a) (ht : i64 tt) (hx : mG a tt = (x, e)) : (e = 0 → EZ x ∧ jU x = 0) ∧ x.f5.length ≤ 1024 ∧ x.f6.length ≤ 1024 ∧ x.f7.length ≤ 4096 ∧ x.f8.length ≤ 4096 := by
  have emp : ∀ c : Int, c ≠ 0 → (x, e) = (qV, c) → (e = 0 → EZ x ∧ jU x = 0) ∧ x.f5.length ≤ 1024 ∧ x.f6.length ≤ 1024 ∧ x.f7.length ≤ 4096 ∧ x.f8.length ≤ 4096 := fun c hc he => by
    obtain ⟨rfl, rfl⟩ := Prod.mk.inj he
    exact ⟨fun q => absurd q hc, by decide, by decide, by decide, by decide⟩
  by_cases hc : jU a = 0
  rotate_left
  · unfold mG at hx
    rw [if_pos hc] at hx
    exact emp _ hc hx.symm
  have hsr := sJ (tt := tt) hc
  by_cases c1 : tt < -4 ∨ tt > a.f0
  · rw [if_pos c1, hx] at hsr
    exact emp _ (by decide) hsr
  rw [if_neg c1, hx] at hsr
  cases hP : lq (a.f0 - tt) (jw a).1 with
  | none =>
    rw [hP] at hsr
    exact emp _ (by decide) hsr
  | some p =>
    cases hN : lq (a.f0 - tt) (jw a).2.1 with
    | none => rw [hP, hN] at hsr; exact emp _ (by decide) hsr
    | some n =>
      obtain ⟨o1, o2, g1, g2, hd, hg⟩ := Du hw hc (by omega) (by omega) hP hN
      rw [hx] at hg
      by_cases k : 1024 < (spansOf ((gK p).map (·.f0))).length ∨ 1024 < (spansOf ((gK n).map (·.f0))).length
      · rw [if_pos k] at hg
        exact emp _ (by decide) hg
      rw [if_neg k] at hg
      obtain ⟨rfl, rfl⟩ := Prod.mk.inj hg
      have hck := MC hd o1 o2 g1 g2 (by omega) (by omega)
      have e1 := wR (qj _ _ o1.ups g1) o1.len
      have e2 := wR (qj _ _ o2.ups g2) o2.len
      rw [if_neg (by omega)] at e1 e2
      have wl : EZ (DL a tt) := by
        obtain ⟨_, w⟩ := hw
        exact ⟨ht, w⟩
      have hm : yg (DL a tt) (gK p) (gK n) = ⟨tt, a.f1, a.f2, a.f3, a.f4, spansOf ((gK p).map (·.f0)), spansOf ((gK n).map (·.f0)), (gK p).map (·.f1), (gK n).map (·.f1)⟩ := by unfold yg; rw [e1, e2]; rfl
      have hwm := Ls (h := DL a tt) (p := gK p) (n := gK n) wl o1.wf o2.wf
      rw [hm] at hwm
      refine ⟨fun _ => ⟨hwm, hck⟩, by simp only; omega, by simp only; omega, ?_, ?_⟩
      · simp only [List.length_map]; exact o1.len
      · simp only [List.length_map]; exact o2.len
set_option maxHeartbeats 64000000 in
set_option maxRecDepth 100000 in
theorem Gy (a : Fh) (tt : Int) (hwa : YC a) (htt : i64 tt) (w : World) (u x1 : Value) (hx1 : x1 = .int .i64 tt) (hua : GI w u a) : Calls Try.prog 6 #[u, x1] w fun e w' => e = .returned (.bool true) ∧ Below w.heap.size w w' := by
  subst hx1
  have hud := Try.underlying55
  have hur := Try.underlying60
  obtain ⟨b1, hb1, cs⟩ := N7 a hwa.2.2.2.2.2.1 hwa.2.2.2.2.2.2.1
  have CS := ah cs
  clear cs
  cases b1 with
  | false =>
    clear hb1
    obtain ⟨A5, c5, A6, c6, A7, c7, A8, c8, e_, -⟩ := hua.open_
    subst e_
    have B := ah (ak (Below.refl w.heap.size w) (.cells #[.int .i64 a.f0, .int .u64 a.f1, .int .u64 a.f2, .int .u64 a.f3, .int .u64 a.f4, .slice A5 a.f5.length c5, .slice A6 a.f6.length c6, .slice A7 a.f7.length c7, .slice A8 a.f8.length c8] 55))
    have X := ah (rD.new w #[.int .i64 a.f0, .int .u64 a.f1, .int .u64 a.f2, .int .u64 a.f3, .int .u64 a.f4, .slice A5 a.f5.length c5, .slice A6 a.f6.length c6, .slice A7 a.f7.length c7, .slice A8 a.f8.length c8] 55)
    have hx := fun i => X.out.cell i
    have HA := ah (hua.below B.out)
    clear hua
    go_enter Try.func6, Try.ntmps6
    go_wp2_with (first | (go_at_call 32; (with_reducible refine (CS.out _ _ HA.out).mono ?_); rintro e W1 ⟨rfl, hb⟩; replace B := ah (aG B.out B.out.size hb); replace HA := ah (HA.out.below hb); replace X := ah (X.out.below hb); replace hx := fun i => X.out.cell i; clear  hb) | (go_at_call 26; (with_reducible refine (CQ _).mono ?_); rintro e W2 ⟨rfl, hb⟩; replace B := ah (aG B.out B.out.size hb); replace HA := ah (HA.out.below hb); replace X := ah (X.out.below hb); replace hx := fun i => X.out.cell i; clear  hb))
    go_ret
    exact ⟨rfl, B.out⟩
  | true =>
  obtain ⟨n5, n6, n7, n8⟩ := hb1 rfl
  have hWa := aax hwa (by omega) (by omega)
  obtain ⟨⟨x, e⟩, hx⟩ : ∃ r, mG a tt = r := ⟨_, rfl⟩
  obtain ⟨px, l5, l6, l7, l8⟩ := Gx hWa htt hx
  have N1 := ah (Ob a x e tt hWa htt hx)
  have R1 := ah (Gw a x e tt hWa (by omega) (by omega) htt hx)
  have I1 := ah (N8 a (by omega) (by omega))
  have J1 := ah (JF x (by omega) (by omega) (by omega) (by omega))
  have d3 : (e == e) = true := beq_self_eq_true _
  by_cases c1 : e = 0
  · obtain ⟨wx, cx⟩ := px c1
    have k1 := Lh x wx
    rw [cx] at k1
    have K1 := ah k1
    subst c1
    clear hx n5 n6 n7 n8 hb1 hwa htt hWa wx cx k1 px l5 l6 l7 l8
    obtain ⟨A5, c5, A6, c6, A7, c7, A8, c8, e_, -⟩ := hua.open_
    subst e_
    have B := ah (ak (Below.refl w.heap.size w) (.cells #[.int .i64 a.f0, .int .u64 a.f1, .int .u64 a.f2, .int .u64 a.f3, .int .u64 a.f4, .slice A5 a.f5.length c5, .slice A6 a.f6.length c6, .slice A7 a.f7.length c7, .slice A8 a.f8.length c8] 55))
    have X := ah (rD.new w #[.int .i64 a.f0, .int .u64 a.f1, .int .u64 a.f2, .int .u64 a.f3, .int .u64 a.f4, .slice A5 a.f5.length c5, .slice A6 a.f6.length c6, .slice A7 a.f7.length c7, .slice A8 a.f8.length c8] 55)
    have hx := fun i => X.out.cell i
    have HA := ah (hua.below B.out)
    clear hua
    go_enter Try.func6, Try.ntmps6
    go_wp2_with (first | (go_at_call 32; (with_reducible refine (CS.out _ _ HA.out).mono ?_); rintro e W1 ⟨rfl, hb⟩; replace B := ah (aG B.out B.out.size hb); replace HA := ah (HA.out.below hb); replace X := ah (X.out.below hb); replace hx := fun i => X.out.cell i; clear  hb) | (go_at_call 33; (with_reducible refine (N1.out _ _ HA.out).mono ?_); rintro e W2 ⟨D5x, g5x, D6x, g6x, D7x, g7x, D8x, g8x, rfl, hh, hb⟩; replace B := ah (aG B.out B.out.size hb); replace HA := ah (HA.out.below hb); replace X := ah (X.out.below hb); replace hx := fun i => X.out.cell i; have HX := ah hh; have hxa := fun i => (X.out.alloc (.cells #[.int .i64 x.f0, .int .u64 x.f1, .int .u64 x.f2, .int .u64 x.f3, .int .u64 x.f4, .slice D5x x.f5.length g5x, .slice D6x x.f6.length g6x, .slice D7x x.f7.length g7x, .slice D8x x.f8.length g8x] 55)).cell i; clear hh hb))
    (try clear hxa)
    have hal := ak (Below.refl W2.heap.size W2) (.cells #[.int .i64 x.f0, .int .u64 x.f1, .int .u64 x.f2, .int .u64 x.f3, .int .u64 x.f4, .slice D5x x.f5.length g5x, .slice D6x x.f6.length g6x, .slice D7x x.f7.length g7x, .slice D8x x.f8.length g8x] 55)
    replace B := ah (aG B.out B.out.size hal)
    replace HA := ah (HA.out.below hal)
    replace HX := ah (HX.out.below hal)
    replace X := ah (X.out.alloc (.cells #[.int .i64 x.f0, .int .u64 x.f1, .int .u64 x.f2, .int .u64 x.f3, .int .u64 x.f4, .slice D5x x.f5.length g5x, .slice D6x x.f6.length g6x, .slice D7x x.f7.length g7x, .slice D8x x.f8.length g8x] 55)); replace hx := fun i => X.out.cell i
    have P := ah (rD.new W2 #[.int .i64 x.f0, .int .u64 x.f1, .int .u64 x.f2, .int .u64 x.f3, .int .u64 x.f4, .slice D5x x.f5.length g5x, .slice D6x x.f6.length g6x, .slice D7x x.f7.length g7x, .slice D8x x.f8.length g8x] 55); have hp := fun i => P.out.cell i; clear hal
    go_wp2_with (first | (go_at_call 35; (with_reducible refine (I1.out _ _ HA.out).mono ?_); rintro e W3 ⟨ra, rfl, hr, hb⟩; replace B := ah (aG B.out B.out.size hb); replace HA := ah (HA.out.below hb); replace HX := ah (HX.out.below hb); replace X := ah (X.out.below hb); replace hx := fun i => X.out.cell i; replace P := ah (P.out.below hb); replace hp := fun i => P.out.cell i; have RA := ah hr; clear hr hb) | (go_at_call 34; (with_reducible refine (R1.out _ _ RA.out).mono ?_); rintro e W4 ⟨D5y, g5y, D6y, g6y, D7y, g7y, D8y, g8y, rfl, hh, hb⟩; replace B := ah (aG B.out B.out.size hb); replace HA := ah (HA.out.below hb); replace HX := ah (HX.out.below hb); replace RA := ah (RA.out.below hb); replace X := ah (X.out.below hb); replace hx := fun i => X.out.cell i; replace P := ah (P.out.below hb); replace hp := fun i => P.out.cell i; have RY := ah hh; have hxa := fun i => (X.out.alloc (.cells #[.int .i64 x.f0, .int .u64 x.f1, .int .u64 x.f2, .int .u64 x.f3, .int .u64 x.f4, .slice D5y x.f5.length g5y, .slice D6y x.f6.length g6y, .slice D7y x.f7.length g7y, .slice D8y x.f8.length g8y] 60)).cell i; have hpa := fun i => (P.out.alloc (.cells #[.int .i64 x.f0, .int .u64 x.f1, .int .u64 x.f2, .int .u64 x.f3, .int .u64 x.f4, .slice D5y x.f5.length g5y, .slice D6y x.f6.length g6y, .slice D7y x.f7.length g7y, .slice D8y x.f8.length g8y] 60)).cell i; clear hh hb))
    (try clear hxa hpa)
    have hal := ak (Below.refl W4.heap.size W4) (.cells #[.int .i64 x.f0, .int .u64 x.f1, .int .u64 x.f2, .int .u64 x.f3, .int .u64 x.f4, .slice D5y x.f5.length g5y, .slice D6y x.f6.length g6y, .slice D7y x.f7.length g7y, .slice D8y x.f8.length g8y] 60)
    replace B := ah (aG B.out B.out.size hal)
    replace HA := ah (HA.out.below hal)
    replace HX := ah (HX.out.below hal)
    replace RA := ah (RA.out.below hal)
    replace RY := ah (RY.out.below hal)
    replace X := ah (X.out.alloc (.cells #[.int .i64 x.f0, .int .u64 x.f1, .int .u64 x.f2, .int .u64 x.f3, .int .u64 x.f4, .slice D5y x.f5.length g5y, .slice D6y x.f6.length g6y, .slice D7y x.f7.length g7y, .slice D8y x.f8.length g8y] 60)); replace hx := fun i => X.out.cell i
    replace P := ah (P.out.alloc (.cells #[.int .i64 x.f0, .int .u64 x.f1, .int .u64 x.f2, .int .u64 x.f3, .int .u64 x.f4, .slice D5y x.f5.length g5y, .slice D6y x.f6.length g6y, .slice D7y x.f7.length g7y, .slice D8y x.f8.length g8y] 60)); replace hp := fun i => P.out.cell i
    have Q := ah (rD.new W4 #[.int .i64 x.f0, .int .u64 x.f1, .int .u64 x.f2, .int .u64 x.f3, .int .u64 x.f4, .slice D5y x.f5.length g5y, .slice D6y x.f6.length g6y, .slice D7y x.f7.length g7y, .slice D8y x.f8.length g8y] 60); have hq := fun i => Q.out.cell i; clear hal
    go_wp2_with (first | (go_at_call 36; (with_reducible refine (J1.out _ _ _ HX.out RY.out).mono ?_); rintro e W5 ⟨rfl, hb⟩; replace B := ah (aG B.out B.out.size hb); replace HA := ah (HA.out.below hb); replace HX := ah (HX.out.below hb); replace RA := ah (RA.out.below hb); replace RY := ah (RY.out.below hb); replace X := ah (X.out.below hb); replace hx := fun i => X.out.cell i; replace P := ah (P.out.below hb); replace hp := fun i => P.out.cell i; replace Q := ah (Q.out.below hb); replace hq := fun i => Q.out.cell i; clear  hb) | (go_at_call 37; (with_reducible refine (K1.out _ _ HX.out).mono ?_); rintro e W6 ⟨rfl, hb⟩; replace B := ah (aG B.out B.out.size hb); replace HA := ah (HA.out.below hb); replace HX := ah (HX.out.below hb); replace RA := ah (RA.out.below hb); replace RY := ah (RY.out.below hb); replace X := ah (X.out.below hb); replace hx := fun i => X.out.cell i; replace P := ah (P.out.below hb); replace hp := fun i => P.out.cell i; replace Q := ah (Q.out.below hb); replace hq := fun i => Q.out.cell i; clear  hb) | (go_at_call 26; (with_reducible refine (CQ _).mono ?_); rintro e W7 ⟨rfl, hb⟩; replace B := ah (aG B.out B.out.size hb); replace HA := ah (HA.out.below hb); replace HX := ah (HX.out.below hb); replace RA := ah (RA.out.below hb); replace RY := ah (RY.out.below hb); replace X := ah (X.out.below hb); replace hx := fun i => X.out.cell i; replace P := ah (P.out.below hb); replace hp := fun i => P.out.cell i; replace Q := ah (Q.out.below hb); replace hq := fun i => Q.out.cell i; clear  hb))
    go_ret
    exact ⟨rfl, B.out⟩
  · have d1 : (e != 0) = true := bne_iff_ne.2 c1
    clear c1 hx n5 n6 n7 n8 hb1 hwa htt hWa px l5 l6 l7 l8
    obtain ⟨A5, c5, A6, c6, A7, c7, A8, c8, e_, -⟩ := hua.open_
    subst e_
    have B := ah (ak (Below.refl w.heap.size w) (.cells #[.int .i64 a.f0, .int .u64 a.f1, .int .u64 a.f2, .int .u64 a.f3, .int .u64 a.f4, .slice A5 a.f5.length c5, .slice A6 a.f6.length c6, .slice A7 a.f7.length c7, .slice A8 a.f8.length c8] 55))
    have X := ah (rD.new w #[.int .i64 a.f0, .int .u64 a.f1, .int .u64 a.f2, .int .u64 a.f3, .int .u64 a.f4, .slice A5 a.f5.length c5, .slice A6 a.f6.length c6, .slice A7 a.f7.length c7, .slice A8 a.f8.length c8] 55)
    have hx := fun i => X.out.cell i
    have HA := ah (hua.below B.out)
    clear hua
    go_enter Try.func6, Try.ntmps6
    go_wp2_with (first | (go_at_call 32; (with_reducible refine (CS.out _ _ HA.out).mono ?_); rintro e W1 ⟨rfl, hb⟩; replace B := ah (aG B.out B.out.size hb); replace HA := ah (HA.out.below hb); replace X := ah (X.out.below hb); replace hx := fun i => X.out.cell i; clear  hb) | (go_at_call 33; (with_reducible refine (N1.out _ _ HA.out).mono ?_); rintro e W2 ⟨D5x, g5x, D6x, g6x, D7x, g7x, D8x, g8x, rfl, hh, hb⟩; replace B := ah (aG B.out B.out.size hb); replace HA := ah (HA.out.below hb); replace X := ah (X.out.below hb); replace hx := fun i => X.out.cell i; have HX := ah hh; have hxa := fun i => (X.out.alloc (.cells #[.int .i64 x.f0, .int .u64 x.f1, .int .u64 x.f2, .int .u64 x.f3, .int .u64 x.f4, .slice D5x x.f5.length g5x, .slice D6x x.f6.length g6x, .slice D7x x.f7.length g7x, .slice D8x x.f8.length g8x] 55)).cell i; clear hh hb))
    (try clear hxa)
    have hal := ak (Below.refl W2.heap.size W2) (.cells #[.int .i64 x.f0, .int .u64 x.f1, .int .u64 x.f2, .int .u64 x.f3, .int .u64 x.f4, .slice D5x x.f5.length g5x, .slice D6x x.f6.length g6x, .slice D7x x.f7.length g7x, .slice D8x x.f8.length g8x] 55)
    replace B := ah (aG B.out B.out.size hal)
    replace HA := ah (HA.out.below hal)
    replace HX := ah (HX.out.below hal)
    replace X := ah (X.out.alloc (.cells #[.int .i64 x.f0, .int .u64 x.f1, .int .u64 x.f2, .int .u64 x.f3, .int .u64 x.f4, .slice D5x x.f5.length g5x, .slice D6x x.f6.length g6x, .slice D7x x.f7.length g7x, .slice D8x x.f8.length g8x] 55)); replace hx := fun i => X.out.cell i
    have P := ah (rD.new W2 #[.int .i64 x.f0, .int .u64 x.f1, .int .u64 x.f2, .int .u64 x.f3, .int .u64 x.f4, .slice D5x x.f5.length g5x, .slice D6x x.f6.length g6x, .slice D7x x.f7.length g7x, .slice D8x x.f8.length g8x] 55); have hp := fun i => P.out.cell i; clear hal
    go_wp2_with (first | (go_at_call 35; (with_reducible refine (I1.out _ _ HA.out).mono ?_); rintro e W3 ⟨ra, rfl, hr, hb⟩; replace B := ah (aG B.out B.out.size hb); replace HA := ah (HA.out.below hb); replace HX := ah (HX.out.below hb); replace X := ah (X.out.below hb); replace hx := fun i => X.out.cell i; replace P := ah (P.out.below hb); replace hp := fun i => P.out.cell i; have RA := ah hr; clear hr hb) | (go_at_call 34; (with_reducible refine (R1.out _ _ RA.out).mono ?_); rintro e W4 ⟨D5y, g5y, D6y, g6y, D7y, g7y, D8y, g8y, rfl, hh, hb⟩; replace B := ah (aG B.out B.out.size hb); replace HA := ah (HA.out.below hb); replace HX := ah (HX.out.below hb); replace RA := ah (RA.out.below hb); replace X := ah (X.out.below hb); replace hx := fun i => X.out.cell i; replace P := ah (P.out.below hb); replace hp := fun i => P.out.cell i; have RY := ah hh; have hxa := fun i => (X.out.alloc (.cells #[.int .i64 x.f0, .int .u64 x.f1, .int .u64 x.f2, .int .u64 x.f3, .int .u64 x.f4, .slice D5y x.f5.length g5y, .slice D6y x.f6.length g6y, .slice D7y x.f7.length g7y, .slice D8y x.f8.length g8y] 60)).cell i; have hpa := fun i => (P.out.alloc (.cells #[.int .i64 x.f0, .int .u64 x.f1, .int .u64 x.f2, .int .u64 x.f3, .int .u64 x.f4, .slice D5y x.f5.length g5y, .slice D6y x.f6.length g6y, .slice D7y x.f7.length g7y, .slice D8y x.f8.length g8y] 60)).cell i; clear hh hb))
    (try clear hxa hpa)
    have hal := ak (Below.refl W4.heap.size W4) (.cells #[.int .i64 x.f0, .int .u64 x.f1, .int .u64 x.f2, .int .u64 x.f3, .int .u64 x.f4, .slice D5y x.f5.length g5y, .slice D6y x.f6.length g6y, .slice D7y x.f7.length g7y, .slice D8y x.f8.length g8y] 60)
    replace B := ah (aG B.out B.out.size hal)
    replace HA := ah (HA.out.below hal)
    replace HX := ah (HX.out.below hal)
    replace RA := ah (RA.out.below hal)
    replace RY := ah (RY.out.below hal)
    replace X := ah (X.out.alloc (.cells #[.int .i64 x.f0, .int .u64 x.f1, .int .u64 x.f2, .int .u64 x.f3, .int .u64 x.f4, .slice D5y x.f5.length g5y, .slice D6y x.f6.length g6y, .slice D7y x.f7.length g7y, .slice D8y x.f8.length g8y] 60)); replace hx := fun i => X.out.cell i
    replace P := ah (P.out.alloc (.cells #[.int .i64 x.f0, .int .u64 x.f1, .int .u64 x.f2, .int .u64 x.f3, .int .u64 x.f4, .slice D5y x.f5.length g5y, .slice D6y x.f6.length g6y, .slice D7y x.f7.length g7y, .slice D8y x.f8.length g8y] 60)); replace hp := fun i => P.out.cell i
    have Q := ah (rD.new W4 #[.int .i64 x.f0, .int .u64 x.f1, .int .u64 x.f2, .int .u64 x.f3, .int .u64 x.f4, .slice D5y x.f5.length g5y, .slice D6y x.f6.length g6y, .slice D7y x.f7.length g7y, .slice D8y x.f8.length g8y] 60); have hq := fun i => Q.out.cell i; clear hal
    go_wp2_with (first | (go_at_call 36; (with_reducible refine (J1.out _ _ _ HX.out RY.out).mono ?_); rintro e W5 ⟨rfl, hb⟩; replace B := ah (aG B.out B.out.size hb); replace HA := ah (HA.out.below hb); replace HX := ah (HX.out.below hb); replace RA := ah (RA.out.below hb); replace RY := ah (RY.out.below hb); replace X := ah (X.out.below hb); replace hx := fun i => X.out.cell i; replace P := ah (P.out.below hb); replace hp := fun i => P.out.cell i; replace Q := ah (Q.out.below hb); replace hq := fun i => Q.out.cell i; clear  hb) | (go_at_call 37; (with_reducible refine (K1.out _ _ HX.out).mono ?_); rintro e W6 ⟨rfl, hb⟩; replace B := ah (aG B.out B.out.size hb); replace HA := ah (HA.out.below hb); replace HX := ah (HX.out.below hb); replace RA := ah (RA.out.below hb); replace RY := ah (RY.out.below hb); replace X := ah (X.out.below hb); replace hx := fun i => X.out.cell i; replace P := ah (P.out.below hb); replace hp := fun i => P.out.cell i; replace Q := ah (Q.out.below hb); replace hq := fun i => Q.out.cell i; clear  hb) | (go_at_call 26; (with_reducible refine (CQ _).mono ?_); rintro e W7 ⟨rfl, hb⟩; replace B := ah (aG B.out B.out.size hb); replace HA := ah (HA.out.below hb); replace HX := ah (HX.out.below hb); replace RA := ah (RA.out.below hb); replace RY := ah (RY.out.below hb); replace X := ah (X.out.below hb); replace hx := fun i => X.out.cell i; replace P := ah (P.out.below hb); replace hp := fun i => P.out.cell i; replace Q := ah (Q.out.below hb); replace hq := fun i => Q.out.cell i; clear  hb))
    go_ret
    exact ⟨rfl, B.out⟩
def tidepolelaw25_ScaleFloats.f (s0 z0 zc0 ct0 sm0 : Int) (dJ dG : List Sp) (dB dA : List Int) (tt : Int) : Option Bool := if YC ⟨s0, z0, zc0, ct0, sm0, dJ, dG, dB, dA⟩ ∧ i64 tt then some true else none
theorem tidepolelaw25_ScaleFloats.calls (s0 : Int) (z0 : Int) (zc0 : Int) (ct0 : Int) (sm0 : Int) (iO : Option Addr) (iP : Nat) (dJ : List Sp) (iJ : Option Addr) (iK : Nat) (dG : List Sp) (iw : Option Addr) (iy : Nat) (dB : List Int) (iD : Option Addr) (iE : Nat) (dA : List Int) (tt : Int) (r : Bool) (w : World) (oP : Kd.C kSp w iO dJ.length dJ) (oQ : dJ.length ≤ iP) (oU : Kd.C kSp w iJ dG.length dG) (oV : dG.length ≤ iK) (qP : Kd.C (Kd.int .u64) w iw dB.length dB) (qQ : dB.length ≤ iy) (qR : Kd.C (Kd.int .u64) w iD dA.length dA) (qU : dA.length ≤ iE) (h : tidepolelaw25_ScaleFloats.f s0 z0 zc0 ct0 sm0 dJ dG dB dA tt = some r) :
  Calls Try.prog 6 #[.agg #[.int .i64 s0, .int .u64 z0, .int .u64 zc0, .int .u64 ct0, .int .u64 sm0, .slice iO dJ.length iP, .slice iJ dG.length iK, .slice iw dB.length iy, .slice iD dA.length iE], .int .i64 tt] w fun e w' => e = .returned (.bool r) ∧ Below w.heap.size w w' := by
 obtain ⟨⟨q0, q1⟩, rfl⟩ := lC h
 exact Gy _ _ q0 q1 w _ _ rfl (GI.mk (h := ⟨s0, z0, zc0, ct0, sm0, dJ, dG, dB, dA⟩) (.of oP oQ) (.of oU oV) (.of qP qQ) (.of qR qU))
def vT : List Char := List.map Char.ofNat [104, 97, 114, 110, 101, 115, 115, 32, 50, 100, 53, 99, 55, 48, 56, 102, 52, 98, 49, 57, 100, 52, 102, 50, 51, 51, 98, 56, 97, 99, 48, 56, 102, 97, 54, 99, 97, 50, 48, 100, 54, 99, 52, 98, 101, 97, 49, 51, 56, 101, 55, 98, 51, 53, 101, 57, 55, 55, 52, 56, 53, 99, 50, 100, 49, 101, 97, 97, 48, 102, 57, 55, 32, 99, 117, 116, 32, 97, 116, 32, 116, 105, 100, 101, 112, 111, 108, 101, 47, 116, 105, 100, 101, 112, 111, 108, 101, 108, 97, 119, 50, 56, 46, 82, 105, 115, 101, 83, 112, 108, 105, 116, 115, 32, 116, 105, 100, 101, 112, 111, 108, 101, 47, 116, 105, 100, 101, 112, 111, 108, 101, 108, 97, 119, 50, 56, 46, 82, 105, 115, 101, 83, 116, 101, 97, 100, 121, 32, 116, 105, 100, 101, 112, 111, 108, 101, 47, 116, 105, 100, 101, 112, 111, 108, 101, 108, 97, 119, 50, 53, 46, 83, 99, 97, 108, 101, 73, 110, 116, 115, 32, 116, 105, 100, 101, 112, 111, 108, 101, 47, 116, 105, 100, 101, 112, 111, 108, 101, 108, 97, 119, 50, 53, 46, 83, 99, 97, 108, 101, 70, 108, 111, 97, 116, 115, 32, 116, 105, 100, 101, 112, 111, 108, 101, 47, 116, 105, 100, 101, 112, 111, 108, 101, 108, 97, 119, 50, 53, 46, 83, 99, 97, 108, 101, 70, 105, 116, 115, 32, 116, 105, 100, 101, 112, 111, 108, 101, 47, 116, 105, 100, 101, 112, 111, 108, 101, 108, 97, 119, 50, 55, 46, 65, 100, 100, 83, 117, 109, 115, 32, 116, 105, 100, 101, 112, 111, 108, 101, 47, 116, 105, 100, 101, 112, 111, 108, 101, 108, 97, 119, 50, 55, 46, 65, 100, 100, 73, 110, 116, 115, 32, 116, 105, 100, 101, 112, 111, 108, 101, 47, 116, 105, 100, 101, 112, 111, 108, 101, 108, 97, 119, 50, 55, 46, 65, 100, 100, 84, 117, 114, 110, 115, 32, 116, 105, 100, 101, 112, 111, 108, 101, 47, 116, 105, 100, 101, 112, 111, 108, 101, 108, 97, 119, 50, 55, 46, 65, 100, 100, 74, 111, 105, 110, 115, 32, 116, 105, 100, 101, 112, 111, 108, 101, 47, 116, 105, 100, 101, 112, 111, 108, 101, 108, 97, 119, 50, 55, 46, 65, 100, 100, 76, 101, 115, 115, 32, 116, 105, 100, 101, 112, 111, 108, 101, 47, 116, 105, 100, 101, 112, 111, 108, 101, 108, 97, 119, 50, 55, 46, 65, 100, 100, 66, 97, 99, 107, 32, 116, 105, 100, 101, 112, 111, 108, 101, 47, 116, 105, 100, 101, 112, 111, 108, 101, 108, 97, 119, 50, 55, 46, 65, 100, 100, 65, 108, 108, 32, 116, 105, 100, 101, 112, 111, 108, 101, 47, 116, 105, 100, 101, 112, 111, 108, 101, 108, 97, 119, 50, 56, 46, 82, 105, 115, 101, 78, 101, 118, 101, 114]
theorem Vg : Try.prog.initOrder = String.ofList vT := by kernel_rfl
theorem wU : Try.prog.initOrder.toList = vT := by rw [Vg]; exact String.toList_ofList
theorem Oc : (behindMainWord (wordsSigns vT)).head? = some "cut".toList := by kernel_rfl
theorem wV : ∃ r, behindMainWord (wordsSigns vT) = "cut".toList :: r := by have h := Oc; cases h2 : behindMainWord (wordsSigns vT) with | nil => rw [h2] at h; cases h | cons c r => rw [h2] at h; injection h with h; exact ⟨r, by rw [h]⟩
theorem Iy (r : List (List Char)) : stripLifts liftWords ("cut".toList :: r) = ([], "cut".toList :: r) := by kernel_rfl
theorem Oe : Try.prog.headLifts = [] := by obtain ⟨r, hr⟩ := wV; unfold Program.headLifts; rw [wU, hr, Iy]; kernel_rfl
theorem Gz : Try.prog.doorFits [] = true := by kernel_rfl
theorem FV : Try.prog.laysLater = false := by kernel_rfl
theorem BG : Try.prog.bearsReflect = false := by kernel_rfl
theorem MJ {P : Program} {L : List Char} {r : List (List Char)} (h1 : P.initOrder.toList = L) (h2 : behindMainWord (wordsSigns L) = "cut".toList :: r) (h3 : P.doorFits [] = true) (h4 : P.laysLater = false) (h5 : P.bearsReflect = false) : P.mayEnter = true := by unfold Program.mayEnter; rw [h1, h2]; simp only [Iy, h3, h4, h5]; kernel_rfl
theorem GH : Try.prog.mayEnter = true := by obtain ⟨r, hr⟩ := wV; exact MJ wU hr Gz FV BG
theorem DN : Try.prog.liftsFinal = false := by obtain ⟨r, hr⟩ := wV; unfold Program.liftsFinal; rw [wU, Oe, hr]; kernel_rfl
theorem Vh {P : Program} {L : List Char} {r : List (List Char)} (h1 : P.initOrder.toList = L) (h2 : behindMainWord (wordsSigns L) = "cut".toList :: r) : P.make = some .cut := by unfold Program.make; rw [h1, h2]; kernel_rfl
theorem Qi : Try.prog.make = some .cut := by obtain ⟨r, hr⟩ := wV; exact Vh wU hr
theorem JG : laidOutB Try.prog = true := by kernel_rfl
theorem FW : mapsRowed Try.prog = true := by kernel_rfl
theorem Og : (Try.prog.stops == []) = true := by kernel_rfl
theorem FX : (Try.prog.stopKnobs == []) = true := by kernel_rfl
theorem FY : Try.prog.plainKeys = true := by kernel_rfl
theorem DR : Try.prog.stopsHeard = true := by kernel_rfl
end Go.Proofs.Ytooiccpmngmapaa.P
namespace Go.Proofs.Ytooiccpmngmapaa.Pure
open Go.RowKit Go.Proofs.Ytooiccpmngmapaa.P Go.Proofs.YtooiccpmngmapaaW.PrintWords
theorem ScaleFloats : ∀ (x0 : Vq) (a1 : Int), WA x0 → (MK .i64) a1 → tidepolelaw25_ScaleFloats.f x0.f0 x0.f1 x0.f2 x0.f3 x0.f4 x0.f5 x0.f6 x0.f7 x0.f8 a1 = some true := fun _ _ h0 h1 => if_pos ⟨Yr h0, IK h1⟩
end Go.Proofs.Ytooiccpmngmapaa.Pure
namespace Go.Proofs.Ytooiccpmngmapaa.scaleFloats
open Go.ChangeShapes Go.WideShapes Go.ChangeAt Go.RowKit Go.Proofs.Ytooiccpmngmapaa.P Go.Proofs.YtooiccpmngmapaaW.PrintWords
theorem own : ownKnob Try.prog.godebug = none := by kernel_rfl
theorem laidOut : laidOutB Try.prog = true := by kernel_rfl
set_option maxRecDepth 100000 in
set_option maxHeartbeats 4000000 in
theorem lifted (os : Os) (started : os.Started) (H : Type) (enc : TypeId × Value → H) :
  ReturnsInHanded {} Try.checked os 6 .any (Rows.scaleFloatsSpec.pre6 enc Try.prog Try.f6 Rows.scaleFloatsRow.domain false) (Rows.scaleFloatsSpec.post enc Try.prog Try.f6 false true false false) := by
 refine returnsInHanded_of_change_sized (C := Try.checked) own started (by kernel_rfl) Try.func6
  (ChangeSpec.witness6 (enc := enc) (C := Try.checked) false ⟨#[], #[.agg #[.int .i64 0, .int .u64 0, .int .u64 0, .int .u64 0, .int .u64 0, .slice none 0 0, .slice none 0 0, .slice none 0 0, .slice none 0 0], .int .i64 0], []⟩ 8 (by kernel_rfl) (by kernel_rfl) (by kernel_rfl) (by kernel_rfl)) ?_
 intro W base args ds gs before hval0 hW hcnd hsz0 _
 have hval : ∀ (j : Nat) t v, Try.f6.params[j]? = some t → args[j]? = some v → Value.okWide Try.prog W .any base t v := hval0
 have hW' := hW
 obtain ⟨p, q, hA0, hV, rfl, hfz, hnd⟩ := hW
 have hA : DataW.TrodAll enc Try.prog W 0 (fun _ => true) true Try.f6.params.toList args.toList ds p := hA0
 rw [Try.params6] at hA hval
 obtain ⟨v0, vs0, d0, ds0, p0, q0, hargs, rfl, rfl, h0, r0⟩ := trodAll_cons hA
 obtain ⟨v1, vs1, d1, ds1, p1, q1, rfl, rfl, rfl, h1, r1⟩ := trodAll_cons r0
 obtain ⟨rfl, rfl, rfl⟩ := trodAll_nil r1
 obtain rfl : args = #[v0, v1] := by cases args; simp_all
 obtain ⟨rfl, rfl⟩ := trodVars_none hV
 have k0 := h0
 have lt0 : ∀ x ∈ p0, x.block < W.heap.size := by obtain ⟨m, hm⟩ := k0; exact DataW.trod_lt m _ _ _ hm
 obtain ⟨fu0, hf0⟩ := h0
 obtain ⟨x0, hK0, w0⟩ := Uk enc W 0 _ true fu0 _ _ hf0
 obtain ⟨cs0, rfl, _⟩ := okWide_struct Try.underlying55 (hval 0 55 v0 rfl rfl)
 obtain ⟨iO, iP, iJ, iK, iw, iy, iD, iE, he0, h0_5_l, aaA, h0_6_l, aaB, h0_7_l, aaC, h0_8_l, aaD⟩ := QI hK0
 obtain rfl : cs0 = #[.int .i64 x0.f0, .int .u64 x0.f1, .int .u64 x0.f2, .int .u64 x0.f3, .int .u64 x0.f4, .slice iO x0.f5.length iP, .slice iJ x0.f6.length iK, .slice iw x0.f7.length iy, .slice iD x0.f8.length iE] := by
  have he : cs0.toList = _ := he0
  exact Array.toList_inj.1 he
 obtain ⟨a1, rfl, rfl, rfl, w1⟩ := open_int Try.underlying3 (hval 1 3 v1 rfl rfl) h1
 clear hA0 hval0 hsz0
 obtain hk := Pure.ScaleFloats x0 a1 w0 w1
 refine (P.tidepolelaw25_ScaleFloats.calls x0.f0 x0.f1 x0.f2 x0.f3 x0.f4 iO iP x0.f5 iJ iK x0.f6 iw iy x0.f7 iD iE x0.f8 a1 true W aaA h0_5_l aaB h0_6_l aaC h0_7_l aaD h0_8_l hk).mono fun e W' ⟨he, bel⟩ => ?_
 subst he
 exact ⟨_, rfl, _, _, _, [], _, [], hW', trodAll_mk1 (shut_bool Try.underlying4 _), (trodAll_cons_mk (Below.trod laidOut (by kernel_rfl) (ahF (by kernel_rfl)) k0 bel lt0) (trodAll_cons_mk (shut_int Try.underlying3 w1) trodAll_mk0)), rfl, bel.frame _, fun h => by cases h⟩
theorem cf0 : (Rows.scaleFloatsRow.wf (OpenSpec.ofChange Rows.scaleFloatsSpec)) = true := by kernel_rfl
theorem cf1 : (laidOutB Try.prog) = true := P.JG
theorem cf2 : (mapsRowed Try.prog) = true := P.FW
theorem cf3 : (Try.f6.params.all (Try.prog.readableRec ·)) = true := by kernel_rfl
theorem cf4 : (namedTie Try.prog Rows.scaleFloatsRow.named Rows.scaleFloatsSpec.vars) = true := by kernel_rfl
theorem cf5 : ((Rows.scaleFloatsRow.stops == [])) = true := by kernel_rfl
theorem cf6 : ((Try.prog.stops == [])) = true := P.Og
theorem cf7 : ((Rows.scaleFloatsRow.knobs == [])) = true := by kernel_rfl
theorem cf8 : ((Try.prog.stopKnobs == [])) = true := P.FX
theorem cf9 : ((Rows.scaleFloatsRow.inPlace == Try.prog.inPlace 6)) = true := by kernel_rfl
theorem adT : ((Rows.scaleFloatsRow.unfollowed == Try.prog.unfollowed 6)) = true := by kernel_rfl
theorem adU : ((Rows.scaleFloatsRow.recurses == Try.prog.recurses 6)) = true := by kernel_rfl
theorem adV : ((Rows.scaleFloatsRow.named == Try.prog.varsNamed 6)) = true := by kernel_rfl
theorem adW : ((Rows.scaleFloatsRow.maps == (Try.f6.params.toList ++ Rows.scaleFloatsSpec.plain.varTypes Try.prog).any (Try.prog.mapsRec ·))) = true := by kernel_rfl
theorem adX : ((Rows.scaleFloatsRow.ifaces == (Try.f6.params.toList ++ Rows.scaleFloatsSpec.plain.varTypes Try.prog).any (Try.prog.ifacesRec ·))) = true := by kernel_rfl
theorem adY : ((Rows.scaleFloatsRow.mapsOut == Try.prog.mapsAmong Try.f6.resultTypes.toList)) = true := by kernel_rfl
theorem adZ : ((Rows.scaleFloatsRow.loops == (Try.f6.params.toList ++ Rows.scaleFloatsSpec.plain.varTypes Try.prog).any (Try.prog.loopsFrom ·))) = true := by kernel_rfl
theorem ad1 : ((Rows.scaleFloatsRow.wideKeys == (Try.f6.params.toList ++ Rows.scaleFloatsSpec.plain.varTypes Try.prog ++ Try.f6.resultTypes.toList).any (Try.prog.wideKeysFrom ·))) = true := by kernel_rfl
theorem ad2 : (Rows.scaleFloatsSpec.vars.all (Try.prog.varReadable ·)) = true := by kernel_rfl
theorem ad3 : (Try.f6.resultTypes.all (fun t => Try.prog.readableRec t && decide (t < Try.prog.types.size))) = true := by kernel_rfl
theorem ad4 : ((Rows.scaleFloatsRow.ifacesOut == Try.f6.resultTypes.toList.any (Try.prog.ifacesRec ·))) = true := by kernel_rfl
theorem ad6 : ((Rows.scaleFloatsRow.loopsOut == Try.f6.resultTypes.toList.any (Try.prog.loopsFrom ·))) = true := by kernel_rfl
theorem ad8 : ((Rows.scaleFloatsRow.plainKeys == Try.prog.plainKeys)) = true := by rw [P.FY]; kernel_rfl
theorem ad9 : (Rows.scaleFloatsRow.shortTexts.isNone) = true := by kernel_rfl
theorem aea : (Try.prog.stopsHeard) = true := P.DR
theorem aeb : (Try.prog.mayEnter) = true := P.GH
theorem aec : ((Rows.scaleFloatsRow.lifted == Try.prog.liftsFinal)) = true := by rw [P.DN]; kernel_rfl
theorem aed : ((Try.prog.make == some Rows.scaleFloatsRow.make)) = true := by rw [P.Qi]; kernel_rfl
theorem ag2 : ((Rows.scaleFloatsRow.kinds == (if Rows.scaleFloatsRow.domain.isEmpty then [] else Try.f6.params.toList.map fun t => match Try.prog.underlying t with | some (.int k) => some k | _ => none))) = true := by kernel_rfl
theorem aee : ((Rows.scaleFloatsRow.pinned == Rows.scaleFloatsRow.pinnedBy)) = true := by kernel_rfl
theorem aef : ((Rows.scaleFloatsRow.veiled == (Try.f6.params.toList ++ Rows.scaleFloatsSpec.plain.varTypes Try.prog ++ Try.f6.resultTypes.toList).any (Try.prog.veiledRec ·))) = true := by kernel_rfl
theorem aeg : (Rows.scaleFloatsRow.veiledFits Try.prog Try.f6.params.toList (Try.f6.params.toList ++ Rows.scaleFloatsSpec.plain.varTypes Try.prog ++ Try.f6.resultTypes.toList)) = true := by kernel_rfl
theorem iU {a b : Bool} (h : a = true) (k : b = true) : (a && b) = true := by rw [h, k]; rfl
theorem closed : joinedFacts Try.prog 6 Try.f6 Rows.scaleFloatsSpec Rows.scaleFloatsRow = true := by unfold joinedFacts; exact (iU (iU (iU (iU (iU (iU (iU (iU (iU (iU (iU (iU (iU (iU (iU (iU (iU (iU (iU (iU (iU (iU (iU (iU (iU (iU (iU (iU (iU (iU (iU cf0 cf1) cf2) cf3) cf4) cf5) cf6) cf7) cf8) cf9) adT) adU) adV) adW) adX) adY) adZ) ad1) ad2) ad3) ad4) ad6) ad8) ad9) aea) aeb) aec) aed) (by kernel_rfl)) aee) aef) aeg)
theorem over : Rows.scaleFloatsRow.holds Try.pinned (OpenSpec.ofChange Rows.scaleFloatsSpec) :=
 OpenClaim.holds_of_wide 6 Try.f6 rfl rfl rfl rfl rfl rfl rfl ⟨rfl, rfl, rfl, rfl, rfl⟩ rfl rfl rfl rfl rfl (by kernel_rfl) Try.func6 closed
  (ahF (by kernel_rfl)) (by unfold Func.isWrapper; first | (rw [if_pos (by decide +kernel)]; kernel_rfl) | (rw [if_neg (by decide +kernel)]; exact ⟨rfl, rfl⟩))
  (fun os started H enc _ => lifted os started H enc)
theorem proved : Rows.ScaleFloatsSaid := over
#print axioms proved
end Go.Proofs.Ytooiccpmngmapaa.scaleFloats
namespace Go.Proofs.Ytooiccpmngmapaa
theorem scaleFloats_holds : Rows.ScaleFloatsSaid := scaleFloats.proved
end Go.Proofs.Ytooiccpmngmapaa