/- ScaleFloats: the part that this text bears of the proof that the statement answers true for every input. No condition. -/
import Derived.Test.YtooiccpmngmapaaQScaleFloats0
import Derived.RangeFuncNested
import Derived.RangeFuncBound
import Derived.RangeFuncCalls
import Derived.RangeFuncLeaves
import Derived.RangeFuncBox
import Derived.OwnWalkIn
import Derived.TacticsInMore
import Derived.LoopNIn
import Derived.LoopIn
import Derived.Laws.Externs
import Derived.Shelf.Spec.BitsCarry
set_option linter.unusedVariables false
set_option linter.unusedSimpArgs false
namespace Go.Proofs.Ytooiccpmngmapaa.P
open Go.RowKit Go.Shelf Go.Proofs.YtooiccpmngmapaaW.PrintWords Go.Proofs.YtooiccpmngmapaaW.PrintLast Go.Proofs.YtooiccpmngmapaaW.PrintMore
attribute [local go_sem] Oper.semAt_some
def pz : Int → Nat → List Int
 | _, 0 => []
 | a, n + 1 => a :: pz (wrap64 (a + 1)) n
def o8 : Int → Nat → Int
 | a, 0 => a
 | a, n + 1 => o8 (wrap64 (a + 1)) n
theorem Ej : ∀ (n : Nat) (a : Int), pz a (n + 1) = pz a n ++ [o8 a n]
  | 0, _ => rfl
  | n + 1, a => by
    show a :: pz (wrap64 (a + 1)) (n + 1) = a :: pz (wrap64 (a + 1)) n ++ [o8 (wrap64 (a + 1)) n]
    rw [Ej n]; rfl
theorem Df : ∀ (n : Nat) (a : Int), o8 a (n + 1) = wrap64 (o8 a n + 1)
  | 0, _ => rfl
  | n + 1, a => by
    show o8 (wrap64 (a + 1)) (n + 1) = wrap64 (o8 (wrap64 (a + 1)) n + 1)
    rw [Df n]
theorem tH : ∀ (n : Nat) (a : Int), (pz a n).length = n
 | 0, _ => rfl
 | n + 1, a => by show (pz (wrap64 (a + 1)) n).length + 1 = n + 1; rw [tH n]
def fE : Int → List dQ → List Int
 | _, [] => []
 | a, s :: r => pz (wrap64 (a + s.f0)) s.f1.toNat ++ fE (o8 (wrap64 (a + s.f0)) s.f1.toNat) r
def wZ : Int → List dQ → Int
 | a, [] => a
 | a, s :: r => wZ (o8 (wrap64 (a + s.f0)) s.f1.toNat) r
theorem zh (s : dQ) : ∀ (l : List dQ) (a : Int), fE a (l ++ [s]) = fE a l ++ pz (wrap64 (wZ a l + s.f0)) s.f1.toNat
 | [], a => by simp [fE, wZ]
 | x :: l, a => by simp [fE, wZ, zh s l]
theorem Em (s : dQ) : ∀ (l : List dQ) (a : Int), wZ a (l ++ [s]) = o8 (wrap64 (wZ a l + s.f0)) s.f1.toNat
 | [], a => by simp [wZ]
 | x :: l, a => by simp [wZ, Em s l]
theorem BP (l : List dQ) (k : Nat) : (fE 0 (l.take k)).length ≤ (fE 0 l).length := by
 have : ∀ (l r : List dQ) (a : Int), (fE a l).length ≤ (fE a (l ++ r)).length := by
  intro l
  induction l with
  | nil => intro r a; simp [fE]
  | cons x l ih => intro r a; simp [fE]; exact ih _ _
 have h := this (l.take k) (l.drop k) 0
 rwa [List.take_append_drop] at h
theorem DC (l r : List dQ) : fE 0 l <+: fE 0 (l ++ r) := by
 have : ∀ (l r : List dQ) (a : Int), fE a l <+: fE a (l ++ r) := by
  intro l
  induction l with
  | nil => intro r a; simp [fE]
  | cons x l ih => intro r a; simp only [fE, List.cons_append]; exact (List.prefix_append_right_inj _).2 (ih _ _)
 exact this l r 0
def xw (ps : List Int) : List (Int × Int) := ps.zipIdx.map fun p => (((p.2 : Nat) : Int), p.1)
theorem Py (ps : List Int) (p : Int) : xw (ps ++ [p]) = xw ps ++ [((ps.length : Int), p)] := by
 simp [xw, List.zipIdx_append]
theorem Dh (ps : List Int) : (xw ps).length = ps.length := by simp [xw]
theorem Di {a b : List Int} (h : a <+: b) : xw a <+: xw b := by
 obtain ⟨c, rfl⟩ := h
 unfold xw
 rw [List.zipIdx_append, List.map_append]
 exact List.prefix_append _ _
def qK (n0 n1 : Nat) (W W' : World) : Prop := W.heap.size ≤ W'.heap.size ∧ ∀ k, n0 ≤ k → k < n1 → W'.heap[k]? = W.heap[k]?
theorem qK.refl (n0 n1 : Nat) (W : World) : qK n0 n1 W W := ⟨Nat.le_refl _, fun _ _ _ => rfl⟩
theorem qK.trans {n0 n1 : Nat} {A B C : World} (h : qK n0 n1 A B) (k : qK n0 n1 B C) : qK n0 n1 A C := ⟨Nat.le_trans h.1 k.1, fun i h0 h1 => (k.2 i h0 h1).trans (h.2 i h0 h1)⟩
theorem qK.put {n0 n1 : Nat} {w : World} (hn : n1 ≤ w.heap.size) (W : World) (l : Nat) (o o' : Obj) (hl : w.heap.size ≤ l) (h : W.heap[l]? = some o) (_ : o.isCells = false) (_ : o.isWalk = false) : qK n0 n1 W (W.putObj l o') := by
 have hg := grownBy_putObj' W l o'
 refine ⟨hg.size, fun k h0 h1 => hg.block k ?_ (fun e => by injection e with e; omega)⟩
 have := (Array.getElem?_eq_some_iff.1 h).1
 omega
theorem qK.of_below {n0 n1 : Nat} {B : Nat} {W W' : World} (h : Below B W W') (hn : n1 ≤ B) : qK n0 n1 W W' := ⟨h.size, fun k _ h1 => h.block k (by omega)⟩
def tJ (n0 n1 Bn : Nat) (v : Value) (l : List dQ) (W : World) : Prop :=
 (n0 ≤ Bn ∧ Bn < n1) ∧ n1 ≤ W.heap.size ∧ W.heap[Bn]? = some (.cells #[v] 26 (0, 0)) ∧ Kd.R jq 113 W n0 (fun k => n0 ≤ k ∧ k < n1) v l
theorem tJ.keep {n0 n1 Bn : Nat} {v : Value} {l : List dQ} {W W' : World} (h : tJ n0 n1 Bn v l W) (k : qK n0 n1 W W') : tJ n0 n1 Bn v l W' :=
 ⟨h.1, Nat.le_trans h.2.1 k.1, (k.2 Bn h.1.1 h.1.2).trans h.2.2.1, Kd.BH h.2.2.2 (fun q hq => k.2 q hq.1 hq.2)⟩
set_option maxRecDepth 100000 in
set_option maxHeartbeats 4000000 in
theorem all1_in (n : Nat) (hn : 1 ≤ n) (L n0 n1 Bn : Nat) (v : Value) (l : List dQ) (k : Nat) (hck : span_Check.f k l = some 0) (hN : (fE 0 l).length ≤ 4611686018427387904) (J Jx : List (Int × Int) → World → Prop)
    (hJ : ∀ s W W', J s W → W.grownBy W' none → J s W')
    (hY : ∀ pre x W, J pre W → pre.length < (fE 0 l).length → YieldAt Fence.wide (n - 1) Try.prog L #[.int .i64 x.1, .int .i64 x.2] W fun e W' =>
      (e = .returned (.bool true) ∧ J (pre ++ [x]) W' ∧ qK n0 n1 W W') ∨ (e = .returned (.bool false) ∧ Jx (pre ++ [x]) W'))
    (W : World) (hS : tJ n0 n1 Bn v l W) (h0 : J [] W) :
    CallsIn Fence.wide n Try.prog 185 #[.func (.yield L) #[] #[], .pointer (some ⟨Bn, 0, none⟩)] W fun e W' => (∃ v, e = .returned v) ∧
      ((∃ ys, ys = xw (fE 0 l) ∧ J ys W') ∨ (∃ pre, pre <+: xw (fE 0 l) ∧ Jx pre W')) := by
  have hu := Try.underlying113
  have hf : Fence.wide.fn 164 := trivial
  obtain ⟨A, c, rfl, hlc, hC⟩ := Kd.qy hS.2.2.2
  have hcell : W.cell? ⟨Bn, 0, none⟩ = some (.slice A l.length c) := by
    have := au (i := 0) hS.2.2.1
    rw [this]; rfl
  have hm : l.length ≤ 9223372036854775807 := hC.2.1
  have HCk := ah (span_Check.calls k A c l 0 W hC hlc hck)
  have HJ := ah hJ
  have HY := ah hY
  have HS := ah hS
  have H0 := ah h0
  clear hJ hY hS h0 hC
  refine callsIn_of_wp Try.func185 rfl trivial ?_ rfl
  simp only [Try.ntmps185, List.size_toArray, List.length_cons, List.length_nil, Nat.reduceAdd, Nat.reduceSub, Array.replicate_succ, Array.replicate_zero, List.push_toArray, List.append_toArray, List.nil_append, List.cons_append]
  gi_wp2_with (gi_at_call 164; refine (callsIn_wide.2 HCk.out).mono ?_; rintro e w1 ⟨rfl, hb⟩; have HB := ah hb; have hcell1 := (hb.cell (World.block_lt_of_cell? W _ hcell)).trans hcell; clear hb hcell)
  have HS1 := ah (HS.out.keep (qK.of_below HB.out HS.out.2.1))
  have H1 := ah (HJ.out _ _ _ H0.out (qx HB.out none))
  clear HS H0 HB HCk
  gi_loopw [3, 4, 12] (fun s3 s4 s12 wr => ∃ kk : Nat, kk ≤ l.length ∧ s12 = .int .i64 kk ∧ s3 = .int .i64 (wZ 0 (l.take kk)) ∧ s4 = .int .i64 ((fE 0 (l.take kk)).length : Int) ∧ aj (tJ n0 n1 Bn (.slice A l.length c) l wr) ∧ aj (J (xw (fE 0 (l.take kk))) wr)) (fun _ _ s12 _ => l.length - (intOf s12).toNat)
  case atStart => exact ⟨0, Nat.zero_le _, rfl, by simp [wZ], by simp [fE], HS1, by simpa [fE, xw] using H1⟩
  case round =>
    obtain ⟨kk, hkk, rfl, rfl, rfl, HS, VD⟩ := hrel
    clear HS1 H1
    by_cases hlt : kk < l.length
    · have hlti : (kk : Int) < (l.length : Int) := by omega
      have hC := (Kd.bF HS.out.2.2.2).2.2
      obtain ⟨ad, e1, hx0, hx1⟩ := pX hC kk (by omega) (by omega)
      cases e1
      clear hC
      have hrd : aY l (kk : Int) = l[kk] := by unfold aY; simp [List.getD, hlt]
      rw [hrd, Int.toNat_natCast] at hx0 hx1
      have HT := ah (List.take_succ_eq_append_getElem hlt)
      generalize l[kk] = y at hx0 hx1 HT hrd
      clear hrd
      obtain ⟨wo, rfl⟩ : ∃ wo : World, wo = wr := ⟨_, rfl⟩
      have hple : (fE 0 (l.take kk)).length ≤ 4611686018427387904 := Nat.le_trans (BP l kk) hN
      have Yu := ah (zh y (l.take kk) 0)
      have HE1 := ah (Em y (l.take kk) 0)
      have HLE : aj ((fE 0 (l.take kk)).length + y.f1.toNat ≤ (fE 0 l).length ∧ fE 0 (l.take kk) ++ pz (wrap64 (wZ 0 (l.take kk) + y.f0)) y.f1.toNat <+: fE 0 l) := by
        have h := DC (l.take (kk + 1)) (l.drop (kk + 1))
        rw [List.take_append_drop, HT.out, Yu.out] at h
        refine ⟨⟨?_, h⟩⟩
        have := h.length_le
        rwa [List.length_append, tH] at this
      rw [← HT.out] at Yu HE1
      clear HT
      generalize wZ 0 (l.take kk) = at0 at Yu HE1 HLE
      generalize fE 0 (l.take kk) = ps at Yu HLE VD hple
      have HS0 := ah (HS.out.keep (qK.of_below (ak (Below.refl _ wo) (.cells #[.int .i64 y.f0, .int .i64 y.f1] 113)) HS.out.2.1))
      have Zg := ah (HJ.out _ _ _ VD.out (qx (ak (Below.refl _ wo) (.cells #[.int .i64 y.f0, .int .i64 y.f1] 113)) none))
      clear HS VD
      gi_wp2
      gi_loopw [3, 4, 22] (fun s3 s4 s22 wr => ∃ i : Nat, i ≤ y.f1.toNat ∧ s22 = .int .i64 i ∧ s3 = .int .i64 (o8 (wrap64 (at0 + y.f0)) i) ∧ s4 = .int .i64 ((ps.length : Int) + (i : Int)) ∧ aj (tJ n0 n1 Bn (.slice (some ad) l.length c) l wr) ∧ aj (J (xw (ps ++ pz (wrap64 (at0 + y.f0)) i)) wr)) (fun _ _ s22 _ => (y.f1 - intOf s22).toNat)
      case atStart => exact ⟨0, Nat.zero_le _, rfl, rfl, by simp, HS0, by simpa [pz] using Zg⟩
      case round =>
        obtain ⟨i, hi, rfl, rfl, rfl, HS, VD⟩ := hrel
        clear HS0 Zg
        by_cases hli : (i : Int) < y.f1
        · have hlen : (ps ++ pz (wrap64 (at0 + y.f0)) i).length = ps.length + i := by rw [List.length_append, tH]
          have hlt2 : ps.length + i < (fE 0 l).length := by have := HLE.out.1; omega
          have hnx : (ps.length : Int) + (i : Int) + 1 ≤ 4611686018427387904 := by omega
          have hn0 : 0 ≤ (ps.length : Int) + (i : Int) := by omega
          have hy1 : y.f1 ≤ 4611686018427387904 := by have := HLE.out.1; omega
          obtain ⟨fn, tmps, assign, body, hy, hR⟩ := HY.out (xw (ps ++ pz (wrap64 (at0 + y.f0)) i)) ((ps.length : Int) + (i : Int), o8 (wrap64 (at0 + y.f0)) i) wr VD.out (by rw [Dh, hlen]; exact hlt2)
          dsimp only at hy
          have HA := ah (Ej i (wrap64 (at0 + y.f0)))
          have HE := ah (Df i (wrap64 (at0 + y.f0)))
          have HNS := ah (Py (ps ++ pz (wrap64 (at0 + y.f0)) i) (o8 (wrap64 (at0 + y.f0)) i))
          have HL := ah hlen
          have HRR := ah hR
          clear hR hlen VD
          gi_wp2
          refine HRR.out.mono ?_
          rintro e W3 (⟨rfl, hJ3, hk3⟩ | ⟨rfl, hJx3⟩)
          · have HJ3 := ah hJ3
            have Zh := ah (HS.out.keep hk3)
            clear hJ3 hk3
            gi_wp2
            go_roundw
            case rel => 
              refine ⟨i + 1, by omega, by go_num, by rw [HE.out], by go_num, Zh, ⟨?_⟩⟩
              rw [HA.out, ← List.append_assoc, HNS.out, HL.out]
              exact HJ3.out
            case measure => simp [intOf]; omega
          · have HX := ah hJx3
            clear hJx3
            gi_wp2
            refine bodyPost_ret (results_none rfl _ _ _) rfl ?_
            refine ⟨⟨_, rfl⟩, .inr ⟨_, ?_, HX.out⟩⟩
            have h1 := Di HLE.out.2
            have hi1 : i + 1 ≤ y.f1.toNat := by omega
            have h2 : ps ++ pz (wrap64 (at0 + y.f0)) (i + 1) <+: ps ++ pz (wrap64 (at0 + y.f0)) y.f1.toNat := by
              refine (List.prefix_append_right_inj _).2 ?_
              have : ∀ (m j : Nat) (a : Int), j ≤ m → pz a j <+: pz a m := by
                intro m
                induction m with
                | zero => intro j a hj; obtain rfl : j = 0 := by omega
                          exact List.prefix_rfl
                | succ m ih =>
                  intro j a hj
                  cases j with
                  | zero => exact List.nil_prefix
                  | succ j => exact (List.cons_prefix_cons).2 ⟨rfl, ih j _ (by omega)⟩
              exact this _ _ _ hi1
            have h3 := (Di h2).trans h1
            rw [HA.out, ← List.append_assoc, HNS.out, HL.out] at h3
            exact h3
        · have hie : i = y.f1.toNat := by omega
          have hli' : ¬ (i : Int) < y.f1 := hli
          gi_wp2
          go_roundw
          case rel =>
            refine ⟨kk + 1, by omega, by go_num, ?_, ?_, HS, ?_⟩
            · rw [HE1.out, hie]
            · rw [Yu.out, List.length_append, tH, hie]; go_num
            · rw [Yu.out, ← hie]; exact VD
          case measure => simp [intOf]; omega
    · have hlti : ¬ (kk : Int) < (l.length : Int) := by omega
      have hk : l.take kk = l := List.take_of_length_le (by omega)
      have HK := ah hk
      clear hk
      gi_wp2
      go_end0
      have hj := VD.out
      rw [HK.out] at hj
      exact ⟨⟨_, rfl⟩, .inl hj⟩
theorem all_in (n : Nat) (hn : 1 ≤ n) (A0 : Option Addr) (c0 : Nat) (l0 : List dQ) (w : World) (hr0 : Kd.C jq w A0 l0.length l0) (hc0 : l0.length ≤ c0) (hm : l0.length < 8796093022208) :
  CallsIn Fence.wide n Try.prog 184 #[.slice A0 l0.length c0] w fun e w' => ∃ (Bn : Nat) (v : Value), e = .returned (.func (.func 185) #[] #[.pointer (some ⟨Bn, 0, none⟩)]) ∧ tJ w.heap.size w'.heap.size Bn v l0 w' ∧ Below w.heap.size w w' := by
 have hf : Fence.wide.fn 138 := trivial
 have HC := ah (slices_Clone_span.calls A0 c0 l0 l0 w hr0 hc0 (by unfold slices_Clone_span.f; rw [if_pos hm]))
 clear hr0 hc0 hm
 refine callsIn_of_wp Try.func184 rfl trivial ?_ rfl
 simp only [Try.ntmps184, List.size_toArray, List.length_cons, List.length_nil, Nat.reduceAdd, Nat.reduceSub, Array.replicate_succ, Array.replicate_zero, List.push_toArray, List.append_toArray, List.nil_append, List.cons_append]
 gi_wp2_with (gi_at_call 138; refine (callsIn_wide.2 HC.out).mono ?_; rintro e w1 ⟨v, rfl, ho, hb⟩; have HO := ah ho; have HB := ah hb; obtain ⟨A1, c1, rfl⟩ := Kd.dw ho; clear ho hb)
 go_ret
 refine ⟨w1.heap.size, .slice A1 l0.length c1, rfl, ⟨⟨HB.out.size, by simp⟩, by simp, ?_, ?_⟩, aG HB.out HB.out.size (ak (Below.refl _ _) _)⟩
 ·simpa using iL w1 (.cells #[.slice A1 l0.length c1] 26)
 ·refine Kd.bZ (Kd.jK (Kd.eU HO.out (ak (Below.refl _ _) _))) (fun k hk => ⟨hk.2.1, hk.2.2.1⟩)
theorem all_stops (n : Nat) (hn : 1 ≤ n) (n0 Bn : Nat) (v : Value) (l : List dQ) (k : Nat) (hck : span_Check.f k l = some 0) (hN : (fE 0 l).length ≤ 4611686018427387904) (w : World) (hS : tJ n0 w.heap.size Bn v l w) :
  SeqStopsK Fence.wide n Try.prog 185 #[.pointer (some ⟨Bn, 0, none⟩)] (fun x : Int × Int => #[Value.int .i64 x.1, .int .i64 x.2]) (qK n0 w.heap.size) (fun ys => ys = xw (fE 0 l)) (fun pre => pre <+: xw (fE 0 l)) (fE 0 l).length w := fun L J Jx W hW hJ _ hY h0 =>
 all1_in n hn L n0 w.heap.size Bn v l k hck hN J Jx (fun s A B hs hg => hJ s A B none hs hg (fun r e => by cases e)) hY W (hS.keep (qK.of_below hW (Nat.le_refl _))) h0
end Go.Proofs.Ytooiccpmngmapaa.P
namespace Go.Proofs.Ytooiccpmngmapaa.P
open Go.RowKit Go.Shelf Go.Proofs.YtooiccpmngmapaaW.PrintWords Go.Proofs.YtooiccpmngmapaaW.PrintLast Go.Proofs.YtooiccpmngmapaaW.PrintMore
attribute [local go_sem] Oper.semAt_some
def span_Places.f (k : Nat) (l0 : List dQ) : Option (List Int × Int) :=
 (span_Check.f k l0).bind fun e => if e = 0 then (if l0.length < 8796093022208 ∧ (fE 0 l0).length < 17592186044416 then some (fE 0 l0, 0) else none) else some ([], e)
theorem Rj (ps : List Int) : (xw ps).map (fun x => Value.int .i64 x.2) = encs (Value.int .i64) ps := by
 unfold xw encs
 rw [List.map_map]
 have : ∀ (ps : List Int) (i : Nat), (ps.zipIdx i).map ((fun x : Int × Int => Value.int .i64 x.2) ∘ fun p : Int × Nat => (((p.2 : Nat) : Int), p.1)) = ps.map (Value.int .i64) := by
  intro ps
  induction ps with
  | nil => intro i; rfl
  | cons p ps ih => intro i; simp only [List.zipIdx_cons, List.map_cons, ih, Function.comp]
 exact this ps 0
theorem En {n0 n1 B : Nat} {W w1 : World} {e : TypeId} {size k : Nat} {v v' : Value} {xs : List Value} {tmp : Obj} (hB : B < n0) (hn : n1 ≤ W.heap.size)
  (hrow : W.ownsRow n1 e size v k xs) (hgrow : (W.alloc tmp).grownBy w1 v.ownBlock) : qK n0 n1 W (w1.setCell ⟨B, 0, none⟩ v') := by
 have hs := hgrow.size
 simp at hs
 refine ⟨by simp [World.setCell]; omega, fun q h0 h1 => ?_⟩
 rw [Below.heap_setCell w1 ⟨B, 0, none⟩ v' q (by show q ≠ B; omega), hgrow.block q (by simp; omega) (fun e' => ?_), Below.heap_alloc W tmp q (by omega)]
 have := own_base hrow q e'.symm
 omega
set_option maxRecDepth 100000 in
set_option maxHeartbeats 4000000 in
theorem span_Places.calls (k : Nat) (A0 : Option Addr) (c0 : Nat) (l0 : List dQ) (r1 : List Int) (r2 : Int) (w : World) (hr0 : Kd.C jq w A0 l0.length l0) (hc0 : l0.length ≤ c0) (h : span_Places.f k l0 = some (r1, r2)) :
  Calls Try.prog 181 #[.slice A0 l0.length c0] w fun e w' => ∃ mW : Value, e = .returned (.tuple #[mW, .int .i64 r2]) ∧ Kd.R (Kd.int .i64) 3 w' w.heap.size (fun _ => True) mW r1 ∧ Below w.heap.size w w' := by
 obtain ⟨e0, hck, h2⟩ := Option.bind_eq_some_iff.1 h
 clear h
 have HCk := ah (span_Check.calls k A0 c0 l0 e0 w hr0 hc0 hck)
 by_cases he : e0 = 0
 ·subst he
  rw [if_pos rfl] at h2
  obtain ⟨hm, h3⟩ := lC h2
  injection h3 with h4 h5
  subst h4; subst h5
  clear h2
  refine (callsIn_wide (n := 5)).1 ?_
  have hf0 : Fence.wide.fn 164 := trivial
  have hf1 : Fence.wide.fn 184 := trivial
  have HR := ah hr0
  have HM := ah hm
  obtain ⟨i0, hi, hz0, hz1, hz2⟩ := info_parts info3
  clear hr0 hm
  refine callsIn_of_wp_marks Try.func181 rfl trivial ?_ rfl
  simp only [Try.ntmps181, List.size_toArray, List.length_cons, List.length_nil, Nat.reduceAdd, Nat.reduceSub, Array.replicate_succ, Array.replicate_zero, List.push_toArray, List.append_toArray, List.nil_append, List.cons_append]
  gi_wp2_with (first | (gi_at_call 164; refine (callsIn_wide.2 HCk.out).mono ?_; rintro e w1 ⟨rfl, hb⟩; have HB := ah hb; clear hb HCk) | (gi_at_call 184; refine (all_in _ (by omega) A0 c0 l0 _ (Kd.bT (Kd.bT HR.out HB.out) (ak (Below.refl _ _) _)) hc0 HM.out.1).mono ?_; rintro e w2 ⟨Bn, v, rfl, hS, hb2⟩; have HS := ah hS; have HB2 := ah hb2; clear hS hb2))
  have hsz : w1.heap.size + 1 ≤ w2.heap.size := by have := HB2.out.size; simpa using this
  have hB2 : w2.heap[w1.heap.size]? = some (.cells #[.slice none 0 0] 30 (0, 0)) := (HB2.out.block _ (by simp)).trans (by simpa using iL w1 (.cells #[.slice none 0 0] 30))
  have hBW : Below w.heap.size w w2 := aG (aG HB.out HB.out.size (ak (Below.refl _ _) _)) (by have := HB.out.size; simp; omega) HB2.out
  have hS2 : tJ (w1.heap.size + 1) w2.heap.size Bn v l0 w2 := by simpa using HS.out
  refine wpIn_rangeFunc_ownG rfl (by omega) (gf := 185) (lb := #[.pointer (some ⟨Bn, 0, none⟩)]) rfl trivial (enters_of Try.func185 (by kernel_rfl) rfl)
   (all_stops _ (by omega) (w1.heap.size + 1) Bn v l0 k hck (by have := HM.out.2; omega) w2 hS2) qK.trans (qK.put (Nat.le_refl _)) (Below.refl _ _) (fun _ => rfl)
   (fun pre W => (∃ v, Boxed W w1.heap.size 30 v ∧ W.ownsRow w2.heap.size 3 1 v pre.length (pre.map fun x => Value.int .i64 x.2) ∧ True) ∧ (Below w.heap.size w W ∧ w2.heap.size ≤ W.heap.size))
   (fun _ _ _ => False)
   (OwnFrom.and (Own.from (holdsRow_own w2.heap.size w1.heap.size 30 3 1 (fun pre : List (Int × Int) => pre.length) (fun pre => pre.map fun x => Value.int .i64 x.2) (fun pre v => True)) _) (OwnFrom.and (ownFrom_below (Nat.le_refl _) (by have := HB.out.size; omega)) (fun s A B row hs hg hr => Nat.le_trans hs hg.size)))
   (fun _ _ _ _ _ hs _ _ => hs)
   ⟨⟨_, hB2, World.ownsRow_nil _ _ _ _, trivial⟩, hBW, Nat.le_refl _⟩
   (fun x => { tmps := #[.slice A0 l0.length c0, undef, .slice none 0 0, .int .i64 0, .int .i64 0, .pointer (some ⟨w1.heap.size, 0, none⟩), undef, .int .i64 x.2, .slice A0 l0.length c0, .int .i64 0, .int .i64 0, .bool false, undef, .slice A0 l0.length c0, .func (.func 185) #[] #[.pointer (some ⟨Bn, 0, none⟩)], .int .i64 x.1, .int .i64 x.2, undef, undef, undef, undef, undef], defers := [] }) ?assign ?body ?done ?stop
  case assign =>
   intro l x W K hK
   gi_wp2
   exact hK
  case body =>
   rintro l pre x W ⟨⟨v, hv, hrow, _⟩, hB, hW2⟩ hlt
   have hc := hv.cell
   have hL := HM.out.2
   gi_wp2_with (gi_at_builtin; refine wpListIn_append_own _ rfl _ _ 30 rfl w2.heap.size 3 i0 (.int .i64 0) 1 8 Try.underlying30 hi hz0 hz1 hz2 rfl (by decide) _ _ _ rfl (hrow.alloc _) ⟨W.heap.size, 0, none⟩ 1 1 [.int .i64 x.2] rfl rfl (cell_one_new _ _ _) (by simp [Value.oneCell']) (by unfold maxLen; omega) (by omega) (by simp; omega) ?_; intro v' w3 hown' hgrow _; obtain ⟨g', cap', rfl⟩ := ownsRow_succ hown'; have hkr := En (v' := .slice (some ⟨g', 0, none⟩) (pre.length + 1) cap') (B := w1.heap.size) (n0 := w1.heap.size + 1) (Nat.lt_succ_self _) hW2 hrow hgrow; obtain ⟨hv1, hv2, hr2, hk2, hb2⟩ := hv.appended (n₀ := w1.heap.size) (by decide) (vU hrow (by omega)) (by omega) (Nat.le_refl _) (vU hown' (by omega)) hgrow; have hr3 := hown'.kept (grownBy_setCell' w3 w1.heap.size (.slice (some ⟨g', 0, none⟩) (pre.length + 1) cap')) (.inr (hv1.not_row (by decide) hown').symm); have hc1 := hv1.cell; have hf1 := hv1.frozen)
   exact ⟨hk2.from _, hkr, ⟨⟨_, hv2, by simpa using hr3, trivial⟩, hB.trans (hb2.mono HB.out.size), Nat.le_trans hW2 hkr.1⟩⟩
  case done =>
   rintro D ys W hD rfl ⟨⟨v, hv, hrow, _⟩, hB, hW2⟩ hK
   have hc := hv.cell
   gi_wp2
   refine ⟨by simp, .inl ⟨_, _, rfl, run_takeDeferred hK, ?_⟩⟩
   have hr2 := ownsRow_putObj hrow (.deferred none) hK rfl
   refine ⟨_, results_tmp2 rfl _ _ _, v, rfl, ?_, hB.trans (belowK_b (w := w2) (by have := HB.out.size; omega) W D _ _ hD hK rfl rfl)⟩
   rw [Dh, Rj] at hr2
   exact Kd.dh (Kd.JL (enc := Value.int .i64) (h1 := fun _ => rfl) hr2 (fun _ _ => trivial)) (by have := HB.out.size; omega)
  case stop =>
   rintro D c pre W _ _ h _
   exact h.elim
 ·rw [if_neg he] at h2
  have h3 := Option.some.inj h2
  injection h3 with h4 h5
  subst h4; subst h5
  clear h2
  have he1 : (e0 == 0) = false := beq_eq_false_iff_ne.2 he
  have he2 : (e0 != 0) = true := bne_iff_ne.2 he
  go_enter Try.func181, Try.ntmps181
  go_wp2_with (go_at_call 164; refine HCk.out.mono ?_; rintro e w1 ⟨rfl, hb⟩; have HB := ah hb; clear hb)
  go_ret2
  exact ⟨_, rfl, Kd.eY _ _ _ _ _, HB.out⟩
end Go.Proofs.Ytooiccpmngmapaa.P
namespace Go.Proofs.Ytooiccpmngmapaa.P
open Go.RowKit Go.Proofs.YtooiccpmngmapaaW.PrintWords Go.Proofs.YtooiccpmngmapaaW.PrintLast Go.Proofs.YtooiccpmngmapaaW.PrintMore
attribute [local go_sem] iV iW jH jI gW gX iY iZ
mutual
def tidepoleref06_Places.l0 : Nat → List (eP) → List Int → Int → Int → Option (List Int)
 | 0, _, _, _, _ => none
 | k + 1, x0, x3, x4, x5 => if x5 < (x0.length : Int) then (if 0 ≤ x5 then (tidepoleref06_Places.l1 k x0 x3 (wrap64 (x4 + ((aW x0 x5).f0))) x5 0) else (none)) else (some x3)
def tidepoleref06_Places.l1 : Nat → List (eP) → List Int → Int → Int → Int → Option (List Int)
 | 0, _, _, _, _, _ => none
 | k + 1, x0, x3, x4, x5, x6 => if 0 ≤ x5 then (if x5 < (x0.length : Int) then (if x6 < ((aW x0 x5).f1) then (if x3.length < 17592186044416 then (tidepoleref06_Places.l1 k x0 (x3 ++ [x4]) (wrap64 (x4 + 1)) x5 (wrap64 (x6 + 1))) else (none)) else (tidepoleref06_Places.l0 k x0 x3 x4 (wrap64 (x5 + 1)))) else (none)) else (none)
end
def tidepoleref06_Places.f (k : Nat) (l0 : List (eP)) : Option (List Int) := tidepoleref06_Places.l0 k l0 ([] : List Int) 0 0
set_option maxHeartbeats 8000000 in
set_option maxRecDepth 100000 in
theorem tidepoleref06_Places.calls (k : Nat) (A0 : Option Addr) (c0 : Nat) (l0 : List (eP)) (r : List Int) (w : World) (hr0 : Kd.C mV w A0 l0.length l0) (hc0 : l0.length ≤ c0) (h : tidepoleref06_Places.f k l0 = some r) :
  Calls Try.prog 97 #[.slice A0 l0.length c0] w fun e w' => ∃ mW : Value, e = .returned (mW) ∧ Kd.R (Kd.int .i64) 3 w' w.heap.size (fun _ => True) mW r ∧ Below w.heap.size w w' := by
 have HR0 := ah hr0
 have uH := ah hc0
 clear hr0 hc0
 have HB := ah (Below.refl w.heap.size w)
 have H : (tidepoleref06_Places.l0 k l0 ([] : List Int) 0 0) = some r := h
 clear h
 have H' := ah H
 clear H
 go_enter Try.func97, Try.ntmps97
 go_wp2
 go_loopg [3, 4, 5] k (fun kq v3 v4 v5 w' => ∃ (fG : List Int) (dU : Int) (bG : Int), v4 = .int .i64 dU ∧ v5 = .int .i64 bG ∧ aj (tidepoleref06_Places.l0 kq l0 fG dU bG = some r) ∧ aj (kq ≤ k) ∧ aj (Kd.R (Kd.int .i64) 3 w' w.heap.size (fun _ => True) v3 fG) ∧ aj (Below w.heap.size w w'))
 case atStart => exact ⟨(([] : List Int)), (0), (0), (by first | rfl | (simp; done) | (simp [*]; done)), (by first | rfl | (simp; done) | (simp [*]; done)), H', ⟨Nat.le_refl _⟩, ⟨by first | exact Kd.eY _ _ _ _ _ | exact Kd.ig _ _ _ _ _ | exact Kd.iq _ _ _ _ _ | exact Kd.gY _ _ _ _ _ | exact Kd.gZ _ _ _ _ _⟩, ⟨by repeat (first | (with_reducible first | exact HB.out | apply ak | apply ay | apply aH) | exact HB.out)⟩⟩
 case round =>
  clear H'
  obtain ⟨fG, dU, bG, rfl, rfl, HA, jy, HO_3, HB⟩ := hrel
  cases gk with
  | zero => exact absurd HA.out (by simp [tidepoleref06_Places.l0])
  | succ k1 =>
   have H := HA.out
   clear HA
   simp only [tidepoleref06_Places.l0] at H
   by_cases c2 : bG < (l0.length : Int)
   ·rw [if_pos c2] at H
    have c2b0 : decide (bG < (l0.length : Int)) = true := ahG c2
    clear c2
    by_cases c3 : 0 ≤ bG
    ·rw [if_pos c3] at H
     have c3b0 : decide (0 ≤ bG) = true := ahG c3
     clear c3
     have H' := ah H
     clear H
     have fC : 0 ≤ (bG : Int) := ahF (by assumption)
     have fD : bG < (l0.length : Int) := ahF (by assumption)
     obtain ⟨kE, jM, bW, dS⟩ := qI HR0.out bG fC fD
     cases jM
     replace bW := (HB.out.cell (World.block_lt_of_cell? w _ bW)).trans bW
     replace dS := (HB.out.cell (World.block_lt_of_cell? w _ dS)).trans dS
     replace fC := eq_true fC
     replace fD := eq_true fD
     go_wp2
     go_loopg [3, 4, 6] k1 (fun kq v3 v4 v6 w' => ∃ (Na : List Int) (IU : Int) (yV : Int), v4 = .int .i64 IU ∧ v6 = .int .i64 yV ∧ aj (tidepoleref06_Places.l1 kq l0 Na IU bG yV = some r) ∧ aj (kq ≤ k1) ∧ aj (Kd.R (Kd.int .i64) 3 w' w.heap.size (fun _ => True) v3 Na) ∧ aj (Below w.heap.size w w'))
     case atStart => exact ⟨(fG), (wrap64 (dU + ((aW l0 bG).f0))), (0), (by first | rfl | (simp; done) | (simp [*]; done)), (by first | rfl | (simp; done) | (simp [*]; done)), H', ⟨Nat.le_refl _⟩, ⟨by (repeat with_reducible refine Kd.kQ ?_); exact HO_3.out⟩, ⟨by repeat (first | (with_reducible first | exact HB.out | apply ak | apply ay | apply aH) | exact HB.out)⟩⟩
     case round =>
      clear H'
      try clear p1
      try clear q1
      try clear hx1
      try clear c2
      try clear c2b0
      try clear p2
      try clear c3
      try clear c3b0
      try clear bW
      try clear dS
      try clear fC
      try clear fD
      obtain ⟨Na, IU, yV, rfl, rfl, HA, ML, HO_3, HB⟩ := hrel
      cases gk with
      | zero => exact absurd HA.out (by simp [tidepoleref06_Places.l1])
      | succ k2 =>
       have H := HA.out
       clear HA
       simp only [tidepoleref06_Places.l1] at H
       by_cases c4 : 0 ≤ bG
       ·rw [if_pos c4] at H
        have c4b0 : decide (0 ≤ bG) = true := ahG c4
        clear c4
        by_cases c5 : bG < (l0.length : Int)
        ·rw [if_pos c5] at H
         have c5b0 : decide (bG < (l0.length : Int)) = true := ahG c5
         clear c5
         by_cases c6 : yV < ((aW l0 bG).f1)
         ·rw [if_pos c6] at H
          have c6b0 : decide (yV < ((aW l0 bG).f1)) = true := ahG c6
          clear c6
          by_cases c7 : Na.length < 17592186044416
          ·rw [if_pos c7] at H
           have Nb := ah c7
           clear c7
           obtain ⟨gy, jY⟩ : ∃ y_ : List Int, y_ = (Na ++ [IU]) := ⟨_, rfl⟩
           replace H : (tidepoleref06_Places.l1 k2 l0 gy (wrap64 (IU + 1)) bG (wrap64 (yV + 1))) = some r := by first | (rw [jY]; with_reducible exact H) | (have jA := (Option.bind_some _ _).symm.trans H; rw [jY]; with_reducible exact jA) | (have jA := (Option.bind_some _ _).symm.trans H; with_reducible exact jA) | with_reducible exact H | (rw [jY]; exact H) | exact H
           have sN := ah jY
           clear jY
           have H' := ah H
           clear H
           have nG : 0 ≤ (bG : Int) := ahF (by assumption)
           have nH : bG < (l0.length : Int) := ahF (by assumption)
           obtain ⟨wY, xG, lD, oq⟩ := qI HR0.out bG nG nH
           obtain rfl : kE = wY := (by injection xG)
           replace lD := (HB.out.cell (World.block_lt_of_cell? w _ lD)).trans lD
           replace oq := (HB.out.cell (World.block_lt_of_cell? w _ oq)).trans oq
           replace nG := eq_true nG
           replace nH := eq_true nH
           go_wp2_with (first | ((with_reducible refine eG (b := .append) (xs := #[.tmp 29, .tmp 31]) rfl ?_); at_builtin; refine Kd.je (Kd.int .i64) (w0 := w) w.heap.size rfl (.tmp 29) (.tmp 31) 30 3 (.int .i64 0) 8 rfl Try.underlying30 info3 rfl (by decide) (by omega) u3 Na IU [.int .i64 IU] (fun _ => True) (fun _ => False) rfl rfl ?aP (fun _ hk => hk.elim) ?aF ?aO ?aB ?aS ?aL ?_; (case aP => exact rfl); (case aB => exact (bg HB.out)); (case aF => exact (fun _ _ => trivial)); (case aO => exact (Kd.fJ HO_3.out)); (case aS => exact (aQ (bg HB.out))); (case aL => have := Nb.out; omega); intro xH w8 ho hb hg hat; rw [← sN.out] at ho; have eF := ah (ho); replace HB := ah (hb); clear HO_3 ho hb hg hat))
           go_roundg k2
           case measure => have := jy.out; have := ML.out; omega
           case rel => exact ⟨(gy), (wrap64 (IU + 1)), (wrap64 (yV + 1)), (by first | rfl | (simp; done) | (simp [*]; done)), (by first | rfl | (simp; done) | (simp [*]; done)), H', ⟨by have := jy.out; have := ML.out; omega⟩, ⟨by (repeat with_reducible refine Kd.kQ ?_); exact eF.out⟩, ⟨by repeat (first | (with_reducible first | exact HB.out | apply ak | apply ay | apply aH) | exact HB.out)⟩⟩
          rw [if_neg c7] at H
          exact absurd H (by simp)
         rw [if_neg c6] at H
         have c6b0 : decide (yV < ((aW l0 bG).f1)) = false := ahH c6
         clear c6
         have H' := ah H
         clear H
         have nG : 0 ≤ (bG : Int) := ahF (by assumption)
         have nH : bG < (l0.length : Int) := ahF (by assumption)
         obtain ⟨wY, xG, lD, oq⟩ := qI HR0.out bG nG nH
         obtain rfl : kE = wY := (by injection xG)
         replace lD := (HB.out.cell (World.block_lt_of_cell? w _ lD)).trans lD
         replace oq := (HB.out.cell (World.block_lt_of_cell? w _ oq)).trans oq
         replace nG := eq_true nG
         replace nH := eq_true nH
         go_wp2
         go_roundg k2
         case measure => have := jy.out; have := ML.out; omega
         case rel => exact ⟨(Na), (IU), (wrap64 (bG + 1)), (by first | rfl | (simp; done) | (simp [*]; done)), (by first | rfl | (simp; done) | (simp [*]; done)), H', ⟨by have := jy.out; have := ML.out; omega⟩, ⟨by (repeat with_reducible refine Kd.kQ ?_); exact HO_3.out⟩, ⟨by repeat (first | (with_reducible first | exact HB.out | apply ak | apply ay | apply aH) | exact HB.out)⟩⟩
        rw [if_neg c5] at H
        exact absurd H (by simp)
       rw [if_neg c4] at H
       exact absurd H (by simp)
    rw [if_neg c3] at H
    exact absurd H (by simp)
   rw [if_neg c2] at H
   have c2b0 : decide (bG < (l0.length : Int)) = false := ahH c2
   clear c2
   obtain rfl := Option.some.inj H
   go_wp2
   go_ret
   exact ⟨_, by first | rfl | (simp [aU, aV] <;> rfl) | (simp [*, aU, aV] <;> rfl), by (repeat with_reducible refine Kd.kQ ?_); exact HO_3.out, by repeat (first | (with_reducible first | exact HB.out | apply ak | apply ay | apply aH) | exact HB.out)⟩
mutual
def tidepoleref06_Check.l0 : Nat → List (eP) → Int → Int → Int → Option (Int)
 | 0, _, _, _, _ => none
 | k + 1, x0, x3, x4, x5 => if x5 < (x0.length : Int) then (if 0 ≤ x5 then (if ((aW x0 x5).f0) < (-1048576) then (tidepoleref06_Check.j1 k x0 x3 x4 x5 true ((aW x0 x5).f0) ((aW x0 x5).f1)) else (if ((aW x0 x5).f0) > 2097152 then (tidepoleref06_Check.j1 k x0 x3 x4 x5 true ((aW x0 x5).f0) ((aW x0 x5).f1)) else (if x5 = 0 then (if ((aW x0 x5).f0) > 1048576 then (tidepoleref06_Check.j1 k x0 x3 x4 x5 true ((aW x0 x5).f0) ((aW x0 x5).f1)) else (if x5 > 0 then (if ((aW x0 x5).f0) < 0 then (tidepoleref06_Check.j1 k x0 x3 x4 x5 true ((aW x0 x5).f0) ((aW x0 x5).f1)) else (if ((aW x0 x5).f1) < 0 then (tidepoleref06_Check.j1 k x0 x3 x4 x5 true ((aW x0 x5).f0) ((aW x0 x5).f1)) else (tidepoleref06_Check.j1 k x0 x3 x4 x5 (decide (((aW x0 x5).f1) > 4096)) ((aW x0 x5).f0) ((aW x0 x5).f1)))) else (if ((aW x0 x5).f1) < 0 then (tidepoleref06_Check.j1 k x0 x3 x4 x5 true ((aW x0 x5).f0) ((aW x0 x5).f1)) else (tidepoleref06_Check.j1 k x0 x3 x4 x5 (decide (((aW x0 x5).f1) > 4096)) ((aW x0 x5).f0) ((aW x0 x5).f1))))) else (if x5 > 0 then (if ((aW x0 x5).f0) < 0 then (tidepoleref06_Check.j1 k x0 x3 x4 x5 true ((aW x0 x5).f0) ((aW x0 x5).f1)) else (if ((aW x0 x5).f1) < 0 then (tidepoleref06_Check.j1 k x0 x3 x4 x5 true ((aW x0 x5).f0) ((aW x0 x5).f1)) else (tidepoleref06_Check.j1 k x0 x3 x4 x5 (decide (((aW x0 x5).f1) > 4096)) ((aW x0 x5).f0) ((aW x0 x5).f1)))) else (if ((aW x0 x5).f1) < 0 then (tidepoleref06_Check.j1 k x0 x3 x4 x5 true ((aW x0 x5).f0) ((aW x0 x5).f1)) else (tidepoleref06_Check.j1 k x0 x3 x4 x5 (decide (((aW x0 x5).f1) > 4096)) ((aW x0 x5).f0) ((aW x0 x5).f1))))))) else (none)) else (some 0)
def tidepoleref06_Check.j1 : Nat → List (eP) → Int → Int → Int → Bool → Int → Int → Option (Int)
 | 0, _, _, _, _, _, _, _ => none
 | k + 1, x0, x3, x4, x5, x56, lN, lg => if x56 = true then (some 20) else (if (wrap64 (x3 + lN)) < (-1048576) then (tidepoleref06_Check.j2 k x0 (wrap64 (x3 + lN)) x4 x5 true lN lg) else (tidepoleref06_Check.j2 k x0 (wrap64 (x3 + lN)) x4 x5 (decide ((wrap64 (x3 + lN)) > 1048576)) lN lg))
def tidepoleref06_Check.j2 : Nat → List (eP) → Int → Int → Int → Bool → Int → Int → Option (Int)
 | 0, _, _, _, _, _, _, _ => none
 | k + 1, x0, x3, x4, x5, x66, lN, lg => if x66 = true then (some 20) else (tidepoleref06_Check.l1 k x0 x3 x4 x5 0 lN lg)
def tidepoleref06_Check.l1 : Nat → List (eP) → Int → Int → Int → Int → Int → Int → Option (Int)
 | 0, _, _, _, _, _, _, _ => none
 | k + 1, x0, x3, x4, x5, x7, lN, lg => if x7 < lg then (if x3 > 1048576 then (some 20) else (tidepoleref06_Check.l1 k x0 (wrap64 (x3 + 1)) (wrap64 (x4 + 1)) x5 (wrap64 (x7 + 1)) lN lg)) else (if x4 > 4096 then (some 20) else (tidepoleref06_Check.l0 k x0 x3 x4 (wrap64 (x5 + 1))))
end
def tidepoleref06_Check.f (k : Nat) (l0 : List (eP)) : Option (Int) := if (l0.length : Int) > 1024 then (some 12) else (tidepoleref06_Check.l0 k l0 0 0 0)
set_option maxHeartbeats 8000000 in
set_option maxRecDepth 100000 in
theorem tidepoleref06_Check.calls (k : Nat) (A0 : Option Addr) (c0 : Nat) (l0 : List (eP)) (r : Int) (w : World) (hr0 : Kd.C mV w A0 l0.length l0) (hc0 : l0.length ≤ c0) (h : tidepoleref06_Check.f k l0 = some r) :
  Calls Try.prog 142 #[.slice A0 l0.length c0] w fun e w' => e = .returned (.int .i64 r) ∧ Below w.heap.size w w' := by
 have Rk := Try.underlying127
 have HR0 := ah hr0
 have uH := ah hc0
 clear hr0 hc0
 have HB := ah (Below.refl w.heap.size w)
 have H : (if (l0.length : Int) > 1024 then (some 12) else (tidepoleref06_Check.l0 k l0 0 0 0)) = some r := h
 clear h
 by_cases c2 : (l0.length : Int) > 1024
 ·rw [if_pos c2] at H
  have c2b0 : decide (1024 < (l0.length : Int)) = true := ahG c2
  have c2b1 : decide (1024 < l0.length) = true := ahG (by omega)
  clear c2
  obtain rfl := Option.some.inj H
  go_enter Try.func142, Try.ntmps142
  go_wp2
  go_ret
  exact ⟨by first | rfl | (simp [aU, aV] <;> rfl) | (simp [*, aU, aV] <;> rfl), by repeat (first | (with_reducible first | exact HB.out | apply ak | apply ay | apply aH) | exact HB.out)⟩
 rw [if_neg c2] at H
 have c2b0 : decide (1024 < (l0.length : Int)) = false := ahH c2
 have c2b1 : decide (1024 < l0.length) = false := ahH (by omega)
 clear c2
 have H' := ah H
 clear H
 go_enter Try.func142, Try.ntmps142
 go_wp2
 go_loopg [3, 4, 5] k (fun kq v3 v4 v5 w' => ∃ (fG : Int) (dU : Int) (bG : Int), v3 = .int .i64 fG ∧ v4 = .int .i64 dU ∧ v5 = .int .i64 bG ∧ aj (tidepoleref06_Check.l0 kq l0 fG dU bG = some r) ∧ aj (kq ≤ k) ∧ aj (Below w.heap.size w w'))
 case atStart => exact ⟨(0), (0), (0), (by first | rfl | (simp; done) | (simp [*]; done)), (by first | rfl | (simp; done) | (simp [*]; done)), (by first | rfl | (simp; done) | (simp [*]; done)), H', ⟨Nat.le_refl _⟩, ⟨by repeat (first | (with_reducible first | exact HB.out | apply ak | apply ay | apply aH) | exact HB.out)⟩⟩
 case round =>
  clear H'
  try clear c1
  try clear c2
  try clear c2b0
  try clear c2b1
  try clear p2
  obtain ⟨fG, dU, bG, rfl, rfl, rfl, HA, jy, HB⟩ := hrel
  cases gk with
  | zero => exact absurd HA.out (by simp [tidepoleref06_Check.l0])
  | succ k1 =>
   have H := HA.out
   clear HA
   simp only [tidepoleref06_Check.l0] at H
   by_cases c3 : bG < (l0.length : Int)
   ·rw [if_pos c3] at H
    have c3b0 : decide (bG < (l0.length : Int)) = true := ahG c3
    clear c3
    by_cases c4 : 0 ≤ bG
    ·rw [if_pos c4] at H
     have c4b0 : decide (0 ≤ bG) = true := ahG c4
     clear c4
     have MW := ah H
     clear H
     have fC : 0 ≤ (bG : Int) := ahF (by assumption)
     have fD : bG < (l0.length : Int) := ahF (by assumption)
     obtain ⟨kE, jM, bW, dS⟩ := qI HR0.out bG fC fD
     cases jM
     replace bW := (HB.out.cell (World.block_lt_of_cell? w _ bW)).trans bW
     replace dS := (HB.out.cell (World.block_lt_of_cell? w _ dS)).trans dS
     replace fC := eq_true fC
     replace fD := eq_true fD
     go_upto_region 8 with (first | ((with_reducible refine fK (N := 6) rfl ?_); refine fA ?hg (N := 6) ?hd (cs := #[.int .i64 0, .int .i64 0]) (t := 127) ?hr ?_; (case hd => rfl); (case hg => rfl); (case hr => first | (go_simp; done) | (go_simp; rfl)); intro aI hg w6 hbox hb; have aJ := ah (hbox); have oN := ah ((by rw [hg]; exact (aQ (bg HB.out)) : w.heap.size ≤ aI)); have bU := ah ((by rw [hg]; exact (aQ (bg HB.out)) : w.heap.size ≤ aI)); replace HB := ah (aZ (bg HB.out) hb); clear hb hbox hg; have xC := au aJ.out; have xE := aC aJ.out))
     (try simp only [Act.put, List.setIfInBounds_toArray, List.set_cons_zero, List.set_cons_succ])
     go_cut [56] (fun v56 wc => ∃ (kq : Nat) (Ov : Bool), v56 = .bool Ov ∧ aj (tidepoleref06_Check.j1 kq l0 fG dU bG Ov ((aW l0 bG).f0) ((aW l0 bG).f1) = some r) ∧ aj (kq ≤ k1) ∧ aj (wc.heap[aI]? = some (.cells #[.int .i64 ((aW l0 bG).f0), .int .i64 ((aW l0 bG).f1)] 127 (0, 0))) ∧ aj (Below w.heap.size w wc))
     case first =>
      have H := MW.out
      clear MW
      by_cases c8 : ((aW l0 bG).f0) < (-1048576)
      ·rw [if_pos c8] at H
       have c8b0 : decide (((aW l0 bG).f0) < (-1048576)) = true := ahG c8
       clear c8
       (first | rw [c8b0] | (simp only [bI, bM]; rw [c8b0]) | skip)
       have H' := ah H
       clear H
       have rJ := au aJ.out
       have rM := aC aJ.out
       go_wp2
       go_meet
       case rel => exact ⟨_, (true), (by first | rfl | (simp; done) | (simp [*]; done)), H', ⟨by have := jy.out; first | omega | exact Nat.le_refl _⟩, ⟨by (repeat with_reducible refine bQ ?_); refine bC (cs := #[.int .i64 ((aW l0 bG).f0), .int .i64 0]) ?_ 1 _ rfl; (repeat with_reducible refine bQ ?_); refine bC (cs := #[.int .i64 0, .int .i64 0]) ?_ 0 _ rfl; (repeat with_reducible refine bQ ?_); exact aJ.out⟩, ⟨by repeat (first | (with_reducible first | exact HB.out | apply ak | apply ay | apply aH | refine aA ?_ bU.out) | exact HB.out)⟩⟩
      rw [if_neg c8] at H
      have c8b0 : decide (((aW l0 bG).f0) < (-1048576)) = false := ahH c8
      clear c8
      (first | rw [c8b0] | (simp only [bI, bM]; rw [c8b0]) | skip)
      by_cases c10 : ((aW l0 bG).f0) > 2097152
      ·rw [if_pos c10] at H
       have c10b0 : decide (2097152 < ((aW l0 bG).f0)) = true := ahG c10
       clear c10
       have H' := ah H
       clear H
       have tq := au aJ.out
       have tu := aC aJ.out
       go_wp2
       go_meet
       case rel => exact ⟨_, (true), (by first | rfl | (simp; done) | (simp [*]; done)), H', ⟨by have := jy.out; first | omega | exact Nat.le_refl _⟩, ⟨by (repeat with_reducible refine bQ ?_); refine bC (cs := #[.int .i64 ((aW l0 bG).f0), .int .i64 0]) ?_ 1 _ rfl; (repeat with_reducible refine bQ ?_); refine bC (cs := #[.int .i64 0, .int .i64 0]) ?_ 0 _ rfl; (repeat with_reducible refine bQ ?_); exact aJ.out⟩, ⟨by repeat (first | (with_reducible first | exact HB.out | apply ak | apply ay | apply aH | refine aA ?_ bU.out) | exact HB.out)⟩⟩
      rw [if_neg c10] at H
      have c10b0 : decide (2097152 < ((aW l0 bG).f0)) = false := ahH c10
      clear c10
      by_cases c12 : bG = 0
      ·rw [if_pos c12] at H
       have c12b0 : (bG == 0) = true := beq_iff_eq.mpr c12
       have c12b1 : (bG != 0) = false := bne_eq_false_iff_eq.mpr c12
       clear c12
       by_cases c13 : ((aW l0 bG).f0) > 1048576
       ·rw [if_pos c13] at H
        have c13b0 : decide (1048576 < ((aW l0 bG).f0)) = true := ahG c13
        clear c13
        have H' := ah H
        clear H
        have Ai := au aJ.out
        have Aj := aC aJ.out
        go_wp2
        go_meet
        case rel => exact ⟨_, (true), (by first | rfl | (simp; done) | (simp [*]; done)), H', ⟨by have := jy.out; first | omega | exact Nat.le_refl _⟩, ⟨by (repeat with_reducible refine bQ ?_); refine bC (cs := #[.int .i64 ((aW l0 bG).f0), .int .i64 0]) ?_ 1 _ rfl; (repeat with_reducible refine bQ ?_); refine bC (cs := #[.int .i64 0, .int .i64 0]) ?_ 0 _ rfl; (repeat with_reducible refine bQ ?_); exact aJ.out⟩, ⟨by repeat (first | (with_reducible first | exact HB.out | apply ak | apply ay | apply aH | refine aA ?_ bU.out) | exact HB.out)⟩⟩
       rw [if_neg c13] at H
       have c13b0 : decide (1048576 < ((aW l0 bG).f0)) = false := ahH c13
       clear c13
       by_cases c15 : bG > 0
       ·rw [if_pos c15] at H
        have c15b0 : decide (0 < bG) = true := ahG c15
        clear c15
        by_cases c16 : ((aW l0 bG).f0) < 0
        ·rw [if_pos c16] at H
         have c16b0 : decide (((aW l0 bG).f0) < 0) = true := ahG c16
         clear c16
         have H' := ah H
         clear H
         have IV := au aJ.out
         have IW := aC aJ.out
         go_wp2
         go_meet
         case rel => exact ⟨_, (true), (by first | rfl | (simp; done) | (simp [*]; done)), H', ⟨by have := jy.out; first | omega | exact Nat.le_refl _⟩, ⟨by (repeat with_reducible refine bQ ?_); refine bC (cs := #[.int .i64 ((aW l0 bG).f0), .int .i64 0]) ?_ 1 _ rfl; (repeat with_reducible refine bQ ?_); refine bC (cs := #[.int .i64 0, .int .i64 0]) ?_ 0 _ rfl; (repeat with_reducible refine bQ ?_); exact aJ.out⟩, ⟨by repeat (first | (with_reducible first | exact HB.out | apply ak | apply ay | apply aH | refine aA ?_ bU.out) | exact HB.out)⟩⟩
        rw [if_neg c16] at H
        have c16b0 : decide (((aW l0 bG).f0) < 0) = false := ahH c16
        clear c16
        by_cases c18 : ((aW l0 bG).f1) < 0
        ·rw [if_pos c18] at H
         have c18b0 : decide (((aW l0 bG).f1) < 0) = true := ahG c18
         clear c18
         have H' := ah H
         clear H
         have Af := au aJ.out
         have Ag := aC aJ.out
         go_wp2
         go_meet
         case rel => exact ⟨_, (true), (by first | rfl | (simp; done) | (simp [*]; done)), H', ⟨by have := jy.out; first | omega | exact Nat.le_refl _⟩, ⟨by (repeat with_reducible refine bQ ?_); refine bC (cs := #[.int .i64 ((aW l0 bG).f0), .int .i64 0]) ?_ 1 _ rfl; (repeat with_reducible refine bQ ?_); refine bC (cs := #[.int .i64 0, .int .i64 0]) ?_ 0 _ rfl; (repeat with_reducible refine bQ ?_); exact aJ.out⟩, ⟨by repeat (first | (with_reducible first | exact HB.out | apply ak | apply ay | apply aH | refine aA ?_ bU.out) | exact HB.out)⟩⟩
        rw [if_neg c18] at H
        have c18b0 : decide (((aW l0 bG).f1) < 0) = false := ahH c18
        clear c18
        have H' := ah H
        clear H
        have IX := au aJ.out
        have IY := aC aJ.out
        go_wp2
        go_meet
        case rel => exact ⟨_, (decide (((aW l0 bG).f1) > 4096)), (by first | rfl | (simp; done) | (simp [*]; done)), H', ⟨by have := jy.out; first | omega | exact Nat.le_refl _⟩, ⟨by (repeat with_reducible refine bQ ?_); refine bC (cs := #[.int .i64 ((aW l0 bG).f0), .int .i64 0]) ?_ 1 _ rfl; (repeat with_reducible refine bQ ?_); refine bC (cs := #[.int .i64 0, .int .i64 0]) ?_ 0 _ rfl; (repeat with_reducible refine bQ ?_); exact aJ.out⟩, ⟨by repeat (first | (with_reducible first | exact HB.out | apply ak | apply ay | apply aH | refine aA ?_ bU.out) | exact HB.out)⟩⟩
       rw [if_neg c15] at H
       have c15b0 : decide (0 < bG) = false := ahH c15
       clear c15
       by_cases c21 : ((aW l0 bG).f1) < 0
       ·rw [if_pos c21] at H
        have c21b0 : decide (((aW l0 bG).f1) < 0) = true := ahG c21
        clear c21
        have H' := ah H
        clear H
        have IZ := au aJ.out
        have I4 := aC aJ.out
        go_wp2
        go_meet
        case rel => exact ⟨_, (true), (by first | rfl | (simp; done) | (simp [*]; done)), H', ⟨by have := jy.out; first | omega | exact Nat.le_refl _⟩, ⟨by (repeat with_reducible refine bQ ?_); refine bC (cs := #[.int .i64 ((aW l0 bG).f0), .int .i64 0]) ?_ 1 _ rfl; (repeat with_reducible refine bQ ?_); refine bC (cs := #[.int .i64 0, .int .i64 0]) ?_ 0 _ rfl; (repeat with_reducible refine bQ ?_); exact aJ.out⟩, ⟨by repeat (first | (with_reducible first | exact HB.out | apply ak | apply ay | apply aH | refine aA ?_ bU.out) | exact HB.out)⟩⟩
       rw [if_neg c21] at H
       have c21b0 : decide (((aW l0 bG).f1) < 0) = false := ahH c21
       clear c21
       have H' := ah H
       clear H
       have yK := au aJ.out
       have yL := aC aJ.out
       go_wp2
       go_meet
       case rel => exact ⟨_, (decide (((aW l0 bG).f1) > 4096)), (by first | rfl | (simp; done) | (simp [*]; done)), H', ⟨by have := jy.out; first | omega | exact Nat.le_refl _⟩, ⟨by (repeat with_reducible refine bQ ?_); refine bC (cs := #[.int .i64 ((aW l0 bG).f0), .int .i64 0]) ?_ 1 _ rfl; (repeat with_reducible refine bQ ?_); refine bC (cs := #[.int .i64 0, .int .i64 0]) ?_ 0 _ rfl; (repeat with_reducible refine bQ ?_); exact aJ.out⟩, ⟨by repeat (first | (with_reducible first | exact HB.out | apply ak | apply ay | apply aH | refine aA ?_ bU.out) | exact HB.out)⟩⟩
      rw [if_neg c12] at H
      have c12b0 : (bG == 0) = false := beq_eq_false_iff_ne.mpr c12
      have c12b1 : (bG != 0) = true := bne_iff_ne.mpr c12
      by_cases c24 : bG > 0
      ·rw [if_pos c24] at H
       have c24b0 : decide (0 < bG) = true := ahG c24
       clear c24
       by_cases c25 : ((aW l0 bG).f0) < 0
       ·rw [if_pos c25] at H
        have c25b0 : decide (((aW l0 bG).f0) < 0) = true := ahG c25
        clear c25
        have H' := ah H
        clear H
        have Ak := au aJ.out
        have Am := aC aJ.out
        go_wp2
        go_meet
        case rel => exact ⟨_, (true), (by first | rfl | (simp; done) | (simp [*]; done)), H', ⟨by have := jy.out; first | omega | exact Nat.le_refl _⟩, ⟨by (repeat with_reducible refine bQ ?_); refine bC (cs := #[.int .i64 ((aW l0 bG).f0), .int .i64 0]) ?_ 1 _ rfl; (repeat with_reducible refine bQ ?_); refine bC (cs := #[.int .i64 0, .int .i64 0]) ?_ 0 _ rfl; (repeat with_reducible refine bQ ?_); exact aJ.out⟩, ⟨by repeat (first | (with_reducible first | exact HB.out | apply ak | apply ay | apply aH | refine aA ?_ bU.out) | exact HB.out)⟩⟩
       rw [if_neg c25] at H
       have c25b0 : decide (((aW l0 bG).f0) < 0) = false := ahH c25
       clear c25
       by_cases I5 : ((aW l0 bG).f1) < 0
       ·rw [if_pos I5] at H
        have c27b0 : decide (((aW l0 bG).f1) < 0) = true := ahG I5
        clear I5
        have H' := ah H
        clear H
        have yI := au aJ.out
        have yJ := aC aJ.out
        go_wp2
        go_meet
        case rel => exact ⟨_, (true), (by first | rfl | (simp; done) | (simp [*]; done)), H', ⟨by have := jy.out; first | omega | exact Nat.le_refl _⟩, ⟨by (repeat with_reducible refine bQ ?_); refine bC (cs := #[.int .i64 ((aW l0 bG).f0), .int .i64 0]) ?_ 1 _ rfl; (repeat with_reducible refine bQ ?_); refine bC (cs := #[.int .i64 0, .int .i64 0]) ?_ 0 _ rfl; (repeat with_reducible refine bQ ?_); exact aJ.out⟩, ⟨by repeat (first | (with_reducible first | exact HB.out | apply ak | apply ay | apply aH | refine aA ?_ bU.out) | exact HB.out)⟩⟩
       rw [if_neg I5] at H
       have c27b0 : decide (((aW l0 bG).f1) < 0) = false := ahH I5
       clear I5
       have H' := ah H
       clear H
       have DW := au aJ.out
       have DX := aC aJ.out
       go_wp2
       go_meet
       case rel => exact ⟨_, (decide (((aW l0 bG).f1) > 4096)), (by first | rfl | (simp; done) | (simp [*]; done)), H', ⟨by have := jy.out; first | omega | exact Nat.le_refl _⟩, ⟨by (repeat with_reducible refine bQ ?_); refine bC (cs := #[.int .i64 ((aW l0 bG).f0), .int .i64 0]) ?_ 1 _ rfl; (repeat with_reducible refine bQ ?_); refine bC (cs := #[.int .i64 0, .int .i64 0]) ?_ 0 _ rfl; (repeat with_reducible refine bQ ?_); exact aJ.out⟩, ⟨by repeat (first | (with_reducible first | exact HB.out | apply ak | apply ay | apply aH | refine aA ?_ bU.out) | exact HB.out)⟩⟩
      rw [if_neg c24] at H
      have c24b0 : decide (0 < bG) = false := ahH c24
      clear c24
      by_cases TN : ((aW l0 bG).f1) < 0
      ·rw [if_pos TN] at H
       have c30b0 : decide (((aW l0 bG).f1) < 0) = true := ahG TN
       clear TN
       have H' := ah H
       clear H
       have Ap := au aJ.out
       have Aq := aC aJ.out
       go_wp2
       go_meet
       case rel => exact ⟨_, (true), (by first | rfl | (simp; done) | (simp [*]; done)), H', ⟨by have := jy.out; first | omega | exact Nat.le_refl _⟩, ⟨by (repeat with_reducible refine bQ ?_); refine bC (cs := #[.int .i64 ((aW l0 bG).f0), .int .i64 0]) ?_ 1 _ rfl; (repeat with_reducible refine bQ ?_); refine bC (cs := #[.int .i64 0, .int .i64 0]) ?_ 0 _ rfl; (repeat with_reducible refine bQ ?_); exact aJ.out⟩, ⟨by repeat (first | (with_reducible first | exact HB.out | apply ak | apply ay | apply aH | refine aA ?_ bU.out) | exact HB.out)⟩⟩
      rw [if_neg TN] at H
      have c30b0 : decide (((aW l0 bG).f1) < 0) = false := ahH TN
      clear TN
      have H' := ah H
      clear H
      have I7 := au aJ.out
      have I8 := aC aJ.out
      go_wp2
      go_meet
      case rel => exact ⟨_, (decide (((aW l0 bG).f1) > 4096)), (by first | rfl | (simp; done) | (simp [*]; done)), H', ⟨by have := jy.out; first | omega | exact Nat.le_refl _⟩, ⟨by (repeat with_reducible refine bQ ?_); refine bC (cs := #[.int .i64 ((aW l0 bG).f0), .int .i64 0]) ?_ 1 _ rfl; (repeat with_reducible refine bQ ?_); refine bC (cs := #[.int .i64 0, .int .i64 0]) ?_ 0 _ rfl; (repeat with_reducible refine bQ ?_); exact aJ.out⟩, ⟨by repeat (first | (with_reducible first | exact HB.out | apply ak | apply ay | apply aH | refine aA ?_ bU.out) | exact HB.out)⟩⟩
     case rest =>
      clear MW
      try clear c1
      try clear p1
      try clear q1
      try clear hx1
      try clear c2
      try clear c2b0
      try clear c2b1
      try clear p2
      try clear c3
      try clear c3b0
      try clear c4
      try clear c4b0
      try clear c8
      try clear c8b0
      try clear c10
      try clear c10b0
      try clear p10
      try clear q10
      try clear QK
      try clear c12
      try clear c12b0
      try clear c12b1
      try clear c13
      try clear c13b0
      try clear c14
      try clear c15
      try clear c15b0
      try clear c16
      try clear c16b0
      try clear c18
      try clear c18b0
      try clear c21
      try clear c21b0
      try clear c24
      try clear c24b0
      try clear c25
      try clear c25b0
      try clear I5
      try clear c27b0
      try clear TN
      try clear c30b0
      try clear tq
      try clear Ai
      try clear IV
      try clear Af
      try clear IX
      try clear IZ
      try clear yK
      try clear Ak
      try clear yI
      try clear DW
      try clear Ap
      try clear I7
      try clear xC
      try clear rJ
      try clear tu
      try clear Aj
      try clear IW
      try clear Ag
      try clear IY
      try clear I4
      try clear yL
      try clear Am
      try clear yJ
      try clear DX
      try clear Aq
      try clear I8
      try clear xE
      try clear rM
      try clear bW
      try clear dS
      try clear fC
      try clear p2
      try clear fD
      obtain ⟨kq, Ov, rfl, HA, IL, aJ, HB⟩ := hcut
      cases kq with
      | zero => exact absurd HA.out (by simp [tidepoleref06_Check.j1])
      | succ mZ =>
       have H := HA.out
       clear HA
       simp only [tidepoleref06_Check.j1] at H
       by_cases Yv : Ov = true
       ·subst Yv
        have H1 : (some 20) = some r := by rw [if_pos rfl] at H; exact H
        clear H
        have H := H1
        clear H1
        obtain rfl := Option.some.inj H
        go_wp2
        go_ret
        exact ⟨by first | rfl | (simp [aU, aV] <;> rfl) | (simp [*, aU, aV] <;> rfl), by repeat (first | (with_reducible first | exact HB.out | apply ak | apply ay | apply aH | refine aA ?_ bU.out) | exact HB.out)⟩
       replace Yv := Bool.eq_false_iff.mpr Yv
       subst Yv
       have H1 : (if (wrap64 (fG + ((aW l0 bG).f0))) < (-1048576) then (tidepoleref06_Check.j2 mZ l0 (wrap64 (fG + ((aW l0 bG).f0))) dU bG true ((aW l0 bG).f0) ((aW l0 bG).f1)) else (tidepoleref06_Check.j2 mZ l0 (wrap64 (fG + ((aW l0 bG).f0))) dU bG (decide ((wrap64 (fG + ((aW l0 bG).f0))) > 1048576)) ((aW l0 bG).f0) ((aW l0 bG).f1))) = some r := by rw [if_neg (show ¬ (false = true) by decide)] at H; exact H
       clear H
       have H := H1
       clear H1
       have WS := ah H
       clear H
       have Ox := au aJ.out
       have Oy := aC aJ.out
       go_upto_region 11 with (fail)
       go_cut [66] (fun v66 wc => ∃ (kq : Nat) (I9 : Bool), v66 = .bool I9 ∧ aj (tidepoleref06_Check.j2 kq l0 (wrap64 (fG + ((aW l0 bG).f0))) dU bG I9 ((aW l0 bG).f0) ((aW l0 bG).f1) = some r) ∧ aj (kq ≤ mZ) ∧ aj (wc.heap[aI]? = some (.cells #[.int .i64 ((aW l0 bG).f0), .int .i64 ((aW l0 bG).f1)] 127 (0, 0))) ∧ aj (Below w.heap.size w wc))
       case first =>
        have H := WS.out
        clear WS
        by_cases VE : (wrap64 (fG + ((aW l0 bG).f0))) < (-1048576)
        ·rw [if_pos VE] at H
         have c36b0 : decide ((wrap64 (fG + ((aW l0 bG).f0))) < (-1048576)) = true := ahG VE
         clear VE
         (first | rw [c36b0] | (simp only [bI, bM]; rw [c36b0]) | skip)
         have H' := ah H
         clear H
         go_wp2
         go_meet
         case rel => exact ⟨_, (true), (by first | rfl | (simp; done) | (simp [*]; done)), H', ⟨by have := jy.out; have := IL.out; first | omega | exact Nat.le_refl _⟩, ⟨by (repeat with_reducible refine bQ ?_); exact aJ.out⟩, ⟨by repeat (first | (with_reducible first | exact HB.out | apply ak | apply ay | apply aH | refine aA ?_ bU.out) | exact HB.out)⟩⟩
        rw [if_neg VE] at H
        have c36b0 : decide ((wrap64 (fG + ((aW l0 bG).f0))) < (-1048576)) = false := ahH VE
        clear VE
        (first | rw [c36b0] | (simp only [bI, bM]; rw [c36b0]) | skip)
        have H' := ah H
        clear H
        go_wp2
        go_meet
        case rel => exact ⟨_, (decide ((wrap64 (fG + ((aW l0 bG).f0))) > 1048576)), (by first | rfl | (simp; done) | (simp [*]; done)), H', ⟨by have := jy.out; have := IL.out; first | omega | exact Nat.le_refl _⟩, ⟨by (repeat with_reducible refine bQ ?_); exact aJ.out⟩, ⟨by repeat (first | (with_reducible first | exact HB.out | apply ak | apply ay | apply aH | refine aA ?_ bU.out) | exact HB.out)⟩⟩
       case rest =>
        clear WS
        try clear c1
        try clear p1
        try clear q1
        try clear hx1
        try clear c2
        try clear c2b0
        try clear c2b1
        try clear p2
        try clear c3
        try clear c3b0
        try clear c4
        try clear c4b0
        try clear p6
        try clear c8
        try clear c8b0
        try clear c10
        try clear c10b0
        try clear p10
        try clear q10
        try clear QK
        try clear c12
        try clear c12b0
        try clear c12b1
        try clear c13
        try clear c13b0
        try clear c14
        try clear c15
        try clear c15b0
        try clear c16
        try clear c16b0
        try clear c18
        try clear c18b0
        try clear c21
        try clear c21b0
        try clear c24
        try clear c24b0
        try clear c25
        try clear c25b0
        try clear I5
        try clear c27b0
        try clear TN
        try clear c30b0
        try clear Yv
        try clear VE
        try clear c36b0
        try clear tq
        try clear Ai
        try clear IV
        try clear Af
        try clear IX
        try clear IZ
        try clear yK
        try clear Ak
        try clear yI
        try clear DW
        try clear Ap
        try clear I7
        try clear Ox
        try clear xC
        try clear rJ
        try clear tu
        try clear Aj
        try clear IW
        try clear Ag
        try clear IY
        try clear I4
        try clear yL
        try clear Am
        try clear yJ
        try clear DX
        try clear Aq
        try clear I8
        try clear Oy
        try clear xE
        try clear rM
        try clear bW
        try clear dS
        try clear p1
        try clear p10
        try clear fC
        try clear p2
        try clear q1
        try clear q10
        try clear fD
        obtain ⟨kq, I9, rfl, HA, Uz, aJ, HB⟩ := hcut
        cases kq with
        | zero => exact absurd HA.out (by simp [tidepoleref06_Check.j2])
        | succ WT =>
         have H := HA.out
         clear HA
         simp only [tidepoleref06_Check.j2] at H
         by_cases c37 : I9 = true
         ·subst c37
          have H1 : (some 20) = some r := by rw [if_pos rfl] at H; exact H
          clear H
          have H := H1
          clear H1
          obtain rfl := Option.some.inj H
          go_wp2
          go_ret
          exact ⟨by first | rfl | (simp [aU, aV] <;> rfl) | (simp [*, aU, aV] <;> rfl), by repeat (first | (with_reducible first | exact HB.out | apply ak | apply ay | apply aH | refine aA ?_ bU.out) | exact HB.out)⟩
         replace c37 := Bool.eq_false_iff.mpr c37
         subst c37
         have H1 : (tidepoleref06_Check.l1 WT l0 (wrap64 (fG + ((aW l0 bG).f0))) dU bG 0 ((aW l0 bG).f0) ((aW l0 bG).f1)) = some r := by rw [if_neg (show ¬ (false = true) by decide)] at H; exact H
         clear H
         have H := H1
         clear H1
         have H' := ah H
         clear H
         go_wp2
         go_loopg [3, 4, 7] WT (fun kq v3 v4 v7 w' => ∃ (J5 : Int) (J6 : Int) (Nc : Int), v3 = .int .i64 J5 ∧ v4 = .int .i64 J6 ∧ v7 = .int .i64 Nc ∧ aj (tidepoleref06_Check.l1 kq l0 J5 J6 bG Nc ((aW l0 bG).f0) ((aW l0 bG).f1) = some r) ∧ aj (kq ≤ WT) ∧ aj (w'.heap[aI]? = some (.cells #[.int .i64 ((aW l0 bG).f0), .int .i64 ((aW l0 bG).f1)] 127 (0, 0))) ∧ aj (Below w.heap.size w w'))
         case atStart => exact ⟨((wrap64 (fG + ((aW l0 bG).f0)))), (dU), (0), (by first | rfl | (simp; done) | (simp [*]; done)), (by first | rfl | (simp; done) | (simp [*]; done)), (by first | rfl | (simp; done) | (simp [*]; done)), H', ⟨Nat.le_refl _⟩, ⟨by (repeat with_reducible refine bQ ?_); exact aJ.out⟩, ⟨by repeat (first | (with_reducible first | exact HB.out | apply ak | apply ay | apply aH | refine aA ?_ bU.out) | exact HB.out)⟩⟩
         case round =>
          clear H'
          try clear c1
          try clear p1
          try clear q1
          try clear hx1
          try clear c2
          try clear c2b0
          try clear c2b1
          try clear p2
          try clear c3
          try clear c3b0
          try clear c4
          try clear c4b0
          try clear p6
          try clear c8
          try clear c8b0
          try clear c10
          try clear c10b0
          try clear p10
          try clear q10
          try clear QK
          try clear c12
          try clear c12b0
          try clear c12b1
          try clear c13
          try clear c13b0
          try clear c14
          try clear c15
          try clear c15b0
          try clear c16
          try clear c16b0
          try clear c18
          try clear c18b0
          try clear c21
          try clear c21b0
          try clear c24
          try clear c24b0
          try clear c25
          try clear c25b0
          try clear I5
          try clear c27b0
          try clear TN
          try clear c30b0
          try clear Yv
          try clear VE
          try clear c36b0
          try clear c37
          try clear tq
          try clear Ai
          try clear IV
          try clear Af
          try clear IX
          try clear IZ
          try clear yK
          try clear Ak
          try clear yI
          try clear DW
          try clear Ap
          try clear I7
          try clear Ox
          try clear xC
          try clear rJ
          try clear tu
          try clear Aj
          try clear IW
          try clear Ag
          try clear IY
          try clear I4
          try clear yL
          try clear Am
          try clear yJ
          try clear DX
          try clear Aq
          try clear I8
          try clear Oy
          try clear xE
          try clear rM
          try clear bW
          try clear dS
          try clear p1
          try clear p10
          try clear fC
          try clear p2
          try clear p6
          try clear q1
          try clear q10
          try clear fD
          obtain ⟨J5, J6, Nc, rfl, rfl, rfl, HA, HK4, aJ, HB⟩ := hrel
          cases gk with
          | zero => exact absurd HA.out (by simp [tidepoleref06_Check.l1])
          | succ k4 =>
           have H := HA.out
           clear HA
           simp only [tidepoleref06_Check.l1] at H
           by_cases Px : Nc < ((aW l0 bG).f1)
           ·rw [if_pos Px] at H
            have c38b0 : decide (Nc < ((aW l0 bG).f1)) = true := ahG Px
            clear Px
            by_cases Yw : J5 > 1048576
            ·rw [if_pos Yw] at H
             have c39b0 : decide (1048576 < J5) = true := ahG Yw
             clear Yw
             obtain rfl := Option.some.inj H
             have aaK := au aJ.out
             have aaL := aC aJ.out
             go_wp2
             go_ret
             exact ⟨by first | rfl | (simp [aU, aV] <;> rfl) | (simp [*, aU, aV] <;> rfl), by repeat (first | (with_reducible first | exact HB.out | apply ak | apply ay | apply aH | refine aA ?_ bU.out) | exact HB.out)⟩
            rw [if_neg Yw] at H
            have c39b0 : decide (1048576 < J5) = false := ahH Yw
            clear Yw
            have H' := ah H
            clear H
            have aaM := au aJ.out
            have aaN := aC aJ.out
            go_wp2
            go_roundg k4
            case measure => have := jy.out; have := IL.out; have := Uz.out; have := HK4.out; omega
            case rel => exact ⟨(wrap64 (J5 + 1)), (wrap64 (J6 + 1)), (wrap64 (Nc + 1)), (by first | rfl | (simp; done) | (simp [*]; done)), (by first | rfl | (simp; done) | (simp [*]; done)), (by first | rfl | (simp; done) | (simp [*]; done)), H', ⟨by have := jy.out; have := IL.out; have := Uz.out; have := HK4.out; omega⟩, ⟨by (repeat with_reducible refine bQ ?_); exact aJ.out⟩, ⟨by repeat (first | (with_reducible first | exact HB.out | apply ak | apply ay | apply aH | refine aA ?_ bU.out) | exact HB.out)⟩⟩
           rw [if_neg Px] at H
           have c38b0 : decide (Nc < ((aW l0 bG).f1)) = false := ahH Px
           clear Px
           by_cases Oz : J6 > 4096
           ·rw [if_pos Oz] at H
            have c42b0 : decide (4096 < J6) = true := ahG Oz
            clear Oz
            obtain rfl := Option.some.inj H
            have aaO := au aJ.out
            have aaP := aC aJ.out
            go_wp2
            go_ret
            exact ⟨by first | rfl | (simp [aU, aV] <;> rfl) | (simp [*, aU, aV] <;> rfl), by repeat (first | (with_reducible first | exact HB.out | apply ak | apply ay | apply aH | refine aA ?_ bU.out) | exact HB.out)⟩
           rw [if_neg Oz] at H
           have c42b0 : decide (4096 < J6) = false := ahH Oz
           clear Oz
           have H' := ah H
           clear H
           have aaQ := au aJ.out
           have aaR := aC aJ.out
           go_wp2
           go_roundg k4
           case measure => have := jy.out; have := IL.out; have := Uz.out; have := HK4.out; omega
           case rel => exact ⟨(J5), (J6), (wrap64 (bG + 1)), (by first | rfl | (simp; done) | (simp [*]; done)), (by first | rfl | (simp; done) | (simp [*]; done)), (by first | rfl | (simp; done) | (simp [*]; done)), H', ⟨by have := jy.out; have := IL.out; have := Uz.out; have := HK4.out; omega⟩, ⟨by repeat (first | (with_reducible first | exact HB.out | apply ak | apply ay | apply aH | refine aA ?_ bU.out) | exact HB.out)⟩⟩
    rw [if_neg c4] at H
    exact absurd H (by simp)
   rw [if_neg c3] at H
   have c3b0 : decide (bG < (l0.length : Int)) = false := ahH c3
   clear c3
   obtain rfl := Option.some.inj H
   go_wp2
   go_ret
   exact ⟨by first | rfl | (simp [aU, aV] <;> rfl) | (simp [*, aU, aV] <;> rfl), by repeat (first | (with_reducible first | exact HB.out | apply ak | apply ay | apply aH) | exact HB.out)⟩
def tidepoleref06_Runs.l0 : Nat → List Int → Int → Int → Option (Int)
 | 0, _, _, _ => none
 | k + 1, x0, x3, x4 => if x4 < (x0.length : Int) then (if x4 = 0 then (tidepoleref06_Runs.l0 k x0 (wrap64 (x3 + 1)) (wrap64 (x4 + 1))) else (if 0 ≤ x4 then (if 0 ≤ (wrap64 (x4 - 1)) then (if (wrap64 (x4 - 1)) < (x0.length : Int) then (if (rd x0 x4) = (wrap64 ((rd x0 (wrap64 (x4 - 1))) + 1)) then (tidepoleref06_Runs.l0 k x0 x3 (wrap64 (x4 + 1))) else (tidepoleref06_Runs.l0 k x0 (wrap64 (x3 + 1)) (wrap64 (x4 + 1)))) else (none)) else (none)) else (none))) else (some x3)
def tidepoleref06_Runs.f (k : Nat) (l0 : List Int) : Option (Int) := tidepoleref06_Runs.l0 k l0 0 0
set_option maxHeartbeats 8000000 in
set_option maxRecDepth 100000 in
theorem tidepoleref06_Runs.calls (k : Nat) (A0 : Option Addr) (c0 : Nat) (l0 : List Int) (r : Int) (w : World) (hr0 : Kd.C (Kd.int .i64) w A0 l0.length l0) (hc0 : l0.length ≤ c0) (h : tidepoleref06_Runs.f k l0 = some r) :
  Calls Try.prog 84 #[.slice A0 l0.length c0] w fun e w' => e = .returned (.int .i64 r) ∧ cZ w w' := by
 have HR0 := ah hr0
 have uH := ah hc0
 clear hr0 hc0
 have H : (tidepoleref06_Runs.l0 k l0 0 0) = some r := h
 clear h
 have H' := ah H
 clear H
 go_enter Try.func84, Try.ntmps84
 go_wp2
 repeat (go_quiet (fail); try go_wp2)
 go_loopg [3, 4] k (fun kq v3 v4 w' => ∃ (fG : Int) (dU : Int), v3 = .int .i64 fG ∧ v4 = .int .i64 dU ∧ aj (tidepoleref06_Runs.l0 kq l0 fG dU = some r) ∧ aj (kq ≤ k) ∧ cZ w w')
 case atStart => exact ⟨(0), (0), (by first | rfl | (simp; done) | (simp [*]; done)), (by first | rfl | (simp; done) | (simp [*]; done)), H', ⟨Nat.le_refl _⟩, by repeat (first | exact cZ.refl _ | apply cZ.step)⟩
 case round =>
  clear H'
  obtain ⟨fG, dU, rfl, rfl, HA, jy, ⟨m1, rfl⟩⟩ := hrel
  cases gk with
  | zero => exact absurd HA.out (by simp [tidepoleref06_Runs.l0])
  | succ k1 =>
   have H := HA.out
   clear HA
   simp only [tidepoleref06_Runs.l0] at H
   by_cases c2 : dU < (l0.length : Int)
   ·rw [if_pos c2] at H
    have c2b0 : decide (dU < (l0.length : Int)) = true := ahG c2
    clear c2
    by_cases c3 : dU = 0
    ·rw [if_pos c3] at H
     have c3b0 : (dU == 0) = true := beq_iff_eq.mpr c3
     have c3b1 : (dU != 0) = false := bne_eq_false_iff_eq.mpr c3
     clear c3
     have H' := ah H
     clear H
     go_wp2
     repeat (go_quiet (fail); try go_wp2)
     go_roundg k1
     case measure => have := jy.out; omega
     case rel => exact ⟨(wrap64 (fG + 1)), (wrap64 (dU + 1)), (by first | rfl | (simp; done) | (simp [*]; done)), (by first | rfl | (simp; done) | (simp [*]; done)), H', ⟨by have := jy.out; omega⟩, by repeat (first | exact cZ.refl _ | apply cZ.step)⟩
    rw [if_neg c3] at H
    have c3b0 : (dU == 0) = false := beq_eq_false_iff_ne.mpr c3
    have c3b1 : (dU != 0) = true := bne_iff_ne.mpr c3
    by_cases c4 : 0 ≤ dU
    ·rw [if_pos c4] at H
     have c4b0 : decide (0 ≤ dU) = true := ahG c4
     clear c4
     obtain ⟨Ja, WU⟩ : ∃ j_ : Int, (wrap64 (dU - 1)) = j_ := ⟨_, rfl⟩
     replace H : (if 0 ≤ (Ja) then (if (Ja) < (l0.length : Int) then (if (rd l0 dU) = (wrap64 ((rd l0 (Ja)) + 1)) then (tidepoleref06_Runs.l0 k1 l0 fG (wrap64 (dU + 1))) else (tidepoleref06_Runs.l0 k1 l0 (wrap64 (fG + 1)) (wrap64 (dU + 1)))) else (none)) else (none)) = some r := by first | (rw [WU] at H; exact H) | (simp only [WU] at H ⊢; exact H)
     have hji5w : (IntKind.i64.wrap (dU - 1)) = Ja := (bI _).trans WU
     by_cases c6 : 0 ≤ (Ja)
     ·rw [if_pos c6] at H
      have c6b0 : decide (0 ≤ (Ja)) = true := ahG c6
      clear c6
      by_cases c7 : (Ja) < (l0.length : Int)
      ·rw [if_pos c7] at H
       have c7b0 : decide ((Ja) < (l0.length : Int)) = true := ahG c7
       clear c7
       by_cases c8 : (rd l0 dU) = (wrap64 ((rd l0 (Ja)) + 1))
       ·rw [if_pos c8] at H
        have c8b0 : ((rd l0 dU) == (wrap64 ((rd l0 (Ja)) + 1))) = true := beq_iff_eq.mpr c8
        have c8b1 : ((rd l0 dU) != (wrap64 ((rd l0 (Ja)) + 1))) = false := bne_eq_false_iff_eq.mpr c8
        clear c8
        have H' := ah H
        clear H
        have fC : 0 ≤ (dU : Int) := ahF (by assumption)
        have fD : dU < (l0.length : Int) := ahF (by assumption)
        obtain ⟨kE, jM, bW⟩ := Kd.gB HR0.out dU fC fD
        cases jM
        replace fC := eq_true fC
        replace fD := eq_true fD
        have nG : 0 ≤ ((Ja) : Int) := ahF (by assumption)
        have nH : (Ja) < (l0.length : Int) := ahF (by assumption)
        obtain ⟨wY, xG, lD⟩ := Kd.gB HR0.out (Ja) nG nH
        obtain rfl : kE = wY := (by injection xG)
        replace nG := eq_true nG
        replace nH := eq_true nH
        go_wp2
        repeat (go_quiet (fail); try go_wp2)
        go_roundg k1
        case measure => have := jy.out; omega
        case rel => exact ⟨(fG), (wrap64 (dU + 1)), (by first | rfl | (simp; done) | (simp [*]; done)), (by first | rfl | (simp; done) | (simp [*]; done)), H', ⟨by have := jy.out; omega⟩, by repeat (first | exact cZ.refl _ | apply cZ.step)⟩
       rw [if_neg c8] at H
       have c8b0 : ((rd l0 dU) == (wrap64 ((rd l0 (Ja)) + 1))) = false := beq_eq_false_iff_ne.mpr c8
       have c8b1 : ((rd l0 dU) != (wrap64 ((rd l0 (Ja)) + 1))) = true := bne_iff_ne.mpr c8
       have H' := ah H
       clear H
       have fC : 0 ≤ (dU : Int) := ahF (by assumption)
       have fD : dU < (l0.length : Int) := ahF (by assumption)
       obtain ⟨kE, jM, bW⟩ := Kd.gB HR0.out dU fC fD
       cases jM
       replace fC := eq_true fC
       replace fD := eq_true fD
       have nG : 0 ≤ ((Ja) : Int) := ahF (by assumption)
       have nH : (Ja) < (l0.length : Int) := ahF (by assumption)
       obtain ⟨wY, xG, lD⟩ := Kd.gB HR0.out (Ja) nG nH
       obtain rfl : kE = wY := (by injection xG)
       replace nG := eq_true nG
       replace nH := eq_true nH
       go_wp2
       repeat (go_quiet (fail); try go_wp2)
       go_roundg k1
       case measure => have := jy.out; omega
       case rel => exact ⟨(wrap64 (fG + 1)), (wrap64 (dU + 1)), (by first | rfl | (simp; done) | (simp [*]; done)), (by first | rfl | (simp; done) | (simp [*]; done)), H', ⟨by have := jy.out; omega⟩, by repeat (first | exact cZ.refl _ | apply cZ.step)⟩
      rw [if_neg c7] at H
      exact absurd H (by simp)
     rw [if_neg c6] at H
     exact absurd H (by simp)
    rw [if_neg c4] at H
    exact absurd H (by simp)
   rw [if_neg c2] at H
   have c2b0 : decide (dU < (l0.length : Int)) = false := ahH c2
   clear c2
   obtain rfl := Option.some.inj H
   go_wp2
   repeat (go_quiet (fail); try go_wp2)
   go_ret
   exact ⟨by first | rfl | (simp; done) | (simp [*]; done), by repeat (first | exact cZ.refl _ | apply cZ.step)⟩
end Go.Proofs.Ytooiccpmngmapaa.P
namespace Go.Proofs.Ytooiccpmngmapaa.P
open Go.RowKit Go.Proofs.YtooiccpmngmapaaW.PrintWords Go.Proofs.YtooiccpmngmapaaW.PrintLast Go.Proofs.YtooiccpmngmapaaW.PrintMore
abbrev Sp := dQ
abbrev Rsp := eP
def Zi (s : Sp) : Prop := i64 s.f0 ∧ i64 s.f1
def kU (l : List Sp) : Prop := ∀ s ∈ l, Zi s
theorem J7 {l : List Sp} (h : ∀ s ∈ l, Oq s) : kU l := fun s hs => ⟨IK (h s hs).1, IK (h s hs).2⟩
theorem Ar {l : List Sp} {i : Nat} (h : i < l.length) : aY l (i : Int) = l[i] := by unfold aY; simp [List.getD, h]
theorem J8 {l : List Rsp} {i : Nat} (h : i < l.length) : aW l (i : Int) = l[i] := by unfold aW; simp [List.getD, h]
def toR (s : Sp) : Rsp := ⟨s.f0, s.f1⟩
theorem OA (p : Int) : span_in.f p = some (decide (-1048576 ≤ p ∧ p ≤ 1048576)) := by
 unfold span_in.f
 by_cases h : p ≥ -1048576
 ·rw [if_pos h]; congr 1; rw [decide_eq_decide]; omega
 ·rw [if_neg h, ahH (by omega)]
def sO (first : Bool) (a n : Int) (s : Sp) : Prop :=
 0 ≤ s.f1 ∧ s.f1 ≤ 4096 ∧ s.f0 ≤ 2097152 ∧ (if first = true then -1048576 ≤ s.f0 else 0 ≤ s.f0) ∧ -1048576 ≤ a + s.f0 ∧ a + s.f0 ≤ 1048576 ∧ a + s.f0 + max (s.f1 - 1) 0 ≤ 1048576 ∧ n + s.f1 ≤ 4096
instance (f : Bool) (a n : Int) (s : Sp) : Decidable (sO f a n s) := by unfold sO; exact inferInstance
def iT : Bool → Int → Int → List Sp → Bool
 | _, _, _, [] => true
 | f, a, n, s :: r => decide (sO f a n s) && iT false (a + s.f0 + s.f1) (n + s.f1) r
theorem WV (a b : Int) : mx a b = max a b := by unfold mx; omega
theorem Rl (k : Nat) (a n x0 x1 : Int) (l : List Sp) (L i : Int) (ha : -1048576 ≤ a ∧ a ≤ 1048577) (hn : 0 ≤ n ∧ n ≤ 4096) (h0 : -1048576 ≤ x0 ∧ x0 ≤ 2097152) (h1 : 0 ≤ x1 ∧ x1 ≤ 4096) :
  span_right.j1 (k + 1) a n l L i false x0 x1 = if -1048576 ≤ a + x0 ∧ a + x0 ≤ 1048576 ∧ a + x0 + max (x1 - 1) 0 ≤ 1048576 ∧ n + x1 ≤ 4096 then span_right.l0 k (a + x0 + x1) (n + x1) l L (wrap64 (i + 1)) else some false := by
 simp only [span_right.j1]
 rw [if_neg (by decide), eX (x := a + x0) (by omega) (by omega), OA]
 simp only [Option.bind_some]
 by_cases c1 : -1048576 ≤ a + x0 ∧ a + x0 ≤ 1048576
 ·rw [if_pos (by simpa using c1), eX (x := x1 - 1) (by omega) (by omega), WV, eX (x := a + x0 + max (x1 - 1) 0) (by omega) (by omega), OA]
  simp only [Option.bind_some]
  by_cases c2 : a + x0 + max (x1 - 1) 0 ≤ 1048576
  ·rw [if_pos (by simp; omega), eX (x := n + x1) (by omega) (by omega)]
   by_cases c3 : n + x1 ≤ 4096
   ·rw [if_neg (by omega), if_pos ⟨c1.1, c1.2, c2, c3⟩, eX (x := a + x0 + x1) (by omega) (by omega)]
   ·rw [if_pos (by omega), if_neg (by omega)]
  ·rw [if_neg (by simp; omega), if_neg (by omega)]
 ·rw [if_neg (by simpa using c1), if_neg (by omega)]
theorem Nh (l : List Sp) (hw : kU l) (hm : l.length ≤ 4611686018427387904) : ∀ (d k i : Nat) (a n : Int), l.length - i = d → 2 * d < k → i ≤ l.length → -1048576 ≤ a ∧ a ≤ 1048577 → 0 ≤ n ∧ n ≤ 4096 →
    span_right.l0 k a n l (l.length : Int) (i : Int) = some (iT (decide (i = 0)) a n (l.drop i)) := by
  intro d
  induction d with
  | zero =>
    intro k i a n hd hk hi ha hn
    obtain ⟨k, rfl⟩ : ∃ m, k = m + 1 := ⟨k - 1, by omega⟩
    simp only [span_right.l0]
    rw [if_neg (by omega), drop_end (by omega)]; rfl
  | succ d ih =>
    intro k i a n hd hk hi ha hn
    obtain ⟨k, rfl⟩ : ∃ m, k = m + 2 := ⟨k - 2, by omega⟩
    have hlt : i < l.length := by omega
    have hs := hw _ (List.getElem_mem hlt)
    simp only [span_right.l0]
    rw [if_pos (by omega), if_pos (by omega), if_pos (by omega), Ar hlt, drop_at hlt]
    generalize l[i] = s at hs
    have hbad : ¬ sO (decide (i = 0)) a n s → some false = some (iT (decide (i = 0)) a n (s :: l.drop (i + 1))) := fun h => by simp only [iT, ahH h, Bool.false_and]
    have hf : ∀ L' : Int, span_right.j1 (k + 1) a n l (l.length : Int) (i : Int) true s.f0 s.f1 = some false := fun _ => by simp only [span_right.j1]; simp
    have hf := hf 0
    have hgo : (-1048576 ≤ s.f0 ∧ s.f0 ≤ 2097152) → (0 ≤ s.f1 ∧ s.f1 ≤ 4096) → (if decide (i = 0) = true then -1048576 ≤ s.f0 else 0 ≤ s.f0) → span_right.j1 (k + 1) a n l (l.length : Int) (i : Int) false s.f0 s.f1 = some (iT (decide (i = 0)) a n (s :: l.drop (i + 1))) := by
      intro h0 h1 h2
      rw [Rl k a n s.f0 s.f1 l _ _ ha hn h0 h1]
      by_cases c : -1048576 ≤ a + s.f0 ∧ a + s.f0 ≤ 1048576 ∧ a + s.f0 + max (s.f1 - 1) 0 ≤ 1048576 ∧ n + s.f1 ≤ 4096
      · rw [if_pos c, wrap_succ (by omega), ih k (i + 1) _ _ (by omega) (by omega) (by omega) (by omega) (by omega)]
        have : sO (decide (i = 0)) a n s := ⟨h1.1, h1.2, h0.2, h2, c.1, c.2.1, c.2.2.1, c.2.2.2⟩
        simp only [iT, ahG this, Bool.true_and]
        rfl
      · rw [if_neg c]; exact hbad (fun h => c ⟨h.2.2.2.2.1, h.2.2.2.2.2.1, h.2.2.2.2.2.2.1, h.2.2.2.2.2.2.2⟩)
    by_cases c1 : s.f0 > 2097152
    · rw [if_pos c1, hf]; exact hbad (fun h => by have := h.2.2.1; omega)
    rw [if_neg c1]
    by_cases c2 : s.f1 < 0
    · rw [if_pos c2, hf]; exact hbad (fun h => by have := h.1; omega)
    rw [if_neg c2]
    by_cases c3 : s.f1 > 4096
    · rw [if_pos c3, hf]; exact hbad (fun h => by have := h.2.1; omega)
    rw [if_neg c3]
    by_cases c4 : s.f0 < 0
    · rw [if_pos c4]
      by_cases c5 : i = 0
      · subst c5
        rw [if_neg (by omega), OA]
        simp only [Option.bind_some]
        by_cases c6 : -1048576 ≤ s.f0 ∧ s.f0 ≤ 1048576
        · rw [ahG c6, Bool.not_true]; exact hgo (by omega) (by omega) (by simp; exact c6.1)
        · rw [ahH c6, Bool.not_false, hf]; exact hbad (fun h => by have h4 := h.2.2.2.1; rw [if_pos (by simp)] at h4; omega)
      · rw [if_pos (by omega), hf]; exact hbad (fun h => by have h4 := h.2.2.2.1; rw [if_neg (by simp [c5])] at h4; omega)
    · rw [if_neg c4]; exact hgo (by omega) (by omega) (by split <;> omega)
theorem right_eq (l : List Sp) (hw : kU l) (hm : l.length ≤ 4611686018427387904) (k : Nat) (hk : 2 * l.length < k) : span_right.f k l = some (iT true 0 0 l) := by
 unfold span_right.f
 have := Nh l hw hm l.length k 0 0 0 (by omega) hk (by omega) (by omega) (by omega)
 simpa using this
def fU (l : List Sp) : Int := if l.length > 1024 then 12 else if iT true 0 0 l = true then 0 else 20
theorem Au (l : List Sp) (hw : kU l) (k : Nat) (hk : 2048 < k) : span_Check.f k l = some (fU l) := by
 unfold span_Check.f fU
 by_cases h : l.length > 1024
 ·rw [if_pos (by omega), if_pos h]
 ·rw [if_neg (by omega), if_neg h, right_eq l hw (by omega) k (by omega)]
  simp only [Option.bind_some]
  split <;> rfl
def run : Int → Nat → List Int
 | _, 0 => []
 | a, n + 1 => a :: run (a + 1) n
theorem zB : ∀ (n : Nat) (a : Int), (run a n).length = n
 | 0, _ => rfl
 | n + 1, a => by show (run (a + 1) n).length + 1 = n + 1; rw [zB n]
theorem J9 : ∀ (n : Nat) (a : Int), run a (n + 1) = run a n ++ [a + n]
  | 0, a => by simp [run]
  | n + 1, a => by
    show a :: run (a + 1) (n + 1) = a :: run (a + 1) n ++ [a + ((n + 1 : Nat) : Int)]
    rw [J9 n]; simp; omega
def uN : Int → List Sp → List Int
 | _, [] => []
 | a, s :: r => run (a + s.f0) s.f1.toNat ++ uN (a + s.f0 + s.f1) r
def Qj : Int → List Sp → Int
 | a, [] => a
 | a, s :: r => Qj (a + s.f0 + s.f1) r
def nK : List Sp → Int
 | [] => 0
 | s :: r => s.f1 + nK r
theorem Aw (s : Sp) : ∀ (l : List Sp) (a : Int), uN a (l ++ [s]) = uN a l ++ run (Qj a l + s.f0) s.f1.toNat
 | [], a => by simp [uN, Qj]
 | x :: l, a => by simp [uN, Qj, Aw s l]
theorem Az (s : Sp) : ∀ (l : List Sp) (a : Int), Qj a (l ++ [s]) = Qj a l + s.f0 + s.f1
 | [], a => by simp [Qj]
 | x :: l, a => by simp [Qj, Az s l]
theorem vM (s : Sp) : ∀ (l : List Sp), nK (l ++ [s]) = nK l + s.f1
 | [] => by simp [nK]
 | x :: l => by simp [nK, vM s l]; omega
theorem wB (s : Sp) : ∀ (l : List Sp) (f : Bool) (a n : Int), iT f a n (l ++ [s]) = (iT f a n l && decide (sO (f && l.isEmpty) (Qj a l) (n + nK l) s))
  | [], f, a, n => by simp [iT, Qj, nK]
  | x :: l, f, a, n => by
    simp only [List.cons_append, iT, Qj, nK, wB s l, List.isEmpty_cons, Bool.false_and, Bool.and_false, Bool.and_assoc, Int.add_assoc]
theorem nM : ∀ (l : List Sp) (f : Bool) (a n : Int), iT f a n l = true → ∀ s ∈ l, 0 ≤ s.f1 ∧ s.f1 ≤ 4096
  | [], _, _, _, _, s, hs => by simp at hs
  | x :: l, f, a, n, h, s, hs => by
    simp only [iT, Bool.and_eq_true, decide_eq_true_eq] at h
    rcases List.mem_cons.1 hs with rfl | hs
    · exact ⟨h.1.1, h.1.2.1⟩
    · exact nM l _ _ _ h.2 s hs
theorem rQ : ∀ (l : List Sp) (a : Int), (∀ s ∈ l, 0 ≤ s.f1) → ((uN a l).length : Int) = nK l
  | [], _, _ => rfl
  | s :: l, a, h => by
    have := rQ l (a + s.f0 + s.f1) (fun x hx => h x (List.mem_cons_of_mem _ hx))
    have := h s (List.mem_cons_self ..)
    simp only [uN, nK, List.length_append, zB]
    omega
theorem G9 : ∀ (n : Nat) (a : Int), -4611686018427387904 ≤ a → a + n ≤ 4611686018427387904 → pz a n = run a n ∧ o8 a n = a + n
  | 0, a, _, _ => ⟨rfl, by simp [o8]⟩
  | n + 1, a, h0, h1 => by
    have h2 : a + 1 + (n : Int) ≤ 4611686018427387904 := by omega
    obtain ⟨e1, e2⟩ := G9 n (a + 1) (by omega) h2
    simp only [pz, o8, run]
    rw [eX (by omega) (by omega), e1, e2]
    exact ⟨rfl, by omega⟩
theorem AA : ∀ (l : List Sp) (f : Bool) (a n : Int), iT f a n l = true → fE a l = uN a l
  | [], _, _, _, _ => rfl
  | s :: l, f, a, n, h => by
    simp only [iT, Bool.and_eq_true, decide_eq_true_eq] at h
    obtain ⟨h1, h2, h3, h4, h5, h6, h7, h8⟩ := h.1
    have he : ((s.f1.toNat : Nat) : Int) = s.f1 := by omega
    have hb := G9 s.f1.toNat (a + s.f0) (by omega) (by omega)
    simp only [fE, uN]
    rw [eX (by omega) (by omega), hb.1, hb.2, he, AA l _ _ _ h.2]
theorem OB : ∀ (l : List Sp) (f : Bool) (a n : Int), iT f a n l = true → n ≤ 4096 → n + nK l ≤ 4096
  | [], _, _, _, _, h => by simp [nK]; exact h
  | s :: l, f, a, n, h, _ => by
    simp only [iT, Bool.and_eq_true, decide_eq_true_eq] at h
    have := OB l _ _ _ h.2 h.1.2.2.2.2.2.2.2
    simp only [nK]; omega
def rises : Int → List Int → Bool
 | _, [] => true
 | e, p :: r => decide (e ≤ p ∧ p ≤ 1048576) && rises (p + 1) r
def BQ (e : Int) (l : List Int) : Int := match l.getLast? with | none => e | some q => q + 1
theorem BR {e : Int} {l : List Int} (h : l.getLast? = none) : BQ e l = e := by unfold BQ; rw [h]
theorem rU {e q : Int} {l : List Int} (h : l.getLast? = some q) : BQ e l = q + 1 := by unfold BQ; rw [h]
theorem zC (p : Int) : ∀ (l : List Int) (e : Int), rises e (l ++ [p]) = (rises e l && decide (BQ e l ≤ p ∧ p ≤ 1048576))
  | [], e => (show (decide (e ≤ p ∧ p ≤ 1048576) && true) = (true && decide (e ≤ p ∧ p ≤ 1048576)) from Bool.and_comm _ _)
  | x :: l, e => by
    simp only [List.cons_append, rises, zC p l, Bool.and_assoc]
    congr 3
    cases l with
    | nil => rfl
    | cons y l => cases h : (y :: l).getLast? with
      | none => simp at h
      | some q => rw [rU h, rU (by rw [List.getLast?_cons_cons]; exact h)]
theorem vN {l : List Int} {i : Nat} (h : i < l.length) (hb : ¬ (BQ (-1048576) (l.take i) ≤ l[i] ∧ l[i] ≤ 1048576)) : rises (-1048576) l = false := by
  have e : l = l.take (i + 1) ++ l.drop (i + 1) := (List.take_append_drop _ _).symm
  have happ : ∀ (a b : List Int) (e : Int), rises e a = false → rises e (a ++ b) = false := by
    intro a
    induction a with
    | nil => intro b e h; simp [rises] at h
    | cons x a ih => intro b e h; simp only [List.cons_append, rises] at h ⊢; rcases Bool.and_eq_false_iff.1 h with h | h
                     · rw [h]; rfl
                     · rw [ih b _ h]; simp
  rw [e]
  apply happ
  rw [take_at h, zC, ahH hb]
  simp
def uO (c : List Sp × Int) (p : Int) : List Sp × Int :=
 (if c.1 = [] ∨ p > c.2 then c.1 ++ [⟨p - c.2, 1⟩] else c.1.dropLast ++ (c.1.getLast?.map fun s => (⟨s.f0, s.f1 + 1⟩ : Sp)).toList, p + 1)
def iM (l : List Int) : List Sp × Int := l.foldl uO ([], 0)
def spansOf (l : List Int) : List Sp := (iM l).1
theorem rV (l : List Int) (p : Int) : iM (l ++ [p]) = uO (iM l) p := by simp [iM]
def AB (first : Bool) (s : Sp) : Prop := s.f1 ≠ 0 ∧ (first = false → s.f0 ≠ 0)
instance (f : Bool) (s : Sp) : Decidable (AB f s) := by unfold AB; exact inferInstance
def BU : Bool → List Sp → Bool
 | _, [] => true
 | f, s :: r => decide (AB f s) && BU false r
theorem uP (s : Sp) : ∀ (l : List Sp) (f : Bool), BU f (l ++ [s]) = (BU f l && decide (AB (f && l.isEmpty) s))
 | [], f => by simp [BU]
 | x :: l, f => by simp only [List.cons_append, BU, uP s l, List.isEmpty_cons, Bool.false_and, Bool.and_false, Bool.and_assoc]
structure SpInv (l : List Int) (c : List Sp) (e : Int) : Prop where
 pl : uN 0 c = l
 en : Qj 0 c = e
 cnt : nK c = l.length
 can : BU true c = true
 pos : ∀ s ∈ c, 1 ≤ s.f1 ∧ s.f1 ≤ l.length ∧ -1048576 ≤ s.f0 ∧ s.f0 ≤ 2097152
 right : (l.length : Int) ≤ 4096 → iT true 0 0 c = true
 nil : c = [] ↔ l = []
 last : ∀ q, l.getLast? = some q → e = q + 1 ∧ -1048576 ≤ q ∧ q ≤ 1048576
 first : l = [] → e = 0
 len : c.length ≤ l.length
theorem Nk {l : List Int} {p : Int} (h : SpInv l (iM l).1 (iM l).2) (hp : BQ (-1048576) l ≤ p ∧ p ≤ 1048576) : SpInv (l ++ [p]) (iM (l ++ [p])).1 (iM (l ++ [p])).2 := by
 rw [rV]
 generalize iM l = g at h
 obtain ⟨c, e⟩ := g
 obtain ⟨hpl, hen, hcnt, hcan, hpos, hright, hnil, hlast, hfirst, hlen⟩ := h
 simp only at hpl hen hcnt hcan hpos hright hnil hlast hfirst hlen
 have hpb : -1048576 ≤ p := by
  cases hl : l.getLast? with
  | none => rw [BR hl] at hp; exact hp.1
  | some q => rw [rU hl] at hp; have := hlast q hl; have := hp.1; omega
 have heb : -1048576 ≤ e ∧ e ≤ 1048577 := by
  cases hl : l.getLast? with
  | none => have := hfirst (List.getLast?_eq_none_iff.1 hl); omega
  | some q => have := hlast q hl; omega
 have hlast' : ∀ q, (l ++ [p]).getLast? = some q → p + 1 = q + 1 ∧ -1048576 ≤ q ∧ q ≤ 1048576 := by
  intro q hq; simp at hq; subst hq; exact ⟨rfl, hpb, hp.2⟩
 unfold uO
 simp only
 by_cases hc : c = [] ∨ p > e
 ·rw [if_pos hc]
  have hemp : c ≠ [] → 0 < p - e := by intro hne; rcases hc with hc | hc; exact absurd hc hne; omega
  have hlo : -1048576 ≤ p - e := by
   by_cases hne : c = []
   ·have := hfirst (hnil.1 hne); omega
   ·have := hemp hne; omega
  refine ⟨?_, ?_, ?_, ?_, ?_, ?_, ?_, hlast', by simp, by simp; exact hlen⟩
  ·rw [Aw, hpl, hen]; simp [run]; omega
  ·rw [Az, hen]; simp; omega
  ·rw [vM, hcnt]; simp
  ·rw [uP, hcan]
   simp only [Bool.true_and, decide_eq_true_eq]
   refine ⟨by simp, fun hf => ?_⟩
   have : c ≠ [] := by rintro rfl; simp at hf
   have := hemp this
   simp only; omega
  ·intro s hs
   rcases List.mem_append.1 hs with hs | hs
   ·have := hpos s hs; simp; omega
   ·simp at hs; subst hs; simp; omega
  ·intro hl
   have hl' : (l.length : Int) ≤ 4096 := by simp at hl; omega
   rw [wB, hright hl', hen, hcnt]
   simp only [Bool.true_and, decide_eq_true_eq]
   refine ⟨by simp, by simp, by simp; omega, ?_, by simp; omega, by simp; omega, by simp; omega, by simp at hl ⊢; omega⟩
   by_cases hne : c = []
   ·subst hne; simp; have := hfirst (hnil.1 rfl); omega
   ·have := hemp hne
    rw [if_neg (by simp [hne])]
    simp only; omega
  ·simp
 ·rw [if_neg hc]
  have hne : c ≠ [] := fun h => hc (Or.inl h)
  obtain ⟨c', s, rfl⟩ : ∃ c' s, c = c' ++ [s] := ⟨c.dropLast, c.getLast hne, (List.dropLast_concat_getLast hne).symm⟩
  have hle : l ≠ [] := fun h => hne (hnil.2 h)
  obtain ⟨q, hq⟩ : ∃ q, l.getLast? = some q := by cases hl : l.getLast? with
   | none => exact absurd (List.getLast?_eq_none_iff.1 hl) hle
   | some q => exact ⟨q, rfl⟩
  have hpe : p = e := by
   rw [rU hq] at hp
   have := hlast q hq
   have := hp.1
   have : ¬ p > e := fun h => hc (Or.inr h)
   omega
  subst hpe
  have hs1 := hpos s (by simp)
  rw [Aw] at hpl
  rw [Az] at hen
  rw [vM] at hcnt
  rw [uP] at hcan
  simp only [Bool.and_eq_true, decide_eq_true_eq] at hcan
  simp only [List.dropLast_concat, List.getLast?_concat, Option.map_some, Option.toList_some]
  have het : (s.f1 + 1).toNat = s.f1.toNat + 1 := by omega
  refine ⟨?_, ?_, ?_, ?_, ?_, ?_, ?_, hlast', by simp, by simp at hlen ⊢; omega⟩
  ·rw [Aw]; simp only []; rw [het, J9, ← List.append_assoc, hpl]
   congr 2; omega
  ·rw [Az]; simp only; omega
  ·rw [vM]; simp only [List.length_append, List.length_cons, List.length_nil]; omega
  ·rw [uP, hcan.1]
   simp only [Bool.true_and, decide_eq_true_eq]
   exact ⟨by simp only; omega, hcan.2.2⟩
  ·intro x hx
   rcases List.mem_append.1 hx with hx | hx
   ·have := hpos x (by simp [hx]); simp; omega
   ·simp at hx; subst hx; simp; omega
  ·intro hl
   have hl' : (l.length : Int) ≤ 4096 := by simp at hl; omega
   have hr := hright hl'
   rw [wB] at hr ⊢
   simp only [Bool.and_eq_true, decide_eq_true_eq] at hr ⊢
   obtain ⟨hr0, h1, h2, h3, h4, h5, h6, h7, h8⟩ := hr
   simp only [List.length_append, List.length_cons, List.length_nil] at hl
   exact ⟨hr0, by simp only; omega, by simp only; omega, h3, h4, h5, h6, by simp only; omega, by simp only; omega⟩
  ·simp
theorem uh (l : List Int) (hr : rises (-1048576) l = true) : SpInv l (spansOf l) (iM l).2 := by
  have : ∀ i, i ≤ l.length → SpInv (l.take i) (iM (l.take i)).1 (iM (l.take i)).2 := by
    intro i
    induction i with
    | zero => intro _; simp only [List.take_zero]; exact ⟨rfl, rfl, rfl, rfl, by simp [iM], fun _ => rfl, by simp [iM], by simp, fun _ => rfl, by simp [iM]⟩
    | succ i ih =>
      intro hi
      have hlt : i < l.length := by omega
      rw [take_at hlt]
      refine Nk (ih (by omega)) ?_
      by_cases hb : (BQ (-1048576) (l.take i) ≤ l[i] ∧ l[i] ≤ 1048576)
      · exact hb
      · rw [vN hlt hb] at hr; cases hr
  have := this l.length (Nat.le_refl _)
  rwa [List.take_length] at this
def jO (l : List Int) : List Sp × Int := if rises (-1048576) l = true then (if (l.length : Int) > 4096 then ([], 12) else if ((spansOf l).length : Int) > 1024 then ([], 12) else (spansOf l, 0)) else ([], 11)
theorem He (c : List Sp) (s : Sp) (h : c.length < 4611686018427387904) : wrap64 (((c ++ [s]).length : Int) - 1) = (c.length : Int) ∧ aY (c ++ [s]) (c.length : Int) = s := by
 refine ⟨by simp only [List.length_append, List.length_cons, List.length_nil]; rw [eX (by omega) (by omega)]; omega, ?_⟩
 rw [Ar (by simp)]; simp
theorem Pz (l : List Int) (hw : ∀ x ∈ l, i64 x) (hm : l.length < 4398046511104) : ∀ (d k i : Nat), l.length - i = d → 2 * d < k → i ≤ l.length → rises (-1048576) (l.take i) = true →
    span_From.l0 k l (iM (l.take i)).1 (iM (l.take i)).2 l (l.length : Int) (i : Int) = some (jO l) := by
  intro d
  induction d with
  | zero =>
    intro k i hd hk hi hr
    obtain ⟨k, rfl⟩ : ∃ m, k = m + 1 := ⟨k - 1, by omega⟩
    have hil : i = l.length := by omega
    subst hil
    rw [List.take_length] at hr ⊢
    simp only [span_From.l0]
    rw [if_neg (by omega)]
    unfold jO
    rw [if_pos hr]
    show _ = some (if (l.length : Int) > 4096 then ([], 12) else if (((iM l).1).length : Int) > 1024 then ([], 12) else ((iM l).1, 0))
    split
    · rfl
    · split <;> rfl
  | succ d ih =>
    intro k i hd hk hi hr
    obtain ⟨k, rfl⟩ : ∃ m, k = m + 2 := ⟨k - 2, by omega⟩
    have hlt : i < l.length := by omega
    have hp := hw _ (List.getElem_mem hlt)
    have hinv : SpInv (l.take i) (iM (l.take i)).1 (iM (l.take i)).2 := uh _ hr
    have hfail : ¬ (BQ (-1048576) (l.take i) ≤ l[i] ∧ l[i] ≤ 1048576) → some (([] : List Sp), (11 : Int)) = some (jO l) := by
      intro hb
      unfold jO
      rw [vN hlt hb]; rfl
    have hgo : (BQ (-1048576) (l.take i) ≤ l[i] ∧ l[i] ≤ 1048576) → span_From.l0 k l (iM (l.take (i + 1))).1 (iM (l.take (i + 1))).2 l (l.length : Int) ((i + 1 : Nat) : Int) = some (jO l) := by
      intro hb
      refine ih k (i + 1) (by omega) (by omega) (by omega) ?_
      rw [take_at hlt, zC, hr, ahG hb]; rfl
    have hsnoc : iM (l.take (i + 1)) = uO (iM (l.take i)) l[i] := by rw [take_at hlt, rV]
    rw [hsnoc] at hgo
    clear hsnoc
    have hlen : (l.take i).length = i := by simp; omega
    have hi0 : (l.take i).getLast? = none ↔ i = 0 := by rw [List.getLast?_eq_none_iff]; constructor
                                                        · intro h; rw [h] at hlen; simpa using hlen.symm
                                                        · intro h; subst h; rfl
    simp only [span_From.l0]
    rw [if_pos (by omega), if_pos (by omega), if_pos (by omega), sK hlt, OA]
    simp only [Option.bind_some]
    generalize l[i] = p at hp hfail hgo
    generalize iM (l.take i) = g at hinv hgo
    obtain ⟨c, e⟩ := g
    obtain ⟨hpl, hen, hcnt, hcan, hpos, hright, hnil, hlast, hfirst, hcl⟩ := hinv
    simp only at hpl hen hcnt hcan hpos hright hnil hlast hfirst hgo hcl ⊢
    rw [hlen] at hcl
    have hbad : ∀ b, b = true → ¬ (BQ (-1048576) (l.take i) ≤ p ∧ p ≤ 1048576) → span_From.j1 (k + 1) l c e (i : Int) p l (l.length : Int) (i : Int) b = some (jO l) := by
      intro b hb h; subst hb
      simp only [span_From.j1]; simp only [if_true]; exact hfail h
    by_cases c1 : -1048576 ≤ p ∧ p ≤ 1048576
    rotate_left
    · rw [ahH c1, if_neg (by decide)]
      refine hbad true rfl (fun h => c1 ?_)
      cases hl : (l.take i).getLast? with
      | none => rw [BR hl] at h; exact h
      | some q => have := hlast q hl; rw [rU hl] at h; omega
    rw [ahG c1, if_pos rfl]
    -- the bound that counts
    have hbnd : (¬ (i > 0 ∧ p < e)) → (BQ (-1048576) (l.take i) ≤ p ∧ p ≤ 1048576) := by
      intro h
      cases hl : (l.take i).getLast? with
      | none => rw [BR hl]; exact c1
      | some q =>
        have := hlast q hl
        have : i ≠ 0 := fun h0 => by rw [hi0.2 h0] at hl; cases hl
        rw [rU hl]; omega
    have hne : (i > 0 ∧ p < e) → ¬ (BQ (-1048576) (l.take i) ≤ p ∧ p ≤ 1048576) := by
      rintro ⟨h0, h1⟩ h
      cases hl : (l.take i).getLast? with
      | none => exact absurd (hi0.1 hl) (by omega)
      | some q => have := hlast q hl; rw [rU hl] at h; have := h.1; omega
    have hcn : c = [] ↔ i = 0 := hnil.trans (List.getLast?_eq_none_iff.symm.trans hi0)
    have heb : -1048576 ≤ e ∧ e ≤ 1048577 := by
      cases hl : (l.take i).getLast? with
      | none => have := hfirst (List.getLast?_eq_none_iff.1 hl); omega
      | some q => have := hlast q hl; omega
    have hgood : ¬ (i > 0 ∧ p < e) → span_From.j1 (k + 1) l c e (i : Int) p l (l.length : Int) (i : Int) false = some (jO l) := by
      intro hn
      have hgo := hgo (hbnd hn)
      unfold uO at hgo
      simp only at hgo
      have happ : (some (c ++ [(⟨wrap64 (p - e), 0⟩ : Sp)] : List Sp)).bind (fun y => (if 0 ≤ (wrap64 ((y.length : Int) - 1)) then (if (wrap64 ((y.length : Int) - 1)) < (y.length : Int) then (span_From.l0 k l (y.set ((wrap64 ((y.length : Int) - 1)) : Int).toNat (⟨(aY y (wrap64 ((y.length : Int) - 1))).f0, wrap64 (((aY y (wrap64 ((y.length : Int) - 1))).f1) + 1)⟩ : Sp)) (wrap64 (p + 1)) l (l.length : Int) (wrap64 ((i : Int) + 1))) else (none)) else (none))) = span_From.l0 k l (c ++ [⟨p - e, 1⟩]) (p + 1) l (l.length : Int) ((i + 1 : Nat) : Int) := by
        simp only [Option.bind_some]
        obtain ⟨e1, e2⟩ := He c ⟨wrap64 (p - e), 0⟩ (by omega)
        rw [e1, e2, if_pos (by omega), if_pos (by simp only [List.length_append, List.length_cons, List.length_nil]; omega)]
        simp only []
        rw [eX (x := p - e) (by omega) (by omega), eX (x := 0 + 1) (by omega) (by omega), eX (x := p + 1) (by omega) (by omega), wrap_succ (by omega)]
        congr 1
        simp
      simp only [span_From.j1]
      rw [if_neg (by decide)]
      by_cases h0 : i = 0
      · rw [if_pos (by omega), if_pos (by omega), happ]
        rw [if_pos (Or.inl (hcn.2 h0))] at hgo
        exact hgo
      · rw [if_neg (by omega)]
        by_cases h1 : p > e
        · rw [if_pos h1, if_pos (by omega), happ]
          rw [if_pos (Or.inr h1)] at hgo
          exact hgo
        · rw [if_neg h1]
          rw [if_neg (by rintro (h | h); exact h0 (hcn.1 h); exact h1 h)] at hgo
          have hne : c ≠ [] := fun h => h0 (hcn.1 h)
          obtain ⟨c', s, rfl⟩ : ∃ c' s, c = c' ++ [s] := ⟨c.dropLast, c.getLast hne, (List.dropLast_concat_getLast hne).symm⟩
          have hs1 := hpos s (by simp)
          rw [hlen] at hs1
          simp only [List.length_append, List.length_cons, List.length_nil] at hcl
          obtain ⟨e1, e2⟩ := He c' s (by omega)
          rw [e1, e2, if_pos (by omega), if_pos (by simp only [List.length_append, List.length_cons, List.length_nil]; omega)]
          simp only [List.dropLast_concat, List.getLast?_concat, Option.map_some, Option.toList_some] at hgo
          rw [eX (x := s.f1 + 1) (by omega) (by omega), eX (x := p + 1) (by omega) (by omega), wrap_succ (by omega), ← hgo]
          congr 1
          simp
    by_cases c2 : (i : Int) > 0
    · rw [if_pos c2]
      by_cases c3 : p < e
      · exact hbad _ (ahG c3) (hne ⟨by omega, c3⟩)
      · rw [ahH c3]; exact hgood (fun h => c3 h.2)
    · rw [if_neg c2]; exact hgood (fun h => c2 (by omega))
theorem OC (l : List Int) (hw : ∀ x ∈ l, i64 x) (hm : l.length < 4398046511104) (k : Nat) (hk : 2 * l.length < k) : span_From.f k l = some (jO l) := by
 unfold span_From.f
 exact Pz l hw hm l.length k 0 (by omega) hk (by omega) rfl
def yM (l : List Sp) : List Int × Int := if fU l = 0 then (uN 0 l, 0) else ([], fU l)
theorem kS {l : List Sp} (h : fU l = 0) : l.length ≤ 1024 ∧ iT true 0 0 l = true := by
 unfold fU at h
 split at h
 ·cases h
 ·split at h
  ·exact ⟨by omega, by assumption⟩
  ·cases h
theorem uj {l : List Sp} (h : fU l = 0) : (uN 0 l).length ≤ 4096 := by
 have hr := (kS h).2
 have h1 := rQ l 0 (fun s hs => (nM l _ _ _ hr s hs).1)
 have h2 := OB l _ _ _ hr (by omega)
 omega
theorem Hf (l : List Sp) (hw : kU l) (k : Nat) (hk : 2048 < k) : span_Places.f k l = some (yM l) := by
 unfold span_Places.f yM
 rw [Au l hw k hk]
 simp only [Option.bind_some]
 by_cases h : fU l = 0
 ·have h0 := kS h
  rw [if_pos h, if_pos h, AA l _ _ _ h0.2, if_pos ⟨by omega, by have := uj h; omega⟩]
 ·rw [if_neg h, if_neg h]
theorem yN {l : List Sp} {i : Nat} (h : i < l.length) : aW (l.map toR) (i : Int) = toR l[i] := by rw [J8 (by simpa using h)]; simp
theorem Jb (l : List Sp) (i : Nat) (hi : i < l.length) (s : Sp) (hs : l[i] = s) (hf : 0 ≤ s.f1 ∧ s.f1 ≤ 4096) : ∀ (d k j : Nat) (acc : List Int) (a : Int), s.f1.toNat - j = d → j ≤ s.f1.toNat → acc.length + d < 17592186044416 → -4611686018427387904 ≤ a → a + d ≤ 4611686018427387904 →
    tidepoleref06_Places.l1 (k + (d + 1)) (l.map toR) acc a (i : Int) (j : Int) = tidepoleref06_Places.l0 k (l.map toR) (acc ++ run a d) (a + d) (wrap64 ((i : Int) + 1)) := by
  intro d
  induction d with
  | zero =>
    intro k j acc a hd hj hacc ha hb
    have hc : ¬ (j : Int) < (toR s).f1 := by show ¬ (j : Int) < s.f1; omega
    rw [tidepoleref06_Places.l1, List.length_map, if_pos (by omega), if_pos (by omega), yN hi, hs, if_neg hc]
    simp [run]
  | succ d ih =>
    intro k j acc a hd hj hacc ha hb
    have hc : (j : Int) < (toR s).f1 := by show (j : Int) < s.f1; omega
    rw [← Nat.add_assoc, tidepoleref06_Places.l1, List.length_map, if_pos (by omega), if_pos (by omega), yN hi, hs, if_pos hc, if_pos (by omega), wrap_succ (by omega), eX (x := a + 1) (by omega) (by omega), ih k (j + 1) _ _ (by omega) (by omega) (by simp; omega) (by omega) (by omega)]
    congr 1
    · simp [run]
    · omega
set_option maxRecDepth 100000 in
theorem Eo (l : List Sp) (hm : l.length < 17592186044416) : ∀ (d k i : Nat) (acc : List Int) (f : Bool) (a n : Int), l.length - i = d → d * 5000 < k → i ≤ l.length → iT f a n (l.drop i) = true → n ≤ 4096 → -4611686018427387904 + d * 4194304 ≤ a → a + d * 4194304 ≤ 4611686018427387904 → acc.length + d * 4096 ≤ 8796093022208 →
    tidepoleref06_Places.l0 k (l.map toR) acc a (i : Int) = some (acc ++ uN a (l.drop i)) := by
  intro d
  induction d with
  | zero =>
    intro k i acc f a n hd hk hi hr hn ha hb hacc
    obtain ⟨k, rfl⟩ : ∃ m, k = m + 1 := ⟨k - 1, by omega⟩
    simp only [tidepoleref06_Places.l0, List.length_map]
    rw [if_neg (by omega), drop_end (by omega)]; simp [uN]
  | succ d ih =>
    intro k i acc f a n hd hk hi hr hn ha hb hacc
    have hlt : i < l.length := by omega
    rw [drop_at hlt] at hr ⊢
    simp only [iT, Bool.and_eq_true, decide_eq_true_eq] at hr
    obtain ⟨h1, h2, h3, h4, h5, h6, h7, h8⟩ := hr.1
    obtain ⟨k, rfl⟩ : ∃ m, k = m + (l[i].f1.toNat + 1) + 1 := ⟨k - (l[i].f1.toNat + 1) - 1, by omega⟩
    rw [tidepoleref06_Places.l0, List.length_map, if_pos (by omega), if_pos (by omega), yN hlt]
    have he : ((l[i].f1.toNat : Nat) : Int) = l[i].f1 := by omega
    have := Jb l i hlt l[i] rfl ⟨h1, h2⟩ l[i].f1.toNat k 0 acc (a + l[i].f0) (by omega) (by omega) (by omega) (by omega) (by omega)
    rw [show (toR l[i]).f0 = l[i].f0 from rfl, eX (x := a + l[i].f0) (by omega) (by omega)]
    rw [show (0 : Int) = ((0 : Nat) : Int) from rfl, this, wrap_succ (by omega), he, ih k (i + 1) _ false _ (n + l[i].f1) (by omega) (by omega) (by omega) hr.2 (by omega) (by omega) (by omega) (by simp [zB]; omega)]
    simp [uN]
theorem wC (l : List Sp) (h : fU l = 0) (k : Nat) (hk : 5120000 < k) : tidepoleref06_Places.f k (l.map toR) = some (uN 0 l) := by
 have h0 := kS h
 unfold tidepoleref06_Places.f
 have := Eo l (by omega) l.length k 0 [] true 0 0 (by omega) (by omega) (by omega) h0.2 (by omega) (by omega) (by omega) (by simp; omega)
 simpa using this
theorem Ko (l : List Sp) (i : Nat) (x0 x1 : Int) (hf : 0 ≤ x1 ∧ x1 ≤ 4096) (n0 : Int) (hn : 0 ≤ n0 ∧ n0 ≤ 4096) : ∀ (d k j : Nat) (a : Int), x1.toNat - j = d → j ≤ x1.toNat → -1048576 ≤ a → a ≤ 1048577 →
    tidepoleref06_Check.l1 (k + (d + 1)) (l.map toR) a (n0 + j) (i : Int) (j : Int) x0 x1 = if 0 < d ∧ a + d - 1 > 1048576 then some 20 else if n0 + x1 > 4096 then some 20 else tidepoleref06_Check.l0 k (l.map toR) (a + d) (n0 + x1) (wrap64 ((i : Int) + 1)) := by
  intro d
  induction d with
  | zero =>
    intro k j a hd hj ha hb
    have e : n0 + (j : Int) = n0 + x1 := by omega
    rw [tidepoleref06_Check.l1, if_neg (by omega), e]
    simp
  | succ d ih =>
    intro k j a hd hj ha hb
    rw [← Nat.add_assoc, tidepoleref06_Check.l1, if_pos (by omega)]
    by_cases c : a > 1048576
    · rw [if_pos c, if_pos (by omega)]
    · have e : wrap64 (n0 + (j : Int) + 1) = n0 + ((j + 1 : Nat) : Int) := by rw [eX (by omega) (by omega)]; omega
      have e2 : a + ((d + 1 : Nat) : Int) = a + 1 + (d : Int) := by omega
      rw [if_neg c, wrap_succ (by omega), eX (x := a + 1) (by omega) (by omega), e, ih k (j + 1) _ (by omega) (by omega) (by omega) (by omega), e2]
      by_cases c2 : a + 1 + (d : Int) - 1 > 1048576
      · rw [if_pos (show 0 < d + 1 ∧ a + 1 + (d : Int) - 1 > 1048576 from ⟨by omega, c2⟩)]
        by_cases c3 : 0 < d
        · rw [if_pos ⟨c3, c2⟩]
        · omega
      · rw [if_neg (show ¬ (0 < d ∧ a + 1 + (d : Int) - 1 > 1048576) from fun h => c2 h.2), if_neg (show ¬ (0 < d + 1 ∧ a + 1 + (d : Int) - 1 > 1048576) from fun h => c2 h.2)]
theorem Kq (k d : Nat) (l : List Sp) (i : Nat) (a n x0 x1 : Int) (ha : -1048576 ≤ a ∧ a ≤ 1048577) (hn : 0 ≤ n ∧ n ≤ 4096) (h0 : -1048576 ≤ x0 ∧ x0 ≤ 2097152) (h1 : 0 ≤ x1 ∧ x1 ≤ 4096) (hd : d = x1.toNat) :
  tidepoleref06_Check.j1 (k + (d + 1) + 1 + 1) (l.map toR) a n (i : Int) false x0 x1 = if -1048576 ≤ a + x0 ∧ a + x0 ≤ 1048576 ∧ a + x0 + max (x1 - 1) 0 ≤ 1048576 ∧ n + x1 ≤ 4096 then tidepoleref06_Check.l0 k (l.map toR) (a + x0 + x1) (n + x1) (wrap64 ((i : Int) + 1)) else some 20 := by
 have e : ((x1.toNat : Nat) : Int) = x1 := by omega
 rw [tidepoleref06_Check.j1, if_neg (by decide), eX (x := a + x0) (by omega) (by omega)]
 by_cases c1 : a + x0 < -1048576
 ·rw [if_pos c1, if_neg (by omega), tidepoleref06_Check.j2, if_pos rfl]
 rw [if_neg c1, tidepoleref06_Check.j2]
 by_cases c2 : a + x0 > 1048576
 ·rw [if_pos (ahG c2), if_neg (by omega)]
 rw [if_neg (by simp; omega)]
 have := Ko l i x0 x1 h1 n hn d k 0 (a + x0) (by omega) (by omega) (by omega) (by omega)
 rw [show n + ((0 : Nat) : Int) = n by omega] at this
 rw [show (0 : Int) = ((0 : Nat) : Int) from rfl, this, hd, e]
 by_cases c3 : a + x0 + max (x1 - 1) 0 ≤ 1048576
 ·rw [if_neg (by omega)]
  by_cases c4 : n + x1 ≤ 4096
  ·rw [if_neg (by omega), if_pos ⟨by omega, by omega, by exact c3, c4⟩]
  ·rw [if_pos (by omega), if_neg (fun h => c4 h.2.2.2)]
 ·rw [if_pos (by omega), if_neg (fun h => c3 h.2.2.1)]
theorem F8 (l : List Sp) (hw : kU l) (hm : l.length ≤ 4611686018427387904) : ∀ (d k i : Nat) (a n : Int), l.length - i = d → 5000 * d < k → i ≤ l.length → -1048576 ≤ a ∧ a ≤ 1048577 → 0 ≤ n ∧ n ≤ 4096 → (i = 0 → a = 0) →
    tidepoleref06_Check.l0 k (l.map toR) a n (i : Int) = some (if iT (decide (i = 0)) a n (l.drop i) = true then 0 else 20) := by
  intro d
  induction d with
  | zero =>
    intro k i a n hd hk hi ha hn ha0
    obtain ⟨k, rfl⟩ : ∃ m, k = m + 1 := ⟨k - 1, by omega⟩
    rw [tidepoleref06_Check.l0, List.length_map, if_neg (by omega), drop_end (by omega)]; rfl
  | succ d ih =>
    intro k i a n hd hk hi ha hn ha0
    have hlt : i < l.length := by omega
    obtain ⟨k, rfl⟩ : ∃ m, k = m + 3 := ⟨k - 3, by omega⟩
    have hs := hw _ (List.getElem_mem hlt)
    rw [tidepoleref06_Check.l0, List.length_map, if_pos (by omega), if_pos (by omega), yN hlt, drop_at hlt]
    generalize l[i] = s at hs
    rw [show (toR s).f0 = s.f0 from rfl, show (toR s).f1 = s.f1 from rfl]
    have hbad : ¬ sO (decide (i = 0)) a n s → (some 20 : Option Int) = some (if iT (decide (i = 0)) a n (s :: l.drop (i + 1)) = true then 0 else 20) := fun h => by simp only [iT, ahH h, Bool.false_and]; rfl
    have hf : ∀ b, b = true → tidepoleref06_Check.j1 (k + 2) (l.map toR) a n (i : Int) b s.f0 s.f1 = some 20 := fun b hb => by subst hb; rw [tidepoleref06_Check.j1, if_pos rfl]
    have hgo : (-1048576 ≤ s.f0 ∧ s.f0 ≤ 2097152) → (0 ≤ s.f1 ∧ s.f1 ≤ 4096) → (if decide (i = 0) = true then -1048576 ≤ s.f0 else 0 ≤ s.f0) → tidepoleref06_Check.j1 (k + 2) (l.map toR) a n (i : Int) false s.f0 s.f1 = some (if iT (decide (i = 0)) a n (s :: l.drop (i + 1)) = true then 0 else 20) := by
      intro h0 h1 h2
      obtain ⟨q, hq⟩ : ∃ q, k = q + (s.f1.toNat + 1) := ⟨k - (s.f1.toNat + 1), by omega⟩
      rw [show k + 2 = q + (s.f1.toNat + 1) + 1 + 1 by omega, Kq q _ l i a n s.f0 s.f1 ha hn h0 h1 rfl]
      by_cases c : -1048576 ≤ a + s.f0 ∧ a + s.f0 ≤ 1048576 ∧ a + s.f0 + max (s.f1 - 1) 0 ≤ 1048576 ∧ n + s.f1 ≤ 4096
      · rw [if_pos c, wrap_succ (by omega), ih q (i + 1) _ _ (by omega) (by omega) (by omega) (by omega) (by omega) (by omega)]
        have : sO (decide (i = 0)) a n s := ⟨h1.1, h1.2, h0.2, h2, c.1, c.2.1, c.2.2.1, c.2.2.2⟩
        simp only [iT, ahG this, Bool.true_and]
        rfl
      · rw [if_neg c]; exact hbad (fun h => c ⟨h.2.2.2.2.1, h.2.2.2.2.2.1, h.2.2.2.2.2.2.1, h.2.2.2.2.2.2.2⟩)
    have hj : (s.f1 < 0 → (if s.f1 < 0 then tidepoleref06_Check.j1 (k + 2) (l.map toR) a n (i : Int) true s.f0 s.f1 else tidepoleref06_Check.j1 (k + 2) (l.map toR) a n (i : Int) (decide (s.f1 > 4096)) s.f0 s.f1) = some (if iT (decide (i = 0)) a n (s :: l.drop (i + 1)) = true then 0 else 20)) := by
      intro c; rw [if_pos c, hf _ rfl]; exact hbad (fun h => by have := h.1; omega)
    have hrest : (-1048576 ≤ s.f0 ∧ s.f0 ≤ 2097152) → (if decide (i = 0) = true then -1048576 ≤ s.f0 else 0 ≤ s.f0) → (if s.f1 < 0 then tidepoleref06_Check.j1 (k + 2) (l.map toR) a n (i : Int) true s.f0 s.f1 else tidepoleref06_Check.j1 (k + 2) (l.map toR) a n (i : Int) (decide (s.f1 > 4096)) s.f0 s.f1) = some (if iT (decide (i = 0)) a n (s :: l.drop (i + 1)) = true then 0 else 20) := by
      intro h0 h2
      by_cases c : s.f1 < 0
      · exact hj c
      rw [if_neg c]
      by_cases c3 : s.f1 > 4096
      · rw [hf _ (ahG c3)]; exact hbad (fun h => by have := h.2.1; omega)
      · rw [ahH c3]; exact hgo h0 (by omega) h2
    by_cases c0 : s.f0 < -1048576
    · rw [if_pos c0, hf _ rfl]
      refine hbad (fun h => ?_)
      have h4 := h.2.2.2.1
      split at h4 <;> omega
    rw [if_neg c0]
    by_cases c1 : s.f0 > 2097152
    · rw [if_pos c1, hf _ rfl]; exact hbad (fun h => by have := h.2.2.1; omega)
    rw [if_neg c1]
    by_cases c5 : i = 0
    · subst c5
      rw [if_pos (by omega)]
      by_cases c6 : s.f0 > 1048576
      · rw [if_pos c6, hf _ rfl]
        have := ha0 rfl
        exact hbad (fun h => by have := h.2.2.2.2.2.1; omega)
      · rw [if_neg c6, if_neg (by omega)]
        exact hrest (by omega) (by simp; omega)
    · rw [if_neg (by omega), if_pos (by omega)]
      by_cases c4 : s.f0 < 0
      · rw [if_pos c4, hf _ rfl]; exact hbad (fun h => by have h4 := h.2.2.2.1; rw [if_neg (by simp [c5])] at h4; omega)
      · rw [if_neg c4]; exact hrest (by omega) (by rw [if_neg (by simp [c5])]; omega)
theorem Kr (l : List Sp) (hw : kU l) (k : Nat) (hk : 5120000 < k) : tidepoleref06_Check.f k (l.map toR) = some (fU l) := by
 unfold tidepoleref06_Check.f fU
 rw [List.length_map]
 by_cases h : l.length > 1024
 ·rw [if_pos (by omega), if_pos h]
 ·rw [if_neg (by omega), if_neg h]
  have := F8 l hw (by omega) l.length k 0 0 0 (by omega) (by omega) (by omega) (by omega) (by omega) (fun _ => rfl)
  simpa using this
theorem um {l : List Sp} (h : fU l = 0) : rises (-1048576) (uN 0 l) = true := by
  have hr := (kS h).2
  have hrun : ∀ (m : Nat) (b e : Int), e ≤ b → (m = 0 ∨ b + m - 1 ≤ 1048576) → ∀ r, rises (b + m) r = true ∨ (m = 0 ∧ rises e r = true) → rises e (run b m ++ r) = true := by
    intro m
    induction m with
    | zero =>
      intro b e h1 h2 r h3
      rcases h3 with h3 | h3
      · simp only [run, List.nil_append]
        have hmono : ∀ (r : List Int) (e e' : Int), e ≤ e' → rises e' r = true → rises e r = true := by
          intro r
          cases r with
          | nil => intros; rfl
          | cons x r => intro e e' he h; simp only [rises, Bool.and_eq_true, decide_eq_true_eq] at h ⊢; exact ⟨⟨by omega, h.1.2⟩, h.2⟩
        exact hmono r e _ (by omega) h3
      · exact h3.2
    | succ m ih =>
      intro b e h1 h2 r h3
      simp only [run, List.cons_append, rises, Bool.and_eq_true, decide_eq_true_eq]
      refine ⟨⟨h1, by omega⟩, ih (b + 1) (b + 1) (Int.le_refl _) (by omega) r (Or.inl ?_)⟩
      rcases h3 with h3 | h3
      · rw [show b + 1 + (m : Int) = b + ((m + 1 : Nat) : Int) by omega]; exact h3
      · omega
  have : ∀ (l : List Sp) (f : Bool) (a n e : Int), iT f a n l = true → (if f = true then a = 0 ∧ e = -1048576 else e ≤ a) → rises e (uN a l) = true := by
    intro l
    induction l with
    | nil => intros; rfl
    | cons s l ih =>
      intro f a n e h he
      simp only [iT, Bool.and_eq_true, decide_eq_true_eq] at h
      obtain ⟨h1, h2, h3, h4, h5, h6, h7, h8⟩ := h.1
      have ee : ((s.f1.toNat : Nat) : Int) = s.f1 := by omega
      have hle : e ≤ a + s.f0 := by cases f <;> simp at he h4 <;> omega
      simp only [uN]
      refine hrun s.f1.toNat (a + s.f0) e hle (by omega) _ ?_
      rw [ee]
      exact Or.inl (ih false _ _ _ h.2 (by simp))
  exact this l true 0 0 _ hr (by simp)
theorem yO {l : List Int} (h : rises (-1048576) l = true) : ∀ x ∈ l, -1048576 ≤ x ∧ x ≤ 1048576 := by
  have : ∀ (l : List Int) (e : Int), -1048576 ≤ e → rises e l = true → ∀ x ∈ l, -1048576 ≤ x ∧ x ≤ 1048576 := by
    intro l
    induction l with
    | nil => intro e _ _ x hx; cases hx
    | cons y l ih =>
      intro e he h x hx
      simp only [rises, Bool.and_eq_true, decide_eq_true_eq] at h
      rcases List.mem_cons.1 hx with rfl | hx
      · omega
      · exact ih (y + 1) (by omega) h.2 x hx
  exact this l _ (Int.le_refl _) h
attribute [local go_sem] iV iW jH jI gW gX iY iZ
theorem WW (d : Nat) (w : World) (x0 y0 : Int) (x1 y1 : Int) :
  (Op.equalIn (d + 2) 127 (.agg #[.int .i64 x0, .int .i64 x1]) (.agg #[.int .i64 y0, .int .i64 y1])).run Try.prog w = .ok (x0 == y0 && (x1 == y1)) w := by
 refine Wv Try.underlying127 (by kernel_rfl) ?_
 refine QF (by rfl) (by go_simp; rfl) (by go_simp; rfl) (by go_simp) ?_
 exact QE (by rfl) (by go_simp; rfl) (by go_simp; rfl) (by go_simp)
end Go.Proofs.Ytooiccpmngmapaa.P
namespace Go.Proofs.Ytooiccpmngmapaa.P
open Go.RowKit Go.Proofs.YtooiccpmngmapaaW.PrintWords Go.Proofs.YtooiccpmngmapaaW.PrintLast Go.Proofs.YtooiccpmngmapaaW.PrintMore
attribute [local go_sem] iV iW jH jI gW gX iY iZ
def pairs_add.f (a0 : Int) (a1 : Int) : Option (Int × Bool) := some (wrap64 (a0 + a1), ((decide ((wrap64 (a0 + a1)) > a0)) == (decide (a1 > 0))))
set_option maxHeartbeats 8000000 in
set_option maxRecDepth 100000 in
theorem pairs_add.calls (a0 : Int) (a1 : Int) (r1 : Int) (r2 : Bool) (w : World) (h : pairs_add.f a0 a1 = some (r1, r2)) :
  Calls Try.prog 179 #[.int .i64 a0, .int .i64 a1] w fun e w' => e = .returned (.tuple #[.int .i64 r1, .bool r2]) ∧ cZ w w' := by
 have H : (some (wrap64 (a0 + a1), ((decide ((wrap64 (a0 + a1)) > a0)) == (decide (a1 > 0))))) = some (r1, r2) := h
 clear h
 simp only [Option.some.injEq, Prod.mk.injEq] at H
 obtain ⟨rfl, rfl⟩ := H
 go_enter Try.func179, Try.ntmps179
 go_wp2
 go_ret2
 exact ⟨by first | rfl | (simp; done) | (simp [*]; done), by repeat (first | exact cZ.refl _ | apply cZ.step)⟩
def pairs_Absolute.l0 : Nat → List Int → Int → List Int → Int → Int → Option (List Int × Int)
 | 0, _, _, _, _, _ => none
 | k + 1, x4, x5, x9, x10, x11 => if x11 < x10 then (if 0 ≤ x11 then (if x11 < (x9.length : Int) then ((pairs_add.f x5 (rd x9 x11)).bind fun lJ => (if lJ.2 = true then (if x4.length < 17592186044416 then (pairs_Absolute.l0 k (x4 ++ [lJ.1]) lJ.1 x9 x10 (wrap64 (x11 + 1))) else (none)) else (some (([] : List Int), 28)))) else (none)) else (none)) else (some (x4, 0))
def pairs_Absolute.f (k : Nat) (l0 : List Int) : Option (List Int × Int) := pairs_Absolute.l0 k ([] : List Int) 0 l0 (l0.length : Int) 0
set_option maxHeartbeats 8000000 in
set_option maxRecDepth 100000 in
theorem pairs_Absolute.calls (k : Nat) (A0 : Option Addr) (c0 : Nat) (l0 : List Int) (r1 : List Int) (r2 : Int) (w : World) (hr0 : Kd.C (Kd.int .i64) w A0 l0.length l0) (hc0 : l0.length ≤ c0) (h : pairs_Absolute.f k l0 = some (r1, r2)) :
  Calls Try.prog 166 #[.slice A0 l0.length c0] w fun e w' => ∃ mW : Value, e = .returned (.tuple #[mW, .int .i64 r2]) ∧ Kd.R (Kd.int .i64) 2 w' w.heap.size (fun _ => True) mW r1 ∧ Below w.heap.size w w' := by
 have HR0 := ah hr0
 have uH := ah hc0
 clear hr0 hc0
 have HB := ah (Below.refl w.heap.size w)
 have H : (pairs_Absolute.l0 k ([] : List Int) 0 l0 (l0.length : Int) 0) = some (r1, r2) := h
 clear h
 have H' := ah H
 clear H
 go_enter Try.func166, Try.ntmps166
 go_wp2
 go_loopg [4, 5, 11] k (fun kq v4 v5 v11 w' => ∃ (dU : List Int) (bG : Int) (jr : Int), v5 = .int .i64 bG ∧ v11 = .int .i64 jr ∧ aj (pairs_Absolute.l0 kq dU bG l0 (l0.length : Int) jr = some (r1, r2)) ∧ aj (kq ≤ k) ∧ aj (Kd.R (Kd.int .i64) 2 w' w.heap.size (fun _ => True) v4 dU) ∧ aj (Below w.heap.size w w'))
 case atStart => exact ⟨(([] : List Int)), (0), (0), (by first | rfl | (simp; done) | (simp [*]; done)), (by first | rfl | (simp; done) | (simp [*]; done)), H', ⟨Nat.le_refl _⟩, ⟨by first | exact Kd.eY _ _ _ _ _ | exact Kd.ig _ _ _ _ _ | exact Kd.iq _ _ _ _ _ | exact Kd.gY _ _ _ _ _ | exact Kd.gZ _ _ _ _ _⟩, ⟨by repeat (first | (with_reducible first | exact HB.out | apply ak | apply ay | apply aH) | exact HB.out)⟩⟩
 case round =>
  clear H'
  try clear c1
  obtain ⟨dU, bG, jr, rfl, rfl, HA, jy, HO_4, HB⟩ := hrel
  cases gk with
  | zero => exact absurd HA.out (by simp [pairs_Absolute.l0])
  | succ k1 =>
   have H := HA.out
   clear HA
   simp only [pairs_Absolute.l0] at H
   by_cases c2 : jr < (l0.length : Int)
   ·rw [if_pos c2] at H
    have c2b0 : decide (jr < (l0.length : Int)) = true := ahG c2
    clear c2
    by_cases c3 : 0 ≤ jr
    ·rw [if_pos c3] at H
     have c3b0 : decide (0 ≤ jr) = true := ahG c3
     clear c3
     by_cases c4 : jr < (l0.length : Int)
     ·rw [if_pos c4] at H
      have c4b0 : decide (jr < (l0.length : Int)) = true := ahG c4
      clear c4
      replace H := Option.bind_eq_some_iff.mp H
      obtain ⟨⟨fH, dZ⟩, Kt, H⟩ := H
      replace H : (if dZ = true then (if dU.length < 17592186044416 then (pairs_Absolute.l0 k1 (dU ++ [fH]) fH l0 (l0.length : Int) (wrap64 (jr + 1))) else (none)) else (some (([] : List Int), 28))) = some (r1, r2) := H
      have A5 := ah Kt
      clear Kt
      by_cases c6 : dZ = true
      ·subst c6
       have H1 : (if dU.length < 17592186044416 then (pairs_Absolute.l0 k1 (dU ++ [fH]) fH l0 (l0.length : Int) (wrap64 (jr + 1))) else (none)) = some (r1, r2) := by rw [if_pos rfl] at H; exact H
       clear H
       have H := H1
       clear H1
       by_cases c7 : dU.length < 17592186044416
       ·rw [if_pos c7] at H
        have Nb := ah c7
        clear c7
        obtain ⟨y104, hy104⟩ : ∃ y_ : List Int, y_ = (dU ++ [fH]) := ⟨_, rfl⟩
        replace H : (pairs_Absolute.l0 k1 y104 fH l0 (l0.length : Int) (wrap64 (jr + 1))) = some (r1, r2) := by first | (rw [hy104]; with_reducible exact H) | (have jA := (Option.bind_some _ _).symm.trans H; rw [hy104]; with_reducible exact jA) | (have jA := (Option.bind_some _ _).symm.trans H; with_reducible exact jA) | with_reducible exact H | (rw [hy104]; exact H) | exact H
        have Rn := ah hy104
        clear hy104
        have H' := ah H
        clear H
        have fC : 0 ≤ (jr : Int) := ahF (by assumption)
        have fD : jr < (l0.length : Int) := ahF (by assumption)
        obtain ⟨kE, jM, bW⟩ := Kd.gB HR0.out jr fC fD
        cases jM
        replace bW := (HB.out.cell (World.block_lt_of_cell? w _ bW)).trans bW
        replace fC := eq_true fC
        replace fD := eq_true fD
        go_wp2_with (first | ((with_reducible refine bP (f := 179) rfl ?_); refine gU (some 18) Try.func179 #[.int .i64 bG, .int .i64 (rd l0 jr)] ?_; (with_reducible refine (pairs_add.calls bG (rd l0 jr) fH true _ A5.out).mono ?_); rintro e w' ⟨rfl, ⟨nd, rfl⟩⟩; refine ⟨_, rfl, ?_⟩; clear A5) | ((with_reducible refine eG (b := .append) (xs := #[.tmp 23, .tmp 25]) rfl ?_); at_builtin; refine Kd.je (Kd.int .i64) (w0 := w) w.heap.size rfl (.tmp 23) (.tmp 25) 27 2 (.int .i64 0) 8 rfl Try.underlying27 QH rfl (by decide) (by omega) u4 dU fH [.int .i64 fH] (fun _ => True) (fun _ => False) rfl rfl ?aP (fun _ hk => hk.elim) ?aF ?aO ?aB ?aS ?aL ?_; (case aP => exact rfl); (case aB => exact (bg HB.out)); (case aF => exact (fun _ _ => trivial)); (case aO => exact (Kd.fJ HO_4.out)); (case aS => exact (aQ (bg HB.out))); (case aL => have := Nb.out; omega); intro v105 w8 ho hb hg hat; rw [← Rn.out] at ho; have jE := ah (ho); replace HB := ah (hb); clear HO_4 ho hb hg hat))
        go_roundg k1
        case measure => have := jy.out; omega
        case rel => exact ⟨(y104), (fH), (wrap64 (jr + 1)), (by first | rfl | (simp; done) | (simp [*]; done)), (by first | rfl | (simp; done) | (simp [*]; done)), H', ⟨by have := jy.out; omega⟩, ⟨by (repeat with_reducible refine Kd.kQ ?_); exact jE.out⟩, ⟨by repeat (first | (with_reducible first | exact HB.out | apply ak | apply ay | apply aH) | exact HB.out)⟩⟩
       rw [if_neg c7] at H
       exact absurd H (by simp)
      replace c6 := Bool.eq_false_iff.mpr c6
      subst c6
      have H1 : (some (([] : List Int), 28)) = some (r1, r2) := by rw [if_neg (show ¬ (false = true) by decide)] at H; exact H
      clear H
      have H := H1
      clear H1
      simp only [Option.some.injEq, Prod.mk.injEq] at H
      obtain ⟨rfl, rfl⟩ := H
      have fC : 0 ≤ (jr : Int) := ahF (by assumption)
      have fD : jr < (l0.length : Int) := ahF (by assumption)
      obtain ⟨kE, jM, bW⟩ := Kd.gB HR0.out jr fC fD
      cases jM
      replace bW := (HB.out.cell (World.block_lt_of_cell? w _ bW)).trans bW
      replace fC := eq_true fC
      replace fD := eq_true fD
      go_wp2_with (first | ((with_reducible refine bP (f := 179) rfl ?_); refine gU (some 18) Try.func179 #[.int .i64 bG, .int .i64 (rd l0 jr)] ?_; (with_reducible refine (pairs_add.calls bG (rd l0 jr) fH false _ A5.out).mono ?_); rintro e w' ⟨rfl, ⟨nd, rfl⟩⟩; refine ⟨_, rfl, ?_⟩; clear A5))
      go_ret2
      exact ⟨_, by first | rfl | (simp [aU, aV] <;> rfl) | (simp [*, aU, aV] <;> rfl), by first | exact Kd.eY _ _ _ _ _ | exact Kd.ig _ _ _ _ _ | exact Kd.iq _ _ _ _ _ | exact Kd.gY _ _ _ _ _ | exact Kd.gZ _ _ _ _ _, by repeat (first | (with_reducible first | exact HB.out | apply ak | apply ay | apply aH) | exact HB.out)⟩
     rw [if_neg c4] at H
     exact absurd H (by simp)
    rw [if_neg c3] at H
    exact absurd H (by simp)
   rw [if_neg c2] at H
   have c2b0 : decide (jr < (l0.length : Int)) = false := ahH c2
   clear c2
   simp only [Option.some.injEq, Prod.mk.injEq] at H
   obtain ⟨rfl, rfl⟩ := H
   go_wp2
   go_ret2
   exact ⟨_, by first | rfl | (simp [aU, aV] <;> rfl) | (simp [*, aU, aV] <;> rfl), by (repeat with_reducible refine Kd.kQ ?_); exact HO_4.out, by repeat (first | (with_reducible first | exact HB.out | apply ak | apply ay | apply aH) | exact HB.out)⟩
def pairs_Zip_int64.l0 : Nat → List Int → List (gq) → List Int → Int → Int → Option ((List (gq)) × Int)
 | 0, _, _, _, _, _ => none
 | k + 1, x1, x8, QS, x27, x28 => if x28 < x27 then (if 0 ≤ x28 then (if x28 < (QS.length : Int) then (if x28 < (x1.length : Int) then (if x8.length < 8796093022208 then (pairs_Zip_int64.l0 k x1 (x8 ++ [(⟨rd QS x28, rd x1 x28⟩ : gq)]) QS x27 (wrap64 (x28 + 1))) else (none)) else (none)) else (none)) else (none)) else (some (x8, 0))
def pairs_Zip_int64.f (k : Nat) (l0 : List (dQ)) (l1 : List Int) : Option ((List (gq)) × Int) := (span_Places.f k l0).bind fun kR => (if kR.2 = 0 then (if (kR.1.length : Int) = (l1.length : Int) then (pairs_Zip_int64.l0 k l1 ([] : List (gq)) kR.1 (kR.1.length : Int) 0) else (some (([] : List (gq)), 10))) else (some (([] : List (gq)), kR.2)))
set_option maxHeartbeats 8000000 in
set_option maxRecDepth 100000 in
theorem pairs_Zip_int64.calls (k : Nat) (A0 : Option Addr) (c0 : Nat) (l0 : List (dQ)) (A1 : Option Addr) (c1 : Nat) (l1 : List Int) (r1 : List (gq)) (r2 : Int) (w : World) (hr0 : Kd.C jq w A0 l0.length l0) (hc0 : l0.length ≤ c0) (hr1 : Kd.C (Kd.int .i64) w A1 l1.length l1) (hc1 : l1.length ≤ c1) (h : pairs_Zip_int64.f k l0 l1 = some (r1, r2)) :
  Calls Try.prog 169 #[.slice A0 l0.length c0, .slice A1 l1.length c1] w fun e w' => ∃ mW : Value, e = .returned (.tuple #[mW, .int .i64 r2]) ∧ Kd.R jB 173 w' w.heap.size (fun _ => True) mW r1 ∧ Below w.heap.size w w' := by
 have Ro := Try.underlying173
 have HR0 := ah hr0
 have uH := ah hc0
 clear hr0 hc0
 have HR1 := ah hr1
 have F9 := ah hc1
 clear hr1 hc1
 have HB := ah (Below.refl w.heap.size w)
 have H : ((span_Places.f k l0).bind fun kR => (if kR.2 = 0 then (if (kR.1.length : Int) = (l1.length : Int) then (pairs_Zip_int64.l0 k l1 ([] : List (gq)) kR.1 (kR.1.length : Int) 0) else (some (([] : List (gq)), 10))) else (some (([] : List (gq)), kR.2)))) = some (r1, r2) := h
 clear h
 replace H := Option.bind_eq_some_iff.mp H
 obtain ⟨⟨dV, fH⟩, G7, H⟩ := H
 replace H : (if fH = 0 then (if (dV.length : Int) = (l1.length : Int) then (pairs_Zip_int64.l0 k l1 ([] : List (gq)) dV (dV.length : Int) 0) else (some (([] : List (gq)), 10))) else (some (([] : List (gq)), fH))) = some (r1, r2) := H
 have A3 := ah G7
 clear G7
 by_cases c4 : fH = 0
 ·rw [if_pos c4] at H
  have c4b0 : (fH == 0) = true := beq_iff_eq.mpr c4
  have c4b1 : (fH != 0) = false := bne_eq_false_iff_eq.mpr c4
  clear c4
  by_cases c5 : (dV.length : Int) = (l1.length : Int)
  ·rw [if_pos c5] at H
   have c5b0 : ((dV.length : Int) == (l1.length : Int)) = true := beq_iff_eq.mpr c5
   have c5b1 : ((dV.length : Int) != (l1.length : Int)) = false := bne_eq_false_iff_eq.mpr c5
   have c5b2 : (dV.length == l1.length) = true := by first | simpa using c5 | (simp at c5 ⊢; omega)
   clear c5
   have H' := ah H
   clear H
   go_enter Try.func169, Try.ntmps169
   go_wp2_with (first | ((with_reducible refine bP (f := 181) rfl ?_); refine gU (some 13) Try.func181 #[.slice A0 l0.length c0] ?_; (with_reducible refine (span_Places.calls k _ _ l0 dV fH _ ?dK ?dL A3.out).mono ?_); (case dK => exact Kd.jV HR0.out); (case dL => exact uH.out); rintro e w6 ⟨zD, rfl, ho0, hb⟩; refine ⟨_, rfl, ?_⟩; have jf := ah (Kd.dh ho0 (aQ (bg HB.out))); replace HB := ah (aZ (bg HB.out) hb); (try clear hb); (try clear hb2); (try clear hk); (try clear hi); (try clear ho0); clear A3; obtain ⟨Nl, JH, UA⟩ := Kd.dw jf.out; subst UA))
   go_loopg [8, 28] k (fun kq v8 v28 w' => ∃ (bK : List (gq)) (iF : Int), v28 = .int .i64 iF ∧ aj (pairs_Zip_int64.l0 kq l1 bK dV (dV.length : Int) iF = some (r1, r2)) ∧ aj (kq ≤ k) ∧ aj (Kd.R jB 173 w' w.heap.size (fun _ => True) v8 bK) ∧ aj (Kd.R (Kd.int .i64) 3 w' w.heap.size (fun _ => True) (.slice Nl dV.length JH) dV) ∧ aj (Below w.heap.size w w'))
   case atStart => exact ⟨(([] : List (gq))), (0), (by first | rfl | (simp; done) | (simp [*]; done)), H', ⟨Nat.le_refl _⟩, ⟨by first | exact Kd.eY _ _ _ _ _ | exact Kd.ig _ _ _ _ _ | exact Kd.iq _ _ _ _ _ | exact Kd.gY _ _ _ _ _ | exact Kd.gZ _ _ _ _ _⟩, ⟨by (repeat with_reducible refine Kd.kQ ?_); exact jf.out⟩, ⟨by repeat (first | (with_reducible first | exact HB.out | apply ak | apply ay | apply aH) | exact HB.out)⟩⟩
   case round =>
    clear H'
    try clear c1
    try clear p2
    try clear c4
    try clear c4b0
    try clear c4b1
    try clear c5
    try clear c5b0
    try clear c5b1
    try clear c5b2
    obtain ⟨bK, iF, rfl, HA, jy, HO_8, HO_26, HB⟩ := hrel
    cases gk with
    | zero => exact absurd HA.out (by simp [pairs_Zip_int64.l0])
    | succ k1 =>
     have H := HA.out
     clear HA
     simp only [pairs_Zip_int64.l0] at H
     by_cases c8 : iF < (dV.length : Int)
     ·rw [if_pos c8] at H
      have c8b0 : decide (iF < (dV.length : Int)) = true := ahG c8
      clear c8
      by_cases c9 : 0 ≤ iF
      ·rw [if_pos c9] at H
       have c9b0 : decide (0 ≤ iF) = true := ahG c9
       clear c9
       by_cases c10 : iF < (dV.length : Int)
       ·rw [if_pos c10] at H
        have c10b0 : decide (iF < (dV.length : Int)) = true := ahG c10
        clear c10
        by_cases c11 : iF < (l1.length : Int)
        ·rw [if_pos c11] at H
         have c11b0 : decide (iF < (l1.length : Int)) = true := ahG c11
         clear c11
         by_cases c12 : bK.length < 8796093022208
         ·rw [if_pos c12] at H
          have Rq := ah c12
          clear c12
          obtain ⟨Dz, nI⟩ : ∃ y_ : List (gq), y_ = (bK ++ [(⟨rd dV iF, rd l1 iF⟩ : gq)]) := ⟨_, rfl⟩
          replace H : (pairs_Zip_int64.l0 k1 l1 Dz dV (dV.length : Int) (wrap64 (iF + 1))) = some (r1, r2) := by first | (rw [nI]; with_reducible exact H) | (have jA := (Option.bind_some _ _).symm.trans H; rw [nI]; with_reducible exact jA) | (have jA := (Option.bind_some _ _).symm.trans H; with_reducible exact jA) | with_reducible exact H | (rw [nI]; exact H) | exact H
          have Ei := ah nI
          clear nI
          have H' := ah H
          clear H
          have nN : 0 ≤ (iF : Int) := ahF (by assumption)
          have nO : iF < (dV.length : Int) := ahF (by assumption)
          obtain ⟨Dj, xI, jW⟩ := Kd.gB (Kd.bF HO_26.out).2.2 iF nN nO
          cases xI
          replace nN := eq_true nN
          replace nO := eq_true nO
          have vY : 0 ≤ (iF : Int) := ahF (by assumption)
          have vZ : iF < (l1.length : Int) := ahF (by assumption)
          obtain ⟨JX, IQ, qJ⟩ := Kd.gB HR1.out iF vY vZ
          cases IQ
          replace qJ := (HB.out.cell (World.block_lt_of_cell? w _ qJ)).trans qJ
          replace vY := eq_true vY
          replace vZ := eq_true vZ
          go_wp2_with (first | ((with_reducible refine eG (b := .append) (xs := #[.tmp 33, .tmp 40]) rfl ?_); at_builtin; refine Kd.je jB (w0 := w) w.heap.size rfl (.tmp 33) (.tmp 40) 91 173 (.agg #[(.int .i64 0), (.int .i64 0)]) 16 rfl Try.underlying91 zZ rfl (by decide) (by omega) u8 bK (⟨rd dV iF, rd l1 iF⟩ : gq) [.int .i64 (rd dV iF), .int .i64 (rd l1 iF)] (fun _ => True) (fun _ => False) rfl rfl ?aP (fun _ hk => hk.elim) ?aF ?aO ?aB ?aS ?aL ?_; (case aP => exact lT _ _ _ (⟨rd dV iF, rd l1 iF⟩ : gq)); (case aB => exact (bg HB.out)); (case aF => exact (fun _ _ => trivial)); (case aO => exact (Kd.fJ HO_8.out)); (case aS => exact (aQ (bg HB.out))); (case aL => have := Rq.out; omega); intro Zj Rt ho hb hg hat; rw [← Ei.out] at ho; have fZ := ah (Kd.jG (Kd.fJ HO_26.out) (Kd.jF (Kd.fJ HO_8.out)) (by decide) hg); have Ku := ah (ho); replace HB := ah (hb); clear HO_8 HO_26; have HO_26 := fZ; clear fZ ho hb hg hat))
          go_roundg k1
          case measure => have := jy.out; omega
          case rel => exact ⟨(Dz), (wrap64 (iF + 1)), (by first | rfl | (simp; done) | (simp [*]; done)), H', ⟨by have := jy.out; omega⟩, ⟨by (repeat with_reducible refine Kd.kQ ?_); exact Ku.out⟩, ⟨by (repeat with_reducible refine Kd.kQ ?_); exact HO_26.out⟩, ⟨by repeat (first | (with_reducible first | exact HB.out | apply ak | apply ay | apply aH) | exact HB.out)⟩⟩
         rw [if_neg c12] at H
         exact absurd H (by simp)
        rw [if_neg c11] at H
        exact absurd H (by simp)
       rw [if_neg c10] at H
       exact absurd H (by simp)
      rw [if_neg c9] at H
      exact absurd H (by simp)
     rw [if_neg c8] at H
     have c8b0 : decide (iF < (dV.length : Int)) = false := ahH c8
     clear c8
     simp only [Option.some.injEq, Prod.mk.injEq] at H
     obtain ⟨rfl, rfl⟩ := H
     go_wp2
     go_ret2
     exact ⟨_, by first | rfl | (simp [aU, aV] <;> rfl) | (simp [*, aU, aV] <;> rfl), by (repeat with_reducible refine Kd.kQ ?_); exact HO_8.out, by repeat (first | (with_reducible first | exact HB.out | apply ak | apply ay | apply aH) | exact HB.out)⟩
  rw [if_neg c5] at H
  have c5b0 : ((dV.length : Int) == (l1.length : Int)) = false := beq_eq_false_iff_ne.mpr c5
  have c5b1 : ((dV.length : Int) != (l1.length : Int)) = true := bne_iff_ne.mpr c5
  have c5b2 : (dV.length == l1.length) = false := by first | simpa using c5 | (simp at c5 ⊢; omega)
  simp only [Option.some.injEq, Prod.mk.injEq] at H
  obtain ⟨rfl, rfl⟩ := H
  go_enter Try.func169, Try.ntmps169
  go_wp2_with (first | ((with_reducible refine bP (f := 181) rfl ?_); refine gU (some 13) Try.func181 #[.slice A0 l0.length c0] ?_; (with_reducible refine (span_Places.calls k _ _ l0 dV fH _ ?dK ?dL A3.out).mono ?_); (case dK => exact Kd.jV HR0.out); (case dL => exact uH.out); rintro e Zk ⟨zD, rfl, ho0, hb⟩; refine ⟨_, rfl, ?_⟩; have jf := ah (Kd.dh ho0 (aQ (bg HB.out))); replace HB := ah (aZ (bg HB.out) hb); (try clear hb); (try clear hb2); (try clear hk); (try clear hi); (try clear ho0); clear A3; obtain ⟨acT, YO, Pv⟩ := Kd.dw jf.out; subst Pv))
  go_ret2
  exact ⟨_, by first | rfl | (simp [aU, aV] <;> rfl) | (simp [*, aU, aV] <;> rfl), by first | exact Kd.eY _ _ _ _ _ | exact Kd.ig _ _ _ _ _ | exact Kd.iq _ _ _ _ _ | exact Kd.gY _ _ _ _ _ | exact Kd.gZ _ _ _ _ _, by repeat (first | (with_reducible first | exact HB.out | apply ak | apply ay | apply aH) | exact HB.out)⟩
 rw [if_neg c4] at H
 have c4b0 : (fH == 0) = false := beq_eq_false_iff_ne.mpr c4
 have c4b1 : (fH != 0) = true := bne_iff_ne.mpr c4
 simp only [Option.some.injEq, Prod.mk.injEq] at H
 obtain ⟨rfl, rfl⟩ := H
 go_enter Try.func169, Try.ntmps169
 go_wp2_with (first | ((with_reducible refine bP (f := 181) rfl ?_); refine gU (some 13) Try.func181 #[.slice A0 l0.length c0] ?_; (with_reducible refine (span_Places.calls k _ _ l0 dV fH _ ?dK ?dL A3.out).mono ?_); (case dK => exact Kd.jV HR0.out); (case dL => exact uH.out); rintro e w16 ⟨zD, rfl, ho0, hb⟩; refine ⟨_, rfl, ?_⟩; have jf := ah (Kd.dh ho0 (aQ (bg HB.out))); replace HB := ah (aZ (bg HB.out) hb); (try clear hb); (try clear hb2); (try clear hk); (try clear hi); (try clear ho0); clear A3))
 go_ret2
 exact ⟨_, by first | rfl | (simp [aU, aV] <;> rfl) | (simp [*, aU, aV] <;> rfl), by first | exact Kd.eY _ _ _ _ _ | exact Kd.ig _ _ _ _ _ | exact Kd.iq _ _ _ _ _ | exact Kd.gY _ _ _ _ _ | exact Kd.gZ _ _ _ _ _, by repeat (first | (with_reducible first | exact HB.out | apply ak | apply ay | apply aH) | exact HB.out)⟩
def pairs_Unzip_int64.l0 : Nat → List Int → List Int → List (gq) → Int → Int → Option ((List (dQ)) × List Int × Int)
 | 0, _, _, _, _, _ => none
 | k + 1, x5, x6, x11, x12, wE => if wE < x12 then (if 0 ≤ wE then (if wE < (x11.length : Int) then ((some (([(aX x11 wE).f0] : List Int) : List Int)).bind fun gy => (if x5.length + gy.length < 17592186044416 then ((some (([(aX x11 wE).f1] : List Int) : List Int)).bind fun lV => (if x6.length + lV.length < 17592186044416 then (pairs_Unzip_int64.l0 k (x5 ++ gy) (x6 ++ lV) x11 x12 (wrap64 (wE + 1))) else (none))) else (none))) else (none)) else (none)) else ((span_From.f k x5).bind fun Ep => (if Ep.2 = 0 then (some (Ep.1, x6, 0)) else (some (([] : List (dQ)), ([] : List Int), Ep.2))))
def pairs_Unzip_int64.f (k : Nat) (l0 : List (gq)) : Option ((List (dQ)) × List Int × Int) := pairs_Unzip_int64.l0 k ([] : List Int) ([] : List Int) l0 (l0.length : Int) 0
def pairs_Unzip_int64.T6 : Bool × List (List Nat × List Nat) := (true, [([], []), ([], []), ([1], [1]), ([2], [2]), ([0, 3], [0, 3]), ([], []), ([], []), ([6], [6]), ([7], [7]), ([5, 8, 4], [5, 8]), ([4, 9, 0, 1, 2, 3, 4], [0, 4]), ([9, 10, 0, 1, 2, 3, 4, 5, 6, 7, 8, 9, 10], [5, 9])])
def pairs_Unzip_int64.B6 : List Nat := [0, 0, 2, 6, 15, 0, 0, 64, 192, 511, 1023, 2047]
theorem pairs_Unzip_int64.tab6 : ru .any (opsOf Try.f162 6) = pairs_Unzip_int64.T6 := by kernel_rfl
theorem pairs_Unzip_int64.Hg : qG pairs_Unzip_int64.T6.2 pairs_Unzip_int64.B6 = true := by kernel_rfl
set_option maxHeartbeats 8000000 in
set_option maxRecDepth 100000 in
theorem pairs_Unzip_int64.calls (k : Nat) (A0 : Option Addr) (c0 : Nat) (l0 : List (gq)) (r1 : List (dQ)) (r2 : List Int) (r3 : Int) (w : World) (hr0 : Kd.C jB w A0 l0.length l0) (hc0 : l0.length ≤ c0) (h : pairs_Unzip_int64.f k l0 = some (r1, r2, r3)) :
  Calls Try.prog 162 #[.slice A0 l0.length c0] w fun e w' => ∃ mW Np : Value, e = .returned (.tuple #[mW, Np, .int .i64 r3]) ∧ Kd.R jq 113 w' w.heap.size (fun _ => True) mW r1 ∧ Kd.R (Kd.int .i64) 2 w' w.heap.size (fun _ => True) Np r2 ∧ Below w.heap.size w w' := by
 have Ro := Try.underlying173
 have HR0 := ah hr0
 have uH := ah hc0
 clear hr0 hc0
 have HB := ah (Below.refl w.heap.size w)
 have H : (pairs_Unzip_int64.l0 k ([] : List Int) ([] : List Int) l0 (l0.length : Int) 0) = some (r1, r2, r3) := h
 clear h
 have H' := ah H
 clear H
 go_enter Try.func162, Try.ntmps162
 go_wp2
 go_loopg [5, 6, 13] k (fun kq v5 v6 v13 w' => ∃ (bG : List Int) (fP : List Int) (bH : Int), v13 = .int .i64 bH ∧ aj (pairs_Unzip_int64.l0 kq bG fP l0 (l0.length : Int) bH = some (r1, r2, r3)) ∧ aj (kq ≤ k) ∧ aj (Kd.R (Kd.int .i64) 3 w' w.heap.size (fun _ => True) v5 bG) ∧ aj (Kd.R (Kd.int .i64) 2 w' w.heap.size (fun _ => True) v6 fP) ∧ aj (Below w.heap.size w w'))
 case atStart => exact ⟨(([] : List Int)), (([] : List Int)), (0), (by first | rfl | (simp; done) | (simp [*]; done)), H', ⟨Nat.le_refl _⟩, ⟨by first | exact Kd.eY _ _ _ _ _ | exact Kd.ig _ _ _ _ _ | exact Kd.iq _ _ _ _ _ | exact Kd.gY _ _ _ _ _ | exact Kd.gZ _ _ _ _ _⟩, ⟨by first | exact Kd.eY _ _ _ _ _ | exact Kd.ig _ _ _ _ _ | exact Kd.iq _ _ _ _ _ | exact Kd.gY _ _ _ _ _ | exact Kd.gZ _ _ _ _ _⟩, ⟨by repeat (first | (with_reducible first | exact HB.out | apply ak | apply ay | apply aH) | exact HB.out)⟩⟩
 case round =>
  clear H'
  try clear c1
  obtain ⟨bG, fP, bH, rfl, HA, jy, HO_5, HO_6, HB⟩ := hrel
  cases gk with
  | zero => exact absurd HA.out (by simp [pairs_Unzip_int64.l0])
  | succ k1 =>
   have H := HA.out
   clear HA
   simp only [pairs_Unzip_int64.l0] at H
   by_cases c2 : bH < (l0.length : Int)
   ·rw [if_pos c2] at H
    have c2b0 : decide (bH < (l0.length : Int)) = true := ahG c2
    clear c2
    by_cases c3 : 0 ≤ bH
    ·rw [if_pos c3] at H
     have c3b0 : decide (0 ≤ bH) = true := ahG c3
     clear c3
     by_cases c4 : bH < (l0.length : Int)
     ·rw [if_pos c4] at H
      have c4b0 : decide (bH < (l0.length : Int)) = true := ahG c4
      clear c4
      obtain ⟨gy, jY⟩ : ∃ y_ : List Int, y_ = (([(aX l0 bH).f0] : List Int)) := ⟨_, rfl⟩
      replace H : (if bG.length + gy.length < 17592186044416 then ((some (([(aX l0 bH).f1] : List Int) : List Int)).bind fun lV => (if fP.length + lV.length < 17592186044416 then (pairs_Unzip_int64.l0 k1 (bG ++ gy) (fP ++ lV) l0 (l0.length : Int) (wrap64 (bH + 1))) else (none))) else (none)) = some (r1, r2, r3) := by first | (rw [jY]; with_reducible exact H) | (have jA := (Option.bind_some _ _).symm.trans H; rw [jY]; with_reducible exact jA) | (have jA := (Option.bind_some _ _).symm.trans H; with_reducible exact jA) | with_reducible exact H | (rw [jY]; exact H) | exact H
      have sN := ah jY
      clear jY
      by_cases c5 : bG.length + gy.length < 17592186044416
      ·rw [if_pos c5] at H
       have Es := ah c5
       clear c5
       obtain ⟨xJ, sQ⟩ : ∃ y_ : List Int, y_ = (bG ++ gy) := ⟨_, rfl⟩
       replace H : ((some (([(aX l0 bH).f1] : List Int) : List Int)).bind fun lV => (if fP.length + lV.length < 17592186044416 then (pairs_Unzip_int64.l0 k1 xJ (fP ++ lV) l0 (l0.length : Int) (wrap64 (bH + 1))) else (none))) = some (r1, r2, r3) := by first | (rw [sQ]; with_reducible exact H) | (have jA := (Option.bind_some _ _).symm.trans H; rw [sQ]; with_reducible exact jA) | (have jA := (Option.bind_some _ _).symm.trans H; with_reducible exact jA) | with_reducible exact H | (rw [sQ]; exact H) | exact H
       have AL := ah sQ
       clear sQ
       obtain ⟨lV, nP⟩ : ∃ y_ : List Int, y_ = (([(aX l0 bH).f1] : List Int)) := ⟨_, rfl⟩
       replace H : (if fP.length + lV.length < 17592186044416 then (pairs_Unzip_int64.l0 k1 xJ (fP ++ lV) l0 (l0.length : Int) (wrap64 (bH + 1))) else (none)) = some (r1, r2, r3) := by first | (rw [nP]; with_reducible exact H) | (have jA := (Option.bind_some _ _).symm.trans H; rw [nP]; with_reducible exact jA) | (have jA := (Option.bind_some _ _).symm.trans H; with_reducible exact jA) | with_reducible exact H | (rw [nP]; exact H) | exact H
       have pF := ah nP
       clear nP
       by_cases c6 : fP.length + lV.length < 17592186044416
       ·rw [if_pos c6] at H
        have WX := ah c6
        clear c6
        obtain ⟨y112, hy112⟩ : ∃ y_ : List Int, y_ = (fP ++ lV) := ⟨_, rfl⟩
        replace H : (pairs_Unzip_int64.l0 k1 xJ y112 l0 (l0.length : Int) (wrap64 (bH + 1))) = some (r1, r2, r3) := by first | (rw [hy112]; with_reducible exact H) | (have jA := (Option.bind_some _ _).symm.trans H; rw [hy112]; with_reducible exact jA) | (have jA := (Option.bind_some _ _).symm.trans H; with_reducible exact jA) | with_reducible exact H | (rw [hy112]; exact H) | exact H
        have JZ := ah hy112
        clear hy112
        have H' := ah H
        clear H
        have fC : 0 ≤ (bH : Int) := ahF (by assumption)
        have fD : bH < (l0.length : Int) := ahF (by assumption)
        obtain ⟨kE, jM, bW, dS⟩ := qH HR0.out bH fC fD
        cases jM
        replace bW := (HB.out.cell (World.block_lt_of_cell? w _ bW)).trans bW
        replace dS := (HB.out.cell (World.block_lt_of_cell? w _ dS)).trans dS
        replace fC := eq_true fC
        replace fD := eq_true fD
        try go_wp2_with (first | ((with_reducible refine fK (N := 8) rfl ?_); refine fA ?hg (N := 8) ?hd (cs := #[.int .i64 0, .int .i64 0]) (t := 173) ?hr ?_; (case hd => rfl); (case hg => rfl); (case hr => first | (go_simp; done) | (go_simp; rfl)); intro aI hg w7 hbox hb; have aJ := ah (hbox); have oN := ah ((by rw [hg]; exact (aQ (bg HB.out)) : w.heap.size ≤ aI)); have bU := ah ((by rw [hg]; exact (aQ (bg HB.out)) : w.heap.size ≤ aI)); replace HO_5 := ah (Kd.lu HO_5.out hb); replace HO_6 := ah (Kd.lu HO_6.out hb); replace HB := ah (aZ (bg HB.out) hb); clear hb hbox hg; have Ru := au aJ.out; have Rw := aC aJ.out; obtain ⟨JI, Jc, Rx⟩ := Kd.dw HO_5.out; subst Rx; obtain ⟨tK, tN, Kv⟩ := Kd.dw HO_6.out; subst Kv))
        have fZ : aj (Kd.R (Kd.int .i64) 3 ((w7.setCell ⟨aI, 0, none⟩ (.int .i64 ((aX l0 bH).f0))).setCell ⟨aI, 1, none⟩ (.int .i64 ((aX l0 bH).f1))) w.heap.size (fun _ => True) (.slice JI bG.length Jc) bG) := ⟨by (repeat with_reducible refine Kd.kQ ?_); exact Kd.bZ (Kd.cu (p := ⟨aI, 1, none⟩) (Kd.cu (p := ⟨aI, 0, none⟩) (Kd.iH HO_5.out aJ.out (by decide)) (fun _ hk => hk.2) (.int .i64 ((aX l0 bH).f0))) (fun _ hk => hk.2) (.int .i64 ((aX l0 bH).f1))) (fun _ hk => trivial)⟩
        have gG : aj (Kd.R (Kd.int .i64) 2 ((w7.setCell ⟨aI, 0, none⟩ (.int .i64 ((aX l0 bH).f0))).setCell ⟨aI, 1, none⟩ (.int .i64 ((aX l0 bH).f1))) w.heap.size (fun _ => True) (.slice tK fP.length tN) fP) := ⟨by (repeat with_reducible refine Kd.kQ ?_); exact Kd.bZ (Kd.cu (p := ⟨aI, 1, none⟩) (Kd.cu (p := ⟨aI, 0, none⟩) (Kd.iH HO_6.out aJ.out (by decide)) (fun _ hk => hk.2) (.int .i64 ((aX l0 bH).f0))) (fun _ hk => hk.2) (.int .i64 ((aX l0 bH).f1))) (fun _ hk => trivial)⟩
        have iC : aj (((w7.setCell ⟨aI, 0, none⟩ (.int .i64 ((aX l0 bH).f0))).setCell ⟨aI, 1, none⟩ (.int .i64 ((aX l0 bH).f1))).heap[aI]? = some (.cells #[.int .i64 ((aX l0 bH).f0), .int .i64 ((aX l0 bH).f1)] 173 (0, 0))) := ⟨by (repeat with_reducible refine bQ ?_); refine bC (cs := #[.int .i64 ((aX l0 bH).f0), .int .i64 0]) ?_ 1 _ rfl; (repeat with_reducible refine bQ ?_); refine bC (cs := #[.int .i64 0, .int .i64 0]) ?_ 0 _ rfl; (repeat with_reducible refine bQ ?_); exact aJ.out⟩
        have jg : aj (Below w.heap.size w ((w7.setCell ⟨aI, 0, none⟩ (.int .i64 ((aX l0 bH).f0))).setCell ⟨aI, 1, none⟩ (.int .i64 ((aX l0 bH).f1)))) := ⟨by repeat (first | (with_reducible first | exact HB.out | apply ak | apply ay | apply aH | refine aA ?_ bU.out) | exact HB.out)⟩
        (try clear HO_5)
        (try clear HO_6)
        (try clear aJ)
        (try clear HB)
        generalize ((w7.setCell ⟨aI, 0, none⟩ (.int .i64 ((aX l0 bH).f0))).setCell ⟨aI, 1, none⟩ (.int .i64 ((aX l0 bH).f1))) = VF at fZ gG iC jg ⊢
        have HO_5 := fZ
        have HO_6 := gG
        have aJ := iC
        have HB := jg
        clear fZ gG iC jg
        have fZ := ah (Kd.qB HO_5.out)
        have gG := ah (Kd.qB HO_6.out)
        have iC := ah (kP aJ.out)
        have jg := ah (aH HB.out)
        clear HO_5
        clear HO_6
        clear aJ
        clear HB
        have HO_5 := fZ
        have HO_6 := gG
        have aJ := iC
        have HB := jg
        clear fZ gG iC jg
        refine uX (n := 12) (S := fun w' => w'.cell? ⟨aI, 0, none⟩ = some (.int .i64 ((aX l0 bH).f0)) ∧ w'.cell? ⟨aI, 1, none⟩ = some (.int .i64 ((aX l0 bH).f1))) (ds := []) #[false, false, false, false, false, false, false, false, false, false, false, false] (by kernel_rfl) rfl rfl ⟨(au aJ.out 0).trans rfl, (au aJ.out 1).trans rfl⟩ (fun hHeld => ?_); refine mQ pairs_Unzip_int64.tab6 pairs_Unzip_int64.Hg (fun HT_ HW_ => ?_)
        generalize VF.drew = w12 at HO_5 HO_6 aJ HB hHeld ⊢
        refine dX (i := 0) (N := some 17) (v := ?_) (a' := ?_) #[true, false, false, false, false, false, false, false, false, false, false, false] rfl rfl (dD HT_.out (by kernel_rfl)) (fun _ _ _ h => h) (Or.inl ⟨by rfl, ?_⟩) ?_ ?_
        rotate_left
        ·intro w'
         go_simp
         with_reducible rfl
        rotate_left
        ·simp only [Act.put, List.setIfInBounds_toArray, List.set_cons_zero, List.set_cons_succ, bI, bM]
         rfl
        refine dX (i := 1) (N := some 18) (v := ?_) (a' := ?_) #[true, true, false, false, false, false, false, false, false, false, false, false] rfl rfl (dD HT_.out (by kernel_rfl)) (fun _ _ _ h => h) (Or.inl ⟨by rfl, ?_⟩) ?_ ?_
        rotate_left
        ·intro w'
         go_simp
         with_reducible rfl
        rotate_left
        ·simp only [Act.put, List.setIfInBounds_toArray, List.set_cons_zero, List.set_cons_succ, bI, bM]
         rfl
        refine dX (i := 5) (N := some 22) (v := ?_) (a' := ?_) #[true, true, false, false, false, true, false, false, false, false, false, false] rfl rfl (dD HT_.out (by kernel_rfl)) (fun _ _ _ h => h) (Or.inl ⟨by rfl, ?_⟩) ?_ ?_
        rotate_left
        ·intro w'
         go_simp
         with_reducible rfl
        rotate_left
        ·simp only [Act.put, List.setIfInBounds_toArray, List.set_cons_zero, List.set_cons_succ, bI, bM]
         rfl
        refine dX (i := 6) (N := some 23) (v := ?_) (a' := ?_) #[true, true, false, false, false, true, true, false, false, false, false, false] rfl rfl (dD HT_.out (by kernel_rfl)) (fun _ _ _ h => h) (Or.inl ⟨by rfl, ?_⟩) ?_ ?_
        rotate_left
        ·intro w'
         go_simp
         with_reducible rfl
        rotate_left
        ·simp only [Act.put, List.setIfInBounds_toArray, List.set_cons_zero, List.set_cons_succ, bI, bM]
         rfl
        refine jT (i := 2) (N := some 19) (v := ?_) (a' := ?_) #[true, true, true, false, false, true, true, false, false, false, false, false] rfl rfl (fM HT_.out HW_.out (by kernel_rfl)) (fun _ _ _ h => h) (Or.inl ⟨by rfl, ?_⟩) hHeld ?_ ?_
        rotate_left
        ·rintro w' ⟨s0, s1⟩
         go_simp
         with_reducible rfl
        rotate_left
        ·simp only [Act.put, List.setIfInBounds_toArray, List.set_cons_zero, List.set_cons_succ, bI, bM]
         rfl
        refine jT (i := 7) (N := some 24) (v := ?_) (a' := ?_) #[true, true, true, false, false, true, true, true, false, false, false, false] rfl rfl (fM HT_.out HW_.out (by kernel_rfl)) (fun _ _ _ h => h) (Or.inl ⟨by rfl, ?_⟩) hHeld ?_ ?_
        rotate_left
        ·rintro w' ⟨s0, s1⟩
         go_simp
         with_reducible rfl
        rotate_left
        ·simp only [Act.put, List.setIfInBounds_toArray, List.set_cons_zero, List.set_cons_succ, bI, bM]
         rfl
        refine Vl (σ := Value × Value × Value) 3 #[true, true, true, true, true, true, true, true, true, false, false, false] (fun s_ => [(20, s_.1), (21, s_.2.1), (25, s_.2.2)]) (fun s_ w' => (w'.cell? ⟨aI, 0, none⟩ = some (.int .i64 ((aX l0 bH).f0)) ∧ w'.cell? ⟨aI, 1, none⟩ = some (.int .i64 ((aX l0 bH).f1))) ∧ (Kd.R (Kd.int .i64) 3 w' w.heap.size (fun k_ => some k_ ≠ (s_.2.1 : Value).ownBlock) s_.1 gy) ∧ (Kd.R (Kd.int .i64) 3 w' w.heap.size (fun k_ => some k_ ≠ (s_.1 : Value).ownBlock) s_.2.1 xJ) ∧ (Kd.R (Kd.int .i64) 2 w' w.heap.size (fun k_ => some k_ ≠ (.slice tK fP.length tN : Value).ownBlock) s_.2.2 lV) ∧ (Kd.R (Kd.int .i64) 2 w' w.heap.size (fun k_ => some k_ ≠ (s_.2.2 : Value).ownBlock) (.slice tK fP.length tN) fP) ∧ (w'.heap[aI]? = some (.cells #[.int .i64 ((aX l0 bH).f0), .int .i64 ((aX l0 bH).f1)] 173 (0, 0))) ∧ (Below w.heap.size w w')) ?_ ?_
        rotate_left
        ·intro hCont
         refine TY (i := 3) (j := 8) (Ni := some 20) (Nj := some 25) #[true, true, true, true, false, true, true, true, false, false, false, false] #[true, true, true, false, false, true, true, true, true, false, false, false] rfl rfl rfl rfl (IG HT_.out (by kernel_rfl)) (by decide) (by decide) (fun K hK => ?_) (fun K hK => ?_)
         ·skip
          refine Kd.lF (Kd.int .i64) _ 3 ?hg (N := 20) ?hd (xs := ([(aX l0 bH).f0] : List Int)) (inner := [.int .i64 ((aX l0 bH).f0)]) (ok := fun _ => True) (okp := fun _ => True) ?hr ?hp (fun _ hk => hk) trivial (Below.refl _ _) (Nat.le_refl _) (by simp) ?_; (case hd => rfl); (case hg => rfl); (case hr => first | (go_simp; done) | (go_simp; rfl)); (case hp => exact (jl.one (show Kd.M (Kd.int .i64) _ _ _ ((aX l0 bH).f0) [.int .i64 ((aX l0 bH).f0)] from rfl) (jl.none _ _)))
          intro xH Rt rW hb hg_ hnew_
          clear hg_ hnew_
          (first | rw [← sN.out] at rW | (simp only [Int.reduceToNat] at rW; rw [← sN.out] at rW))
          have fZ := ah (Kd.fV (Kd.fJ HO_5.out) (Kd.iI rW) hb)
          have gG := ah (Kd.lu HO_6.out hb)
          have iC := ah (Kd.dh (Kd.jh rW (Kd.kW (Kd.fJ HO_5.out))) (aQ (by repeat (first | (with_reducible first | exact HB.out | refine bJ ?_ | refine aA ?_ bU.out) | exact HB.out))))
          have jg := ah (eH aJ.out hb)
          have kF := ah (aZ (by repeat (first | (with_reducible first | exact HB.out | refine bJ ?_ | refine aA ?_ bU.out) | exact HB.out)) hb)
          clear HO_5
          clear HO_6
          clear aJ
          clear HB
          have HO_5 := fZ
          have HO_6 := gG
          have eF := iC
          have aJ := jg
          have HB := kF
          clear fZ gG iC jg kF
          clear hb rW
          obtain ⟨Nq, Kw, Jd⟩ := Kd.dw eF.out
          (first | subst Jd | (injection Jd with pG uY pI; have uZ := pG.symm; have vg := pI.symm; clear pG uY pI; subst uZ; subst vg))
          refine hK.out _ _ ⟨(au aJ.out 0).trans rfl, (au aJ.out 1).trans rfl⟩ (fun hHeld => ?_)
          clear hK K
          refine jo (a' := ?_) ?_ ?_
          rotate_left
          ·show Act.put _ (some 20) _ = _
           simp only [Act.put, List.setIfInBounds_toArray, List.set_cons_zero, List.set_cons_succ, bI, bM]
           rfl
          refine TY (i := 4) (j := 8) (Ni := some 21) (Nj := some 25) #[true, true, true, true, true, true, true, true, false, false, false, false] #[true, true, true, true, false, true, true, true, true, false, false, false] rfl rfl rfl rfl (IG HT_.out (by kernel_rfl)) (by decide) (by decide) (fun K hK => ?_) (fun K hK => ?_)
          ·skip
           refine Kd.ji (Kd.int .i64) (w0 := w) w.heap.size (by rfl) (.tmp 17) (.tmp 20) 30 3 (.int .i64 0) 8 rfl Try.underlying30 info3 rfl (by decide) (by omega) (.slice JI bG.length Jc) bG gy _ _ _ (fun k_ => some k_ ≠ (.slice Nq gy.length Kw : Value).ownBlock) (fun _ => False) rfl rfl ?aO ?aR (fun _ _ h => h) (fun _ h => h.elim) ?aF ?aB ?aS ?aL ?_
           (case aR => exact Kd.jV (Kd.bF eF.out).2.2)
           (case aB => exact (by repeat (first | (with_reducible first | exact HB.out | refine bJ ?_ | refine aA ?_ bU.out) | exact HB.out)))
           (case aF => exact (fun k_ hk => Kd.fresh' (Kd.kW (Kd.fJ eF.out)) k_ hk))
           (case aO => exact (Kd.fJ (Kd.bZ HO_5.out (fun _ hk => hk.2))))
           (case aS => exact (aQ (by repeat (first | (with_reducible first | exact HB.out | refine bJ ?_ | refine aA ?_ bU.out) | exact HB.out))))
           (case aL => have := Es.out; omega)
           intro v107 DF ho hb hg hat
           rw [← AL.out] at ho
           have fZ := ah (Kd.jG (Kd.fJ HO_6.out) (Kd.jF (Kd.fJ HO_5.out)) (by decide) hg)
           have gG := ah (jc (g := aI) (o := .cells #[.int .i64 ((aX l0 bH).f0), .int .i64 ((aX l0 bH).f1)] 173 (0, 0)) (jJ aJ.out) hg (Kd.BI HO_5.out aJ.out (by decide)))
           have iC := ah (Kd.qA (ok := (fun _ => True)) (Kd.fJ eF.out) hg hat)
           have jg := ah (hb)
           have kF := ah (ho)
           clear HO_6
           clear aJ
           clear eF
           clear HB
           clear HO_5
           have HO_6 := fZ
           have aJ := gG
           have eF := iC
           have HB := jg
           have iQ := kF
           clear fZ gG iC jg kF
           clear ho hb hg hat
           refine hK.out _ _ ⟨(au aJ.out 0).trans rfl, (au aJ.out 1).trans rfl⟩ (fun hHeld => ?_)
           clear hK K
           refine jo (a' := ?_) ?_ ?_
           rotate_left
           ·show Act.put _ (some 21) _ = _
            simp only [Act.put, List.setIfInBounds_toArray, List.set_cons_zero, List.set_cons_succ, bI, bM]
            rfl
           refine o9 (i := 8) (N := some 25) #[true, true, true, true, true, true, true, true, true, false, false, false] rfl rfl (jD HT_.out (by kernel_rfl)) (by decide) (fun K hK => ?_)
           refine Kd.lF (Kd.int .i64) _ 2 ?hg (N := 25) ?hd (xs := ([(aX l0 bH).f1] : List Int)) (inner := [.int .i64 ((aX l0 bH).f1)]) (ok := fun _ => True) (okp := fun _ => True) ?hr ?hp (fun _ hk => hk) trivial (Below.refl _ _) (Nat.le_refl _) (by simp) ?_; (case hd => rfl); (case hg => rfl); (case hr => first | (go_simp; done) | (go_simp; rfl)); (case hp => exact (jl.one (show Kd.M (Kd.int .i64) _ _ _ ((aX l0 bH).f1) [.int .i64 ((aX l0 bH).f1)] from rfl) (jl.none _ _)))
           intro qw VG BX hb hg_ hnew_
           clear hg_ hnew_
           (first | rw [← pF.out] at BX | (simp only [Int.reduceToNat] at BX; rw [← pF.out] at BX))
           have fZ := ah (Kd.fV (Kd.fJ HO_6.out) (Kd.iI BX) hb)
           have gG := ah (Kd.lu eF.out hb)
           have iC := ah (Kd.lu iQ.out hb)
           have jg := ah (Kd.dh (Kd.jh BX (Kd.kW (Kd.fJ HO_6.out))) (aQ (by repeat (first | (with_reducible first | exact HB.out | refine bJ ?_ | refine aA ?_ bU.out) | exact HB.out))))
           have kF := ah (eH aJ.out hb)
           have mJ := ah (aZ (by repeat (first | (with_reducible first | exact HB.out | refine bJ ?_ | refine aA ?_ bU.out) | exact HB.out)) hb)
           clear HO_6
           clear eF
           clear iQ
           clear aJ
           clear HB
           have HO_6 := fZ
           have eF := gG
           have iQ := iC
           have eu := jg
           have aJ := kF
           have HB := mJ
           clear fZ gG iC jg kF mJ
           clear hb BX
           refine hK.out _ _ ⟨(au aJ.out 0).trans rfl, (au aJ.out 1).trans rfl⟩ (fun hHeld => ?_)
           clear hK K
           refine jo (a' := ?_) ?_ ?_
           rotate_left
           ·show Act.put _ (some 25) _ = _
            simp only [Act.put, List.setIfInBounds_toArray, List.set_cons_zero, List.set_cons_succ, bI, bM]
            rfl
           exact jo (by simp only [tZ, Act.put, List.setIfInBounds_toArray, List.set_cons_zero, List.set_cons_succ]) (hCont (.slice Nq gy.length Kw, v107, qw) _ ⟨hHeld, (Kd.fJ (Kd.bZ eF.out (fun _ hk => hk.2))), (Kd.fJ iQ.out), (Kd.fJ (Kd.bZ eu.out (fun _ hk => hk.2))), (Kd.fJ (Kd.bZ HO_6.out (fun _ hk => hk.2))), (jJ aJ.out), (by repeat (first | (with_reducible first | exact HB.out | refine bJ ?_ | refine aA ?_ bU.out) | exact HB.out))⟩)
          skip
          refine Kd.lF (Kd.int .i64) _ 2 ?hg (N := 25) ?hd (xs := ([(aX l0 bH).f1] : List Int)) (inner := [.int .i64 ((aX l0 bH).f1)]) (ok := fun _ => True) (okp := fun _ => True) ?hr ?hp (fun _ hk => hk) trivial (Below.refl _ _) (Nat.le_refl _) (by simp) ?_; (case hd => rfl); (case hg => rfl); (case hr => first | (go_simp; done) | (go_simp; rfl)); (case hp => exact (jl.one (show Kd.M (Kd.int .i64) _ _ _ ((aX l0 bH).f1) [.int .i64 ((aX l0 bH).f1)] from rfl) (jl.none _ _)))
          intro qw DF rX hb hg_ hnew_
          clear hg_ hnew_
          (first | rw [← pF.out] at rX | (simp only [Int.reduceToNat] at rX; rw [← pF.out] at rX))
          have fZ := ah (Kd.lu HO_5.out hb)
          have gG := ah (Kd.fV (Kd.fJ HO_6.out) (Kd.iI rX) hb)
          have iC := ah (Kd.lu eF.out hb)
          have jg := ah (Kd.dh (Kd.jh rX (Kd.kW (Kd.fJ HO_6.out))) (aQ (by repeat (first | (with_reducible first | exact HB.out | refine bJ ?_ | refine aA ?_ bU.out) | exact HB.out))))
          have kF := ah (eH aJ.out hb)
          have mJ := ah (aZ (by repeat (first | (with_reducible first | exact HB.out | refine bJ ?_ | refine aA ?_ bU.out) | exact HB.out)) hb)
          clear HO_5
          clear HO_6
          clear eF
          clear aJ
          clear HB
          have HO_5 := fZ
          have HO_6 := gG
          have eF := iC
          have eu := jg
          have aJ := kF
          have HB := mJ
          clear fZ gG iC jg kF mJ
          clear hb rX
          obtain ⟨Et, Eu, Ew⟩ := Kd.dw eF.out
          (first | subst Ew | (injection Ew with pG uY pI; have uZ := pG.symm; have vg := pI.symm; clear pG uY pI; subst uZ; subst vg))
          refine hK.out _ _ ⟨(au aJ.out 0).trans rfl, (au aJ.out 1).trans rfl⟩ (fun hHeld => ?_)
          clear hK K
          refine jo (a' := ?_) ?_ ?_
          rotate_left
          ·show Act.put _ (some 25) _ = _
           simp only [Act.put, List.setIfInBounds_toArray, List.set_cons_zero, List.set_cons_succ, bI, bM]
           rfl
          refine o9 (i := 4) (N := some 21) #[true, true, true, true, true, true, true, true, true, false, false, false] rfl rfl (jD HT_.out (by kernel_rfl)) (by decide) (fun K hK => ?_)
          refine Kd.ji (Kd.int .i64) (w0 := w) w.heap.size (by rfl) (.tmp 17) (.tmp 20) 30 3 (.int .i64 0) 8 rfl Try.underlying30 info3 rfl (by decide) (by omega) (.slice JI bG.length Jc) bG gy _ _ _ (fun k_ => some k_ ≠ (.slice Et gy.length Eu : Value).ownBlock) (fun _ => False) rfl rfl ?aO ?aR (fun _ _ h => h) (fun _ h => h.elim) ?aF ?aB ?aS ?aL ?_
          (case aR => exact Kd.jV (Kd.bF eF.out).2.2)
          (case aB => exact (by repeat (first | (with_reducible first | exact HB.out | refine bJ ?_ | refine aA ?_ bU.out) | exact HB.out)))
          (case aF => exact (fun k_ hk => Kd.fresh' (Kd.kW (Kd.fJ eF.out)) k_ hk))
          (case aO => exact (Kd.fJ (Kd.bZ HO_5.out (fun _ hk => hk.2))))
          (case aS => exact (aQ (by repeat (first | (with_reducible first | exact HB.out | refine bJ ?_ | refine aA ?_ bU.out) | exact HB.out))))
          (case aL => have := Es.out; omega)
          intro v107 VG ho hb hg hat
          rw [← AL.out] at ho
          have fZ := ah (Kd.jG (Kd.fJ HO_6.out) (Kd.jF (Kd.fJ HO_5.out)) (by decide) hg)
          have gG := ah (jc (g := aI) (o := .cells #[.int .i64 ((aX l0 bH).f0), .int .i64 ((aX l0 bH).f1)] 173 (0, 0)) (jJ aJ.out) hg (Kd.BI HO_5.out aJ.out (by decide)))
          have iC := ah (Kd.qA (ok := (fun _ => True)) (Kd.fJ eF.out) hg hat)
          have jg := ah (Kd.jG (Kd.fJ eu.out) (Kd.jF (Kd.fJ HO_5.out)) (by decide) hg)
          have kF := ah (hb)
          have mJ := ah (ho)
          clear HO_6
          clear aJ
          clear eF
          clear eu
          clear HB
          clear HO_5
          have HO_6 := fZ
          have aJ := gG
          have eF := iC
          have eu := jg
          have HB := kF
          have iQ := mJ
          clear fZ gG iC jg kF mJ
          clear ho hb hg hat
          refine hK.out _ _ ⟨(au aJ.out 0).trans rfl, (au aJ.out 1).trans rfl⟩ (fun hHeld => ?_)
          clear hK K
          refine jo (a' := ?_) ?_ ?_
          rotate_left
          ·show Act.put _ (some 21) _ = _
           simp only [Act.put, List.setIfInBounds_toArray, List.set_cons_zero, List.set_cons_succ, bI, bM]
           rfl
          exact jo (by simp only [tZ, Act.put, List.setIfInBounds_toArray, List.set_cons_zero, List.set_cons_succ]) (hCont (.slice Et gy.length Eu, v107, qw) _ ⟨hHeld, (Kd.fJ (Kd.bZ eF.out (fun _ hk => hk.2))), (Kd.fJ iQ.out), (Kd.fJ (Kd.bZ eu.out (fun _ hk => hk.2))), (Kd.fJ (Kd.bZ HO_6.out (fun _ hk => hk.2))), (jJ aJ.out), (by repeat (first | (with_reducible first | exact HB.out | refine bJ ?_ | refine aA ?_ bU.out) | exact HB.out))⟩)
         skip
         refine Kd.lF (Kd.int .i64) _ 2 ?hg (N := 25) ?hd (xs := ([(aX l0 bH).f1] : List Int)) (inner := [.int .i64 ((aX l0 bH).f1)]) (ok := fun _ => True) (okp := fun _ => True) ?hr ?hp (fun _ hk => hk) trivial (Below.refl _ _) (Nat.le_refl _) (by simp) ?_; (case hd => rfl); (case hg => rfl); (case hr => first | (go_simp; done) | (go_simp; rfl)); (case hp => exact (jl.one (show Kd.M (Kd.int .i64) _ _ _ ((aX l0 bH).f1) [.int .i64 ((aX l0 bH).f1)] from rfl) (jl.none _ _)))
         intro qw Rt rW hb hg_ hnew_
         clear hg_ hnew_
         (first | rw [← pF.out] at rW | (simp only [Int.reduceToNat] at rW; rw [← pF.out] at rW))
         have fZ := ah (Kd.lu HO_5.out hb)
         have gG := ah (Kd.fV (Kd.fJ HO_6.out) (Kd.iI rW) hb)
         have iC := ah (Kd.dh (Kd.jh rW (Kd.kW (Kd.fJ HO_6.out))) (aQ (by repeat (first | (with_reducible first | exact HB.out | refine bJ ?_ | refine aA ?_ bU.out) | exact HB.out))))
         have jg := ah (eH aJ.out hb)
         have kF := ah (aZ (by repeat (first | (with_reducible first | exact HB.out | refine bJ ?_ | refine aA ?_ bU.out) | exact HB.out)) hb)
         clear HO_5
         clear HO_6
         clear aJ
         clear HB
         have HO_5 := fZ
         have HO_6 := gG
         have eu := iC
         have aJ := jg
         have HB := kF
         clear fZ gG iC jg kF
         clear hb rW
         refine hK.out _ _ ⟨(au aJ.out 0).trans rfl, (au aJ.out 1).trans rfl⟩ (fun hHeld => ?_)
         clear hK K
         refine jo (a' := ?_) ?_ ?_
         rotate_left
         ·show Act.put _ (some 25) _ = _
          simp only [Act.put, List.setIfInBounds_toArray, List.set_cons_zero, List.set_cons_succ, bI, bM]
          rfl
         refine o9 (i := 3) (N := some 20) #[true, true, true, true, false, true, true, true, true, false, false, false] rfl rfl (jD HT_.out (by kernel_rfl)) (by decide) (fun K hK => ?_)
         refine Kd.lF (Kd.int .i64) _ 3 ?hg (N := 20) ?hd (xs := ([(aX l0 bH).f0] : List Int)) (inner := [.int .i64 ((aX l0 bH).f0)]) (ok := fun _ => True) (okp := fun _ => True) ?hr ?hp (fun _ hk => hk) trivial (Below.refl _ _) (Nat.le_refl _) (by simp) ?_; (case hd => rfl); (case hg => rfl); (case hr => first | (go_simp; done) | (go_simp; rfl)); (case hp => exact (jl.one (show Kd.M (Kd.int .i64) _ _ _ ((aX l0 bH).f0) [.int .i64 ((aX l0 bH).f0)] from rfl) (jl.none _ _)))
         intro xH DF rX hb hg_ hnew_
         clear hg_ hnew_
         (first | rw [← sN.out] at rX | (simp only [Int.reduceToNat] at rX; rw [← sN.out] at rX))
         have fZ := ah (Kd.fV (Kd.fJ HO_5.out) (Kd.iI rX) hb)
         have gG := ah (Kd.lu HO_6.out hb)
         have iC := ah (Kd.lu eu.out hb)
         have jg := ah (Kd.dh (Kd.jh rX (Kd.kW (Kd.fJ HO_5.out))) (aQ (by repeat (first | (with_reducible first | exact HB.out | refine bJ ?_ | refine aA ?_ bU.out) | exact HB.out))))
         have kF := ah (eH aJ.out hb)
         have mJ := ah (aZ (by repeat (first | (with_reducible first | exact HB.out | refine bJ ?_ | refine aA ?_ bU.out) | exact HB.out)) hb)
         clear HO_5
         clear HO_6
         clear eu
         clear aJ
         clear HB
         have HO_5 := fZ
         have HO_6 := gG
         have eu := iC
         have eF := jg
         have aJ := kF
         have HB := mJ
         clear fZ gG iC jg kF mJ
         clear hb rX
         obtain ⟨Et, Eu, Ew⟩ := Kd.dw eF.out
         (first | subst Ew | (injection Ew with pG uY pI; have uZ := pG.symm; have vg := pI.symm; clear pG uY pI; subst uZ; subst vg))
         refine hK.out _ _ ⟨(au aJ.out 0).trans rfl, (au aJ.out 1).trans rfl⟩ (fun hHeld => ?_)
         clear hK K
         refine jo (a' := ?_) ?_ ?_
         rotate_left
         ·show Act.put _ (some 20) _ = _
          simp only [Act.put, List.setIfInBounds_toArray, List.set_cons_zero, List.set_cons_succ, bI, bM]
          rfl
         refine o9 (i := 4) (N := some 21) #[true, true, true, true, true, true, true, true, true, false, false, false] rfl rfl (jD HT_.out (by kernel_rfl)) (by decide) (fun K hK => ?_)
         refine Kd.ji (Kd.int .i64) (w0 := w) w.heap.size (by rfl) (.tmp 17) (.tmp 20) 30 3 (.int .i64 0) 8 rfl Try.underlying30 info3 rfl (by decide) (by omega) (.slice JI bG.length Jc) bG gy _ _ _ (fun k_ => some k_ ≠ (.slice Et gy.length Eu : Value).ownBlock) (fun _ => False) rfl rfl ?aO ?aR (fun _ _ h => h) (fun _ h => h.elim) ?aF ?aB ?aS ?aL ?_
         (case aR => exact Kd.jV (Kd.bF eF.out).2.2)
         (case aB => exact (by repeat (first | (with_reducible first | exact HB.out | refine bJ ?_ | refine aA ?_ bU.out) | exact HB.out)))
         (case aF => exact (fun k_ hk => Kd.fresh' (Kd.kW (Kd.fJ eF.out)) k_ hk))
         (case aO => exact (Kd.fJ (Kd.bZ HO_5.out (fun _ hk => hk.2))))
         (case aS => exact (aQ (by repeat (first | (with_reducible first | exact HB.out | refine bJ ?_ | refine aA ?_ bU.out) | exact HB.out))))
         (case aL => have := Es.out; omega)
         intro v107 VG ho hb hg hat
         rw [← AL.out] at ho
         have fZ := ah (Kd.jG (Kd.fJ HO_6.out) (Kd.jF (Kd.fJ HO_5.out)) (by decide) hg)
         have gG := ah (jc (g := aI) (o := .cells #[.int .i64 ((aX l0 bH).f0), .int .i64 ((aX l0 bH).f1)] 173 (0, 0)) (jJ aJ.out) hg (Kd.BI HO_5.out aJ.out (by decide)))
         have iC := ah (Kd.jG (Kd.fJ eu.out) (Kd.jF (Kd.fJ HO_5.out)) (by decide) hg)
         have jg := ah (Kd.qA (ok := (fun _ => True)) (Kd.fJ eF.out) hg hat)
         have kF := ah (hb)
         have mJ := ah (ho)
         clear HO_6
         clear aJ
         clear eu
         clear eF
         clear HB
         clear HO_5
         have HO_6 := fZ
         have aJ := gG
         have eu := iC
         have eF := jg
         have HB := kF
         have iQ := mJ
         clear fZ gG iC jg kF mJ
         clear ho hb hg hat
         refine hK.out _ _ ⟨(au aJ.out 0).trans rfl, (au aJ.out 1).trans rfl⟩ (fun hHeld => ?_)
         clear hK K
         refine jo (a' := ?_) ?_ ?_
         rotate_left
         ·show Act.put _ (some 21) _ = _
          simp only [Act.put, List.setIfInBounds_toArray, List.set_cons_zero, List.set_cons_succ, bI, bM]
          rfl
         exact jo (by simp only [tZ, Act.put, List.setIfInBounds_toArray, List.set_cons_zero, List.set_cons_succ]) (hCont (.slice Et gy.length Eu, v107, qw) _ ⟨hHeld, (Kd.fJ (Kd.bZ eF.out (fun _ hk => hk.2))), (Kd.fJ iQ.out), (Kd.fJ (Kd.bZ eu.out (fun _ hk => hk.2))), (Kd.fJ (Kd.bZ HO_6.out (fun _ hk => hk.2))), (jJ aJ.out), (by repeat (first | (with_reducible first | exact HB.out | refine bJ ?_ | refine aA ?_ bU.out) | exact HB.out))⟩)
        rintro ⟨xH, v107, qw⟩ zo ⟨hS_, Zl, Zm, Zn, Zo, Zp, Zq⟩
        have fZ : aj (Kd.R (Kd.int .i64) 3 zo w.heap.size (fun k_ => some k_ ≠ (v107 : Value).ownBlock) xH gy) := ⟨Zl⟩
        have gG : aj (Kd.R (Kd.int .i64) 3 zo w.heap.size (fun k_ => some k_ ≠ (xH : Value).ownBlock) v107 xJ) := ⟨Zm⟩
        have iC : aj (Kd.R (Kd.int .i64) 2 zo w.heap.size (fun k_ => some k_ ≠ (.slice tK fP.length tN : Value).ownBlock) qw lV) := ⟨Zn⟩
        have jg : aj (Kd.R (Kd.int .i64) 2 zo w.heap.size (fun k_ => some k_ ≠ (qw : Value).ownBlock) (.slice tK fP.length tN) fP) := ⟨Zo⟩
        have kF : aj (zo.heap[aI]? = some (.cells #[.int .i64 ((aX l0 bH).f0), .int .i64 ((aX l0 bH).f1)] 173 (0, 0))) := ⟨Zp⟩
        have mJ : aj (Below w.heap.size w zo) := ⟨Zq⟩
        clear HO_5
        clear HO_6
        clear aJ
        clear HB
        clear Zl Zm Zn Zo Zp Zq
        have eF := fZ
        have iQ := gG
        have eu := iC
        have HO_6 := jg
        have aJ := kF
        have HB := mJ
        clear fZ gG iC jg kF mJ
        have hHeld : zo.cell? ⟨aI, 0, none⟩ = some (.int .i64 ((aX l0 bH).f0)) ∧ zo.cell? ⟨aI, 1, none⟩ = some (.int .i64 ((aX l0 bH).f1)) := hS_
        obtain ⟨Gf, Gg, Ky⟩ := Kd.dw eu.out
        (first | subst Ky | (injection Ky with pG uY pI; have uZ := pG.symm; have vg := pI.symm; clear pG uY pI; subst uZ; subst vg))
        refine jo (a' := ?_) ?_ ?_
        rotate_left
        ·simp only [tZ, Act.put, List.setIfInBounds_toArray, List.set_cons_zero, List.set_cons_succ]
         rfl
        refine o9 (i := 9) (N := some 26) #[true, true, true, true, true, true, true, true, true, true, false, false] rfl rfl (jD HT_.out (by kernel_rfl)) (by decide) (fun K hK => ?_)
        refine Kd.ji (Kd.int .i64) (w0 := w) w.heap.size (by rfl) (.tmp 22) (.tmp 25) 27 2 (.int .i64 0) 8 rfl Try.underlying27 QH rfl (by decide) (by omega) (.slice tK fP.length tN) fP lV _ _ _ (fun k_ => some k_ ≠ (.slice Gf lV.length Gg : Value).ownBlock) (fun _ => False) rfl rfl ?aO ?aR (fun _ _ h => h) (fun _ h => h.elim) ?aF ?aB ?aS ?aL ?_
        (case aR => exact Kd.jV (Kd.bF eu.out).2.2)
        (case aB => exact (by repeat (first | (with_reducible first | exact HB.out | refine bJ ?_ | refine aA ?_ bU.out) | exact HB.out)))
        (case aF => exact (fun k_ hk => Kd.fresh' (Kd.kW (Kd.fJ eu.out)) k_ hk))
        (case aO => exact (Kd.fJ HO_6.out))
        (case aS => exact (aQ (by repeat (first | (with_reducible first | exact HB.out | refine bJ ?_ | refine aA ?_ bU.out) | exact HB.out))))
        (case aL => have := WX.out; omega)
        intro Zr w20 ho hb hg hat
        rw [← JZ.out] at ho
        have fZ := ah (jc (g := aI) (o := .cells #[.int .i64 ((aX l0 bH).f0), .int .i64 ((aX l0 bH).f1)] 173 (0, 0)) (jJ aJ.out) hg (Kd.BI HO_6.out aJ.out (by decide)))
        have gG := ah (Kd.jG (Kd.fJ eF.out) (Kd.jF (Kd.fJ HO_6.out)) (by decide) hg)
        have iC := ah (Kd.jG (Kd.fJ iQ.out) (Kd.jF (Kd.fJ HO_6.out)) (by decide) hg)
        have jg := ah (Kd.qA (ok := (fun _ => True)) (Kd.fJ (Kd.bZ eu.out (fun _ hk => ⟨trivial, hk⟩))) hg hat)
        have kF := ah (hb)
        have mJ := ah (ho)
        clear aJ
        clear eF
        clear iQ
        clear eu
        clear HB
        clear HO_6
        have aJ := fZ
        have eF := gG
        have iQ := iC
        have eu := jg
        have HB := kF
        have zi := mJ
        clear fZ gG iC jg kF mJ
        clear ho hb hg hat
        refine hK.out _ _ ⟨(au aJ.out 0).trans rfl, (au aJ.out 1).trans rfl⟩ (fun hHeld => ?_)
        clear hK K
        refine jo (a' := ?_) ?_ ?_
        rotate_left
        ·show Act.put _ (some 26) _ = _
         simp only [Act.put, List.setIfInBounds_toArray, List.set_cons_zero, List.set_cons_succ, bI, bM]
         rfl
        refine dX (i := 10) (N := some 5) (v := ?_) (a' := ?_) #[true, true, true, true, true, true, true, true, true, true, true, false] rfl rfl (dD HT_.out (by kernel_rfl)) (fun _ _ _ h => h) (Or.inl ⟨by rfl, ?_⟩) ?_ ?_
        rotate_left
        ·intro w'
         go_simp
         with_reducible rfl
        rotate_left
        ·simp only [Act.put, List.setIfInBounds_toArray, List.set_cons_zero, List.set_cons_succ, bI, bM]
         rfl
        refine dX (i := 11) (N := some 6) (v := ?_) (a' := ?_) #[true, true, true, true, true, true, true, true, true, true, true, true] rfl rfl (dD HT_.out (by kernel_rfl)) (fun _ _ _ h => h) (Or.inl ⟨by rfl, ?_⟩) ?_ ?_
        rotate_left
        ·intro w'
         go_simp
         with_reducible rfl
        rotate_left
        ·simp only [Act.put, List.setIfInBounds_toArray, List.set_cons_zero, List.set_cons_succ, bI, bM]
         rfl
        refine y9 (su HT_.out (by kernel_rfl)) ?_
        try go_wp2
        go_roundg k1
        case measure => have := jy.out; omega
        case rel => exact ⟨(xJ), (y112), (wrap64 (bH + 1)), (by first | rfl | (simp; done) | (simp [*]; done)), H', ⟨by have := jy.out; omega⟩, ⟨by (repeat with_reducible refine Kd.kQ ?_); exact Kd.bZ iQ.out (fun _ hk => trivial)⟩, ⟨by (repeat with_reducible refine Kd.kQ ?_); exact Kd.bZ zi.out (fun _ hk => trivial)⟩, ⟨by repeat (first | (with_reducible first | exact HB.out | apply ak | apply ay | apply aH | refine aA ?_ bU.out) | exact HB.out)⟩⟩
       rw [if_neg c6] at H
       exact absurd H (by simp)
      rw [if_neg c5] at H
      exact absurd H (by simp)
     rw [if_neg c4] at H
     exact absurd H (by simp)
    rw [if_neg c3] at H
    exact absurd H (by simp)
   rw [if_neg c2] at H
   have c2b0 : decide (bH < (l0.length : Int)) = false := ahH c2
   clear c2
   replace H := Option.bind_eq_some_iff.mp H
   obtain ⟨⟨qg, t116⟩, Ry, H⟩ := H
   replace H : (if t116 = 0 then (some (qg, fP, 0)) else (some (([] : List (dQ)), ([] : List Int), t116))) = some (r1, r2, r3) := H
   have UC := ah Ry
   clear Ry
   by_cases c23 : t116 = 0
   ·rw [if_pos c23] at H
    have c23b0 : (t116 == 0) = true := beq_iff_eq.mpr c23
    have c23b1 : (t116 != 0) = false := bne_eq_false_iff_eq.mpr c23
    clear c23
    simp only [Option.some.injEq, Prod.mk.injEq] at H
    obtain ⟨rfl, rfl, rfl⟩ := H
    obtain ⟨Rz, RD, PD⟩ := Kd.dw HO_5.out
    subst PD
    go_wp2_with (first | ((with_reducible refine bP (f := 172) rfl ?_); refine gU (some 30) Try.func172 #[.slice Rz bG.length RD] ?_; (with_reducible refine (span_From.calls k1 _ _ bG qg t116 _ ?dK ?dL UC.out).mono ?_); (case dK => exact Kd.jV (Kd.bF HO_5.out).2.2); (case dL => exact (Kd.bF HO_5.out).2.1); rintro e BZ ⟨v117, rfl, ho0, hb⟩; refine ⟨_, rfl, ?_⟩; have Kz := ah (Kd.dh ho0 (aQ (bg HB.out))); replace HO_5 := ah (Kd.lu HO_5.out hb); replace HO_6 := ah (Kd.lu HO_6.out hb); replace HB := ah (aZ (bg HB.out) hb); (try clear hb); (try clear hb2); (try clear hk); (try clear hi); (try clear ho0); clear UC))
    go_ret3
    exact ⟨_, _, by first | rfl | (simp [aU, aV] <;> rfl) | (simp [*, aU, aV] <;> rfl), by (repeat with_reducible refine Kd.kQ ?_); exact Kz.out, by (repeat with_reducible refine Kd.kQ ?_); exact HO_6.out, by repeat (first | (with_reducible first | exact HB.out | apply ak | apply ay | apply aH) | exact HB.out)⟩
   rw [if_neg c23] at H
   have c23b0 : (t116 == 0) = false := beq_eq_false_iff_ne.mpr c23
   have c23b1 : (t116 != 0) = true := bne_iff_ne.mpr c23
   simp only [Option.some.injEq, Prod.mk.injEq] at H
   obtain ⟨rfl, rfl, rfl⟩ := H
   obtain ⟨WY, W9, Xa⟩ := Kd.dw HO_5.out
   subst Xa
   go_wp2_with (first | ((with_reducible refine bP (f := 172) rfl ?_); refine gU (some 30) Try.func172 #[.slice WY bG.length W9] ?_; (with_reducible refine (span_From.calls k1 _ _ bG qg t116 _ ?dK ?dL UC.out).mono ?_); (case dK => exact Kd.jV (Kd.bF HO_5.out).2.2); (case dL => exact (Kd.bF HO_5.out).2.1); rintro e w27 ⟨v117, rfl, ho0, hb⟩; refine ⟨_, rfl, ?_⟩; have Kz := ah (Kd.dh ho0 (aQ (bg HB.out))); replace HO_5 := ah (Kd.lu HO_5.out hb); replace HO_6 := ah (Kd.lu HO_6.out hb); replace HB := ah (aZ (bg HB.out) hb); (try clear hb); (try clear hb2); (try clear hk); (try clear hi); (try clear ho0); clear UC))
   go_ret3
   exact ⟨_, _, by first | rfl | (simp [aU, aV] <;> rfl) | (simp [*, aU, aV] <;> rfl), by first | exact Kd.eY _ _ _ _ _ | exact Kd.ig _ _ _ _ _ | exact Kd.iq _ _ _ _ _ | exact Kd.gY _ _ _ _ _ | exact Kd.gZ _ _ _ _ _, by first | exact Kd.eY _ _ _ _ _ | exact Kd.ig _ _ _ _ _ | exact Kd.iq _ _ _ _ _ | exact Kd.gY _ _ _ _ _ | exact Kd.gZ _ _ _ _ _, by repeat (first | (with_reducible first | exact HB.out | apply ak | apply ay | apply aH) | exact HB.out)⟩
def pairs_less.f (a0 : Int) (a1 : Int) : Option (Int × Bool) := some (wrap64 (a0 - a1), ((decide ((wrap64 (a0 - a1)) < a0)) == (decide (a1 > 0))))
set_option maxHeartbeats 8000000 in
set_option maxRecDepth 100000 in
theorem pairs_less.calls (a0 : Int) (a1 : Int) (r1 : Int) (r2 : Bool) (w : World) (h : pairs_less.f a0 a1 = some (r1, r2)) :
  Calls Try.prog 177 #[.int .i64 a0, .int .i64 a1] w fun e w' => e = .returned (.tuple #[.int .i64 r1, .bool r2]) ∧ cZ w w' := by
 have H : (some (wrap64 (a0 - a1), ((decide ((wrap64 (a0 - a1)) < a0)) == (decide (a1 > 0))))) = some (r1, r2) := h
 clear h
 simp only [Option.some.injEq, Prod.mk.injEq] at H
 obtain ⟨rfl, rfl⟩ := H
 go_enter Try.func177, Try.ntmps177
 go_wp2
 go_ret2
 exact ⟨by first | rfl | (simp; done) | (simp [*]; done), by repeat (first | exact cZ.refl _ | apply cZ.step)⟩
def pairs_Deltas.l0 : Nat → List Int → Int → List Int → Int → Int → Option (List Int × Int)
 | 0, _, _, _, _, _ => none
 | k + 1, x4, x5, x10, x11, x12 => if x12 < x11 then (if 0 ≤ x12 then (if x12 < (x10.length : Int) then ((pairs_less.f (rd x10 x12) x5).bind fun lJ => (if lJ.2 = true then (if x4.length < 17592186044416 then (pairs_Deltas.l0 k (x4 ++ [lJ.1]) (rd x10 x12) x10 x11 (wrap64 (x12 + 1))) else (none)) else (some (([] : List Int), 28)))) else (none)) else (none)) else (some (x4, 0))
def pairs_Deltas.f (k : Nat) (l0 : List Int) : Option (List Int × Int) := pairs_Deltas.l0 k ([] : List Int) 0 l0 (l0.length : Int) 0
set_option maxHeartbeats 8000000 in
set_option maxRecDepth 100000 in
theorem pairs_Deltas.calls (k : Nat) (A0 : Option Addr) (c0 : Nat) (l0 : List Int) (r1 : List Int) (r2 : Int) (w : World) (hr0 : Kd.C (Kd.int .i64) w A0 l0.length l0) (hc0 : l0.length ≤ c0) (h : pairs_Deltas.f k l0 = some (r1, r2)) :
  Calls Try.prog 163 #[.slice A0 l0.length c0] w fun e w' => ∃ mW : Value, e = .returned (.tuple #[mW, .int .i64 r2]) ∧ Kd.R (Kd.int .i64) 2 w' w.heap.size (fun _ => True) mW r1 ∧ Below w.heap.size w w' := by
 have HR0 := ah hr0
 have uH := ah hc0
 clear hr0 hc0
 have HB := ah (Below.refl w.heap.size w)
 have H : (pairs_Deltas.l0 k ([] : List Int) 0 l0 (l0.length : Int) 0) = some (r1, r2) := h
 clear h
 have H' := ah H
 clear H
 go_enter Try.func163, Try.ntmps163
 go_wp2
 go_loopg [4, 5, 12] k (fun kq v4 v5 v12 w' => ∃ (dU : List Int) (bG : Int) (dR : Int), v5 = .int .i64 bG ∧ v12 = .int .i64 dR ∧ aj (pairs_Deltas.l0 kq dU bG l0 (l0.length : Int) dR = some (r1, r2)) ∧ aj (kq ≤ k) ∧ aj (Kd.R (Kd.int .i64) 2 w' w.heap.size (fun _ => True) v4 dU) ∧ aj (Below w.heap.size w w'))
 case atStart => exact ⟨(([] : List Int)), (0), (0), (by first | rfl | (simp; done) | (simp [*]; done)), (by first | rfl | (simp; done) | (simp [*]; done)), H', ⟨Nat.le_refl _⟩, ⟨by first | exact Kd.eY _ _ _ _ _ | exact Kd.ig _ _ _ _ _ | exact Kd.iq _ _ _ _ _ | exact Kd.gY _ _ _ _ _ | exact Kd.gZ _ _ _ _ _⟩, ⟨by repeat (first | (with_reducible first | exact HB.out | apply ak | apply ay | apply aH) | exact HB.out)⟩⟩
 case round =>
  clear H'
  try clear c1
  obtain ⟨dU, bG, dR, rfl, rfl, HA, jy, HO_4, HB⟩ := hrel
  cases gk with
  | zero => exact absurd HA.out (by simp [pairs_Deltas.l0])
  | succ k1 =>
   have H := HA.out
   clear HA
   simp only [pairs_Deltas.l0] at H
   by_cases c2 : dR < (l0.length : Int)
   ·rw [if_pos c2] at H
    have c2b0 : decide (dR < (l0.length : Int)) = true := ahG c2
    clear c2
    by_cases c3 : 0 ≤ dR
    ·rw [if_pos c3] at H
     have c3b0 : decide (0 ≤ dR) = true := ahG c3
     clear c3
     by_cases c4 : dR < (l0.length : Int)
     ·rw [if_pos c4] at H
      have c4b0 : decide (dR < (l0.length : Int)) = true := ahG c4
      clear c4
      replace H := Option.bind_eq_some_iff.mp H
      obtain ⟨⟨fH, dZ⟩, Kt, H⟩ := H
      replace H : (if dZ = true then (if dU.length < 17592186044416 then (pairs_Deltas.l0 k1 (dU ++ [fH]) (rd l0 dR) l0 (l0.length : Int) (wrap64 (dR + 1))) else (none)) else (some (([] : List Int), 28))) = some (r1, r2) := H
      have A5 := ah Kt
      clear Kt
      by_cases c6 : dZ = true
      ·subst c6
       have H1 : (if dU.length < 17592186044416 then (pairs_Deltas.l0 k1 (dU ++ [fH]) (rd l0 dR) l0 (l0.length : Int) (wrap64 (dR + 1))) else (none)) = some (r1, r2) := by rw [if_pos rfl] at H; exact H
       clear H
       have H := H1
       clear H1
       by_cases c7 : dU.length < 17592186044416
       ·rw [if_pos c7] at H
        have Nb := ah c7
        clear c7
        obtain ⟨y104, hy104⟩ : ∃ y_ : List Int, y_ = (dU ++ [fH]) := ⟨_, rfl⟩
        replace H : (pairs_Deltas.l0 k1 y104 (rd l0 dR) l0 (l0.length : Int) (wrap64 (dR + 1))) = some (r1, r2) := by first | (rw [hy104]; with_reducible exact H) | (have jA := (Option.bind_some _ _).symm.trans H; rw [hy104]; with_reducible exact jA) | (have jA := (Option.bind_some _ _).symm.trans H; with_reducible exact jA) | with_reducible exact H | (rw [hy104]; exact H) | exact H
        have Rn := ah hy104
        clear hy104
        have H' := ah H
        clear H
        have fC : 0 ≤ (dR : Int) := ahF (by assumption)
        have fD : dR < (l0.length : Int) := ahF (by assumption)
        obtain ⟨kE, jM, bW⟩ := Kd.gB HR0.out dR fC fD
        cases jM
        replace bW := (HB.out.cell (World.block_lt_of_cell? w _ bW)).trans bW
        replace fC := eq_true fC
        replace fD := eq_true fD
        go_wp2_with (first | ((with_reducible refine bP (f := 177) rfl ?_); refine gU (some 19) Try.func177 #[.int .i64 (rd l0 dR), .int .i64 bG] ?_; (with_reducible refine (pairs_less.calls (rd l0 dR) bG fH true _ A5.out).mono ?_); rintro e w' ⟨rfl, ⟨nd, rfl⟩⟩; refine ⟨_, rfl, ?_⟩; clear A5) | ((with_reducible refine eG (b := .append) (xs := #[.tmp 24, .tmp 26]) rfl ?_); at_builtin; refine Kd.je (Kd.int .i64) (w0 := w) w.heap.size rfl (.tmp 24) (.tmp 26) 27 2 (.int .i64 0) 8 rfl Try.underlying27 QH rfl (by decide) (by omega) u4 dU fH [.int .i64 fH] (fun _ => True) (fun _ => False) rfl rfl ?aP (fun _ hk => hk.elim) ?aF ?aO ?aB ?aS ?aL ?_; (case aP => exact rfl); (case aB => exact (bg HB.out)); (case aF => exact (fun _ _ => trivial)); (case aO => exact (Kd.fJ HO_4.out)); (case aS => exact (aQ (bg HB.out))); (case aL => have := Nb.out; omega); intro v105 w8 ho hb hg hat; rw [← Rn.out] at ho; have jE := ah (ho); replace HB := ah (hb); clear HO_4 ho hb hg hat))
        go_roundg k1
        case measure => have := jy.out; omega
        case rel => exact ⟨(y104), (rd l0 dR), (wrap64 (dR + 1)), (by first | rfl | (simp; done) | (simp [*]; done)), (by first | rfl | (simp; done) | (simp [*]; done)), H', ⟨by have := jy.out; omega⟩, ⟨by (repeat with_reducible refine Kd.kQ ?_); exact jE.out⟩, ⟨by repeat (first | (with_reducible first | exact HB.out | apply ak | apply ay | apply aH) | exact HB.out)⟩⟩
       rw [if_neg c7] at H
       exact absurd H (by simp)
      replace c6 := Bool.eq_false_iff.mpr c6
      subst c6
      have H1 : (some (([] : List Int), 28)) = some (r1, r2) := by rw [if_neg (show ¬ (false = true) by decide)] at H; exact H
      clear H
      have H := H1
      clear H1
      simp only [Option.some.injEq, Prod.mk.injEq] at H
      obtain ⟨rfl, rfl⟩ := H
      have fC : 0 ≤ (dR : Int) := ahF (by assumption)
      have fD : dR < (l0.length : Int) := ahF (by assumption)
      obtain ⟨kE, jM, bW⟩ := Kd.gB HR0.out dR fC fD
      cases jM
      replace bW := (HB.out.cell (World.block_lt_of_cell? w _ bW)).trans bW
      replace fC := eq_true fC
      replace fD := eq_true fD
      go_wp2_with (first | ((with_reducible refine bP (f := 177) rfl ?_); refine gU (some 19) Try.func177 #[.int .i64 (rd l0 dR), .int .i64 bG] ?_; (with_reducible refine (pairs_less.calls (rd l0 dR) bG fH false _ A5.out).mono ?_); rintro e w' ⟨rfl, ⟨nd, rfl⟩⟩; refine ⟨_, rfl, ?_⟩; clear A5))
      go_ret2
      exact ⟨_, by first | rfl | (simp [aU, aV] <;> rfl) | (simp [*, aU, aV] <;> rfl), by first | exact Kd.eY _ _ _ _ _ | exact Kd.ig _ _ _ _ _ | exact Kd.iq _ _ _ _ _ | exact Kd.gY _ _ _ _ _ | exact Kd.gZ _ _ _ _ _, by repeat (first | (with_reducible first | exact HB.out | apply ak | apply ay | apply aH) | exact HB.out)⟩
     rw [if_neg c4] at H
     exact absurd H (by simp)
    rw [if_neg c3] at H
    exact absurd H (by simp)
   rw [if_neg c2] at H
   have c2b0 : decide (dR < (l0.length : Int)) = false := ahH c2
   clear c2
   simp only [Option.some.injEq, Prod.mk.injEq] at H
   obtain ⟨rfl, rfl⟩ := H
   go_wp2
   go_ret2
   exact ⟨_, by first | rfl | (simp [aU, aV] <;> rfl) | (simp [*, aU, aV] <;> rfl), by (repeat with_reducible refine Kd.kQ ?_); exact HO_4.out, by repeat (first | (with_reducible first | exact HB.out | apply ak | apply ay | apply aH) | exact HB.out)⟩
end Go.Proofs.Ytooiccpmngmapaa.P
namespace Go.Proofs.Ytooiccpmngmapaa.P
open Go.RowKit Go.Proofs.YtooiccpmngmapaaW.PrintWords Go.Proofs.YtooiccpmngmapaaW.PrintLast Go.Proofs.YtooiccpmngmapaaW.PrintMore
abbrev Pr := gq
instance : DecidableEq Pr := fun a b => if h : a.f0 = b.f0 ∧ a.f1 = b.f1 then isTrue (by cases a; cases b; simp only at h; rw [h.1, h.2]) else isFalse (by rintro rfl; exact h ⟨rfl, rfl⟩)
theorem AO {l : List Pr} {i : Nat} (h : i < l.length) : aX l (i : Int) = l[i] := by unfold aX; simp [List.getD, h]
def RF (l : List Pr) : Prop := ∀ s ∈ l, i64 s.f0 ∧ i64 s.f1
theorem Ey {l : List Int} (h : (jO l).2 = 0) : rises (-1048576) l = true ∧ l.length ≤ 4096 ∧ (spansOf l).length ≤ 1024 ∧ (jO l).1 = spansOf l := by
 unfold jO at h ⊢
 split at h
 ·rename_i hr
  split at h
  ·cases h
  ·split at h
   ·cases h
   ·refine ⟨hr, by omega, by omega, ?_⟩
    rw [if_pos hr, if_neg (by omega), if_neg (by omega)]
 ·cases h
def lW (l : List Pr) : List Sp × List Int × Int := if (jO (l.map (·.f0))).2 = 0 then ((jO (l.map (·.f0))).1, l.map (·.f1), 0) else ([], [], (jO (l.map (·.f0))).2)
theorem Nr (l : List Pr) (hw : RF l) (hm : l.length < 4398046511104) : ∀ (d k i : Nat), l.length - i = d → d + 2 * l.length + 1 < k → i ≤ l.length →
    pairs_Unzip_int64.l0 k ((l.take i).map (·.f0)) ((l.take i).map (·.f1)) l (l.length : Int) (i : Int) = some (lW l) := by
  intro d
  induction d with
  | zero =>
    intro k i hd hk hi
    obtain ⟨k, rfl⟩ : ∃ m, k = m + 1 := ⟨k - 1, by omega⟩
    simp only [pairs_Unzip_int64.l0]
    rw [if_neg (by omega), List.take_of_length_le (by omega), OC _ (by intro x hx; obtain ⟨s, hs, rfl⟩ := List.mem_map.1 hx; exact (hw s hs).1) (by simpa using hm) k (by simp; omega)]
    simp only [Option.bind_some]
    unfold lW
    split <;> rfl
  | succ d ih =>
    intro k i hd hk hi
    obtain ⟨k, rfl⟩ : ∃ m, k = m + 1 := ⟨k - 1, by omega⟩
    have hlt : i < l.length := by omega
    have hl1 : ((l.take i).map (·.f0)).length = i := by simp; omega
    have hl2 : ((l.take i).map (·.f1)).length = i := by simp; omega
    simp only [pairs_Unzip_int64.l0, Option.bind_some]
    rw [if_pos (by omega), if_pos (by omega), if_pos (by omega), hl1, hl2, AO hlt, if_pos (by simp; omega), if_pos (by simp; omega), wrap_succ (by omega), ← ih k (i + 1) (by omega) (by omega) (by omega), take_at hlt]
    simp only [List.map_append, List.map_cons, List.map_nil]
theorem RG (l : List Pr) (hw : RF l) (hm : l.length < 4398046511104) (k : Nat) (hk : 3 * l.length + 1 < k) : pairs_Unzip_int64.f k l = some (lW l) := by
 unfold pairs_Unzip_int64.f
 exact Nr l hw hm l.length k 0 (by omega) (by omega) (by omega)
def Ns (l : List Sp) (v : List Int) : List Pr × Int := if fU l = 0 then (if (uN 0 l).length = v.length then (List.zipWith (fun p x => (⟨p, x⟩ : Pr)) (uN 0 l) v, 0) else ([], 10)) else ([], fU l)
theorem RH (ps v : List Int) (hl : ps.length = v.length) (hm : ps.length < 8796093022208) : ∀ (d k i : Nat), ps.length - i = d → d < k → i ≤ ps.length →
    pairs_Zip_int64.l0 k v (List.zipWith (fun p x => (⟨p, x⟩ : Pr)) (ps.take i) (v.take i)) ps (ps.length : Int) (i : Int) = some (List.zipWith (fun p x => (⟨p, x⟩ : Pr)) ps v, 0) := by
  intro d
  induction d with
  | zero =>
    intro k i hd hk hi
    obtain ⟨k, rfl⟩ : ∃ m, k = m + 1 := ⟨k - 1, by omega⟩
    simp only [pairs_Zip_int64.l0]
    rw [if_neg (by omega), List.take_of_length_le (by omega), List.take_of_length_le (by omega)]
  | succ d ih =>
    intro k i hd hk hi
    obtain ⟨k, rfl⟩ : ∃ m, k = m + 1 := ⟨k - 1, by omega⟩
    have hlt : i < ps.length := by omega
    have hlv : i < v.length := by omega
    have hl1 : (List.zipWith (fun p x => (⟨p, x⟩ : Pr)) (ps.take i) (v.take i)).length = i := by simp; omega
    simp only [pairs_Zip_int64.l0]
    rw [if_pos (by omega), if_pos (by omega), if_pos (by omega), if_pos (by omega), hl1, sK hlt, sK hlv, if_pos (by omega), wrap_succ (by omega), ← ih k (i + 1) (by omega) (by omega) (by omega), take_at hlt, take_at hlv, List.zipWith_append (by simp; omega)]
    rfl
theorem Xb (l : List Sp) (v : List Int) (hw : kU l) (k : Nat) (hk : 4100 < k) : pairs_Zip_int64.f k l v = some (Ns l v) := by
 unfold pairs_Zip_int64.f Ns
 rw [Hf l hw k (by omega)]
 simp only [Option.bind_some, yM]
 by_cases h : fU l = 0
 ·have hl := uj h
  rw [if_pos h, if_pos h]
  simp only [if_true]
  by_cases h1 : (uN 0 l).length = v.length
  ·rw [if_pos (by omega), if_pos h1]
   exact RH (uN 0 l) v h1 (by omega) (uN 0 l).length k 0 (by omega) (by omega) (by omega)
  ·rw [if_neg (by omega), if_neg h1]
 ·rw [if_neg h, if_neg h]
  simp only
  rw [if_neg h]
theorem Gh {l : List Int} (hr : rises (-1048576) l = true) (h1 : l.length ≤ 4096) (h2 : (spansOf l).length ≤ 1024) : fU (spansOf l) = 0 := by
 have h := uh l hr
 unfold fU
 rw [if_neg (by omega), if_pos (h.right (by omega))]
theorem Ez {l : List Int} (hr : rises (-1048576) l = true) (h1 : l.length ≤ 4096) : kU (spansOf l) := by
 have h := uh l hr
 intro s hs
 have := h.pos s hs
 exact ⟨⟨by omega, by omega⟩, ⟨by omega, by omega⟩⟩
def gJ : Int → List Int → Option (List Int)
 | _, [] => some []
 | a, d :: r => if i64 (a + d) then (gJ (a + d) r).map (fun o => (a + d) :: o) else none
def kV : Int → List Int → Option (List Int)
 | _, [] => some []
 | a, v :: r => if i64 (v - a) then (kV v r).map (fun o => (v - a) :: o) else none
theorem RI {a d : Int} (ha : i64 a) (hd : i64 d) : ((decide ((wrap64 (a + d)) > a)) == (decide (d > 0))) = decide (i64 (a + d)) := by
 unfold i64 at *
 by_cases h : -9223372036854775808 ≤ a + d ∧ a + d ≤ 9223372036854775807
 ·rw [ahG h, eX h.1 h.2]
  by_cases hp : d > 0
  ·have : a + d > a := by omega
   simp [hp, this]
  ·have : ¬ a + d > a := by omega
   simp [hp, this]
 ·rw [ahH h]
  by_cases hp : d > 0
  ·have : ¬ wrap64 (a + d) > a := by unfold wrap64; omega
   simp [hp, this]
  ·have : wrap64 (a + d) > a := by unfold wrap64; omega
   simp [hp, this]
theorem PE {a d : Int} (ha : i64 a) (hd : i64 d) : ((decide ((wrap64 (a - d)) < a)) == (decide (d > 0))) = decide (i64 (a - d)) := by
 unfold i64 at *
 by_cases h : -9223372036854775808 ≤ a - d ∧ a - d ≤ 9223372036854775807
 ·rw [ahG h, eX h.1 h.2]
  by_cases hp : d > 0
  ·have : a - d < a := by omega
   simp [hp, this]
  ·have : ¬ a - d < a := by omega
   simp [hp, this]
 ·rw [ahH h]
  by_cases hp : d > 0
  ·have : ¬ wrap64 (a - d) < a := by unfold wrap64; omega
   simp [hp, this]
  ·have : wrap64 (a - d) < a := by unfold wrap64; omega
   simp [hp, this]
theorem Gi (l : List Int) (hw : ∀ x ∈ l, i64 x) (hl : l.length < 17592186044416) : ∀ (d k i : Nat) (acc : List Int) (a : Int), l.length - i = d → d < k → i ≤ l.length → acc.length = i → i64 a →
    pairs_Absolute.l0 k acc a l (l.length : Int) (i : Int) = some (match gJ a (l.drop i) with | some o => (acc ++ o, 0) | none => ([], 28)) := by
  intro d
  induction d with
  | zero =>
    intro k i acc a hd hk hi ha hwa
    obtain ⟨k, rfl⟩ : ∃ m, k = m + 1 := ⟨k - 1, by omega⟩
    simp only [pairs_Absolute.l0]
    rw [if_neg (by omega), drop_end (by omega)]
    simp [gJ]
  | succ d ih =>
    intro k i acc a hd hk hi ha hwa
    obtain ⟨k, rfl⟩ : ∃ m, k = m + 1 := ⟨k - 1, by omega⟩
    have hlt : i < l.length := by omega
    have hwd : i64 l[i] := hw _ (List.getElem_mem hlt)
    simp only [pairs_Absolute.l0]
    rw [if_pos (by omega), if_pos (by omega), if_pos (by omega), sK hlt, drop_at hlt]
    simp only [pairs_add.f, Option.bind_some]
    rw [RI hwa hwd]
    by_cases hs : i64 (a + l[i])
    · rw [if_pos (by simpa using hs), if_pos (by omega), xB hs, wrap_succ (by omega), ih k (i + 1) _ _ (by omega) (by omega) (by omega) (by simp [ha]) hs]
      simp only [gJ, if_pos hs]
      cases gJ (a + l[i]) (l.drop (i + 1)) <;> simp
    · rw [if_neg (by simpa using hs)]
      simp only [gJ, if_neg hs]
theorem Dk (l : List Int) (hw : ∀ x ∈ l, i64 x) (hl : l.length < 17592186044416) (k : Nat) (hk : l.length < k) :
  pairs_Absolute.f k l = some (match gJ 0 l with | some o => (o, 0) | none => ([], 28)) := by
 unfold pairs_Absolute.f
 have h := Gi l hw hl l.length k 0 [] 0 (by omega) hk (by omega) rfl (by unfold i64; omega)
 rw [List.drop_zero] at h
 exact h
theorem KD (l : List Int) (hw : ∀ x ∈ l, i64 x) (hl : l.length < 17592186044416) : ∀ (d k i : Nat) (acc : List Int) (a : Int), l.length - i = d → d < k → i ≤ l.length → acc.length = i → i64 a →
    pairs_Deltas.l0 k acc a l (l.length : Int) (i : Int) = some (match kV a (l.drop i) with | some o => (acc ++ o, 0) | none => ([], 28)) := by
  intro d
  induction d with
  | zero =>
    intro k i acc a hd hk hi ha hwa
    obtain ⟨k, rfl⟩ : ∃ m, k = m + 1 := ⟨k - 1, by omega⟩
    simp only [pairs_Deltas.l0]
    rw [if_neg (by omega), drop_end (by omega)]
    simp [kV]
  | succ d ih =>
    intro k i acc a hd hk hi ha hwa
    obtain ⟨k, rfl⟩ : ∃ m, k = m + 1 := ⟨k - 1, by omega⟩
    have hlt : i < l.length := by omega
    have hwd : i64 l[i] := hw _ (List.getElem_mem hlt)
    simp only [pairs_Deltas.l0]
    rw [if_pos (by omega), if_pos (by omega), if_pos (by omega), sK hlt, drop_at hlt]
    simp only [pairs_less.f, Option.bind_some]
    rw [PE hwd hwa]
    by_cases hs : i64 (l[i] - a)
    · rw [if_pos (by simpa using hs), if_pos (by omega), xB hs, wrap_succ (by omega), ih k (i + 1) _ _ (by omega) (by omega) (by omega) (by simp [ha]) hwd]
      simp only [kV, if_pos hs]
      cases kV l[i] (l.drop (i + 1)) <;> simp
    · rw [if_neg (by simpa using hs)]
      simp only [kV, if_neg hs]
theorem PG (l : List Int) (hw : ∀ x ∈ l, i64 x) (hl : l.length < 17592186044416) (k : Nat) (hk : l.length < k) :
  pairs_Deltas.f k l = some (match kV 0 l with | some o => (o, 0) | none => ([], 28)) := by
 unfold pairs_Deltas.f
 have h := KD l hw hl l.length k 0 [] 0 (by omega) hk (by omega) rfl (by unfold i64; omega)
 rw [List.drop_zero] at h
 exact h
theorem xg : ∀ (l : List Int) (a : Int) (o : List Int), gJ a l = some o → o.length = l.length
  | [], a, o, h => by simp [gJ] at h; subst h; rfl
  | d :: r, a, o, h => by
    simp only [gJ] at h
    split at h
    · cases h2 : gJ (a + d) r with
      | none => rw [h2] at h; cases h
      | some o2 => rw [h2] at h; simp at h; subst h; simp [xg r _ _ h2]
    · cases h
theorem AP : ∀ (l : List Int) (a : Int) (o : List Int), gJ a l = some o → ∀ x ∈ o, i64 x
  | [], a, o, h => by simp [gJ] at h; subst h; simp
  | d :: r, a, o, h => by
    simp only [gJ] at h
    split at h
    · rename_i hs
      cases h2 : gJ (a + d) r with
      | none => rw [h2] at h; cases h
      | some o2 =>
        rw [h2] at h; simp at h; subst h
        intro x hx
        rcases List.mem_cons.1 hx with rfl | hx
        · exact hs
        · exact AP r _ _ h2 x hx
    · cases h
open Go.Shelf
def Dl (g : Nat) (cap : Array Value) (p : Int → Bool) (w : World) : Prop :=
 ∀ (W : World) (x : Int), Below w.heap.size w W → Calls Try.prog g (#[.int .i64 x] ++ cap) W fun e w' => e = .returned (.bool (p x)) ∧ Below W.heap.size W w'
set_option maxHeartbeats 2000000 in
theorem yX (g : Nat) (cap : Array Value) (p : Int → Bool) (A : Option Addr) (c : Nat) (l : List Int) (w : World)
    (hr : Kd.C (Kd.int .i64) w A l.length l) (hc : l.length ≤ c) (hm : l.length ≤ 9223372036854775807) (hp : Dl g cap p w) (eg : ∀ args w, (callFunc g args).run Try.prog w = .ok (.enter g args) w) :
    Calls Try.prog 180 #[.slice A l.length c, .func (.func g) #[] cap] w fun e w' => e = .returned (.int .i64 (vI p l)) ∧ Below w.heap.size w w' := by
  have HR := ah hr
  have HP := ah hp
  clear hr hp
  go_enter Try.func180, Try.ntmps180
  go_wp2
  go_loopg [5, 8] l.length (fun gg _ s8 wr => ∃ kk : Nat, kk ≤ l.length ∧ l.length - kk ≤ gg ∧ s8 = .int .i64 kk ∧ aj (Below w.heap.size w wr) ∧ aj (∀ j (hj : j < kk) (hj2 : j < l.length), p l[j] = false))
  case atStart => exact ⟨0, Nat.zero_le _, by omega, rfl, ⟨Below.refl _ w⟩, ⟨fun j hj => absurd hj (Nat.not_lt_zero _)⟩⟩
  case round =>
    obtain ⟨kk, hkk, hg, rfl, HB, HA⟩ := hrel
    by_cases hlt : kk < l.length
    · have hlti : (kk : Int) < (l.length : Int) := by omega
      obtain ⟨ad, e1, hx0⟩ := Kd.gB HR.out kk (by omega) (by omega)
      cases e1
      replace hx0 := (HB.out.cell (World.block_lt_of_cell? w _ hx0)).trans hx0
      have hrd : rd l (kk : Int) = l[kk] := by unfold rd; simp [List.getD, hlt]
      rw [hrd, Int.toNat_natCast] at hx0
      have hcall := HP.out wr l[kk] HB.out
      generalize hy : l[kk] = y at hx0 hcall
      have HY := ah hy
      clear hy hrd
      cases hq : p y with
      | true =>
        rw [hq] at hcall
        have HQ := ah hq
        clear hq
        have HC := ah hcall
        clear hcall
        go_wp2_with (go_at_fn g; refine HC.out.mono ?_; rintro e w' ⟨rfl, hb'⟩)
        go_ret
        refine ⟨?_, HB.out.trans (hb'.mono HB.out.size)⟩
        rw [Ac p l kk hlt (by rw [HY.out]; exact HQ.out) (fun j hj => HA.out j hj (by omega))]; rfl
      | false =>
        rw [hq] at hcall
        have HQ := ah hq
        clear hq
        have HC := ah hcall
        clear hcall
        go_wp2_with (go_at_fn g; refine HC.out.mono ?_; rintro e w' ⟨rfl, hb'⟩)
        go_roundg (l.length - (kk + 1))
        case measure => omega
        case rel =>
          refine ⟨kk + 1, by omega, by omega, by go_num, ⟨HB.out.trans (hb'.mono HB.out.size)⟩, ⟨fun j hj hj2 => ?_⟩⟩
          by_cases e : j = kk
          · subst e
            rw [HY.out]; exact HQ.out
          · exact HA.out j (by omega) hj2
    · have hlti : ¬ (kk : Int) < (l.length : Int) := by omega
      have hk : kk = l.length := by omega
      go_wp2
      go_ret
      refine ⟨?_, HB.out⟩
      rw [yF p l (fun j hj => HA.out j (by omega) hj)]; rfl
theorem EC (p : Int → Bool) (l : List Int) : decide (vI p l ≥ 0) = l.any p := by
 rcases JU p l with ⟨h1, h2⟩ | ⟨i, h, h1, h2⟩
 ·rw [h1, Bool.eq_iff_iff, decide_eq_true_iff]
  constructor
  ·intro h; omega
  ·intro h
   obtain ⟨x, hx, hp⟩ := List.any_eq_true.1 h
   rw [List.find?_eq_none] at h2
   exact absurd hp (h2 x hx)
 ·rw [h1, Bool.eq_iff_iff, decide_eq_true_iff]
  constructor
  ·intro _; exact List.any_eq_true.2 ⟨_, List.getElem_mem h, by have := List.find?_some h2; exact this⟩
  ·intro _; omega
set_option maxHeartbeats 2000000 in
theorem qL (g : Nat) (cap : Array Value) (p : Int → Bool) (A : Option Addr) (c : Nat) (l : List Int) (w : World)
  (hr : Kd.C (Kd.int .i64) w A l.length l) (hc : l.length ≤ c) (hm : l.length ≤ 9223372036854775807) (hp : Dl g cap p w) (eg : ∀ args w, (callFunc g args).run Try.prog w = .ok (.enter g args) w) :
  Calls Try.prog 167 #[.slice A l.length c, .func (.func g) #[] cap] w fun e w' => e = .returned (.bool (l.any p)) ∧ Below w.heap.size w w' := by
 have H := ah (yX g cap p A c l w hr hc hm hp eg)
 have HE := ah (EC p l)
 clear hr hp
 generalize vI p l = ix at H HE
 go_enter Try.func167, Try.ntmps167
 go_wp2_with (go_at_call 180; refine H.out.mono ?_; rintro e w' ⟨rfl, hb'⟩)
 go_ret
 exact ⟨by rw [← HE.out]; rfl, hb'⟩
theorem Nu (l : List Sp) (hm : l.length ≤ 1024) (hp : ∀ s ∈ l, 0 ≤ s.f1 ∧ s.f1 ≤ 4096) : ∀ (d k i : Nat), l.length - i = d → d < k → i ≤ l.length → 0 ≤ nK (l.take i) → nK (l.take i) ≤ 4096 * i →
    span_Count.l0 k (nK (l.take i)) l (l.length : Int) (i : Int) = some (nK l) := by
  intro d
  induction d with
  | zero =>
    intro k i hd hk hi h0 h1
    obtain ⟨k, rfl⟩ : ∃ m, k = m + 1 := ⟨k - 1, by omega⟩
    rw [span_Count.l0, if_neg (by omega), List.take_of_length_le (by omega)]
  | succ d ih =>
    intro k i hd hk hi h0 h1
    obtain ⟨k, rfl⟩ : ∃ m, k = m + 1 := ⟨k - 1, by omega⟩
    have hlt : i < l.length := by omega
    have hs := hp _ (List.getElem_mem hlt)
    have e : nK (l.take (i + 1)) = nK (l.take i) + l[i].f1 := by rw [take_at hlt, vM]
    rw [span_Count.l0, if_pos (by omega), if_pos (by omega), if_pos (by omega), Ar hlt, wrap_succ (by omega), eX (by omega) (by omega), ← e]
    exact ih k (i + 1) (by omega) (by omega) (by omega) (by omega) (by omega)
theorem count_eq (l : List Sp) (hw : kU l) (k : Nat) (hk : 2048 < k) : span_Count.f k l = some (if fU l = 0 then nK l else 0) := by
 unfold span_Count.f
 rw [Au l hw k hk, Option.bind_some]
 by_cases h : fU l = 0
 ·have h0 := kS h
  rw [if_pos h, if_pos h]
  exact Nu l h0.1 (fun s hs => nM l _ _ _ h0.2 s hs) l.length k 0 (by omega) (by omega) (by omega) (by simp [nK]) (by simp [nK])
 ·rw [if_neg h, if_neg h]
def jP (l : List Sp) (d : List Int) : List Pr × Int :=
 if fU l = 0 then (if nK l = d.length then (match gJ 0 d with | none => ([], 28) | some c => if c.any (fun x => decide (x < 0)) = true then ([], 22) else (List.zipWith (fun p x => (⟨p, x⟩ : Pr)) (uN 0 l) c, 0)) else ([], 23)) else ([], fU l)
instance (l : List Sp) : Decidable (kU l) := by unfold kU Zi; exact inferInstance
def Gj (l : List Int) : Prop := ∀ x ∈ l, i64 x
instance (l : List Int) : Decidable (Gj l) := by unfold Gj; exact inferInstance
def hist_side.f (l0 : List Sp) (l1 : List Int) : Option (List Pr × Int) := if kU l0 ∧ Gj l1 ∧ l1.length < 4398046511104 then some (jP l0 l1) else none
set_option maxRecDepth 100000 in
theorem OD (W : World) (x : Int) :
  Calls Try.prog 168 (#[.int .i64 x] ++ #[]) W fun e w' => e = .returned (.bool (decide (x < 0))) ∧ Below W.heap.size W w' := by
 show Calls Try.prog 168 #[.int .i64 x] W _
 go_enter Try.func168, Try.ntmps168
 go_wp2
 go_ret
 exact ⟨rfl, Below.refl _ _⟩
set_option maxHeartbeats 8000000 in
set_option maxRecDepth 100000 in
theorem hist_side.calls (A0 : Option Addr) (c0 : Nat) (l0 : List Sp) (A1 : Option Addr) (c1 : Nat) (l1 : List Int) (r1 : List Pr) (r2 : Int) (w : World) (hr0 : Kd.C jq w A0 l0.length l0) (hc0 : l0.length ≤ c0) (hr1 : Kd.C (Kd.int .i64) w A1 l1.length l1) (hc1 : l1.length ≤ c1) (h : hist_side.f l0 l1 = some (r1, r2)) :
    Calls Try.prog 132 #[.slice A0 l0.length c0, .slice A1 l1.length c1] w fun e w' => ∃ mW : Value, e = .returned (.tuple #[mW, .int .i64 r2]) ∧ Kd.R jB 173 w' w.heap.size (fun _ => True) mW r1 ∧ Below w.heap.size w w' := by
  obtain ⟨⟨hw, hi, hm⟩, h2⟩ := lC h
  clear h
  obtain ⟨K, hK⟩ : ∃ K, K = l1.length + 5200 := ⟨_, rfl⟩
  have HRA := ah (And.intro hr0 hr1)
  have HCA := ah (And.intro hc0 hc1)
  have HCk := ah (Au l0 hw K (by omega))
  have HCt := ah (count_eq l0 hw K (by omega))
  have HAb := ah (Dk l1 hi (by omega) K (by omega))
  have HW := ah hw
  have HM := ah (And.intro hm hK)
  have H := ah h2
  clear hr0 hr1 hc0 hc1 hw hi h2 hm hK
  unfold jP at H
  by_cases he : fU l0 = 0
  rotate_left
  · have H := H.out
    rw [if_neg he] at H
    injection H with h4 h5
    subst h4; subst h5
    have he1 : (fU l0 == 0) = false := beq_eq_false_iff_ne.2 he
    have he2 : (fU l0 != 0) = true := bne_iff_ne.2 he
    clear he
    generalize fU l0 = e0 at *
    go_enter Try.func132, Try.ntmps132
    go_wp2_with (go_at_call 164; (with_reducible refine (span_Check.calls K _ _ l0 e0 _ HRA.out.1 HCA.out.1 HCk.out).mono ?_); rintro e w1 ⟨rfl, hb⟩; have HB := ah hb; clear hb)
    go_ret2
    exact ⟨_, rfl, Kd.eY _ _ _ _ _, HB.out⟩
  · rw [if_pos he] at H
    rw [he] at HCk
    rw [if_pos he] at HCt
    have HP := ah he
    clear he
    generalize hn : nK l0 = n at H HCt
    have HN := ah hn
    clear hn
    by_cases hc : n = (l1.length : Int)
    rotate_left
    · have H := H.out
      rw [if_neg hc] at H
      injection H with h4 h5
      subst h4; subst h5
      have hc1 : (n == (l1.length : Int)) = false := beq_eq_false_iff_ne.2 hc
      have hc2 : (n != (l1.length : Int)) = true := bne_iff_ne.2 hc
      clear hc
      go_enter Try.func132, Try.ntmps132
      go_wp2_with (first | (go_at_call 164; (with_reducible refine (span_Check.calls K _ _ l0 0 _ HRA.out.1 HCA.out.1 HCk.out).mono ?_); rintro e w1 ⟨rfl, hb⟩; have HB := ah hb; clear hb) | (go_at_call 165; (with_reducible refine (span_Count.calls K _ _ l0 n _ (Kd.bT HRA.out.1 HB.out) HCA.out.1 HCt.out).mono ?_); rintro e w2 ⟨rfl, hb⟩; have HB2 := ah (aG HB.out HB.out.size hb); clear hb))
      go_ret2
      exact ⟨_, rfl, Kd.eY _ _ _ _ _, HB2.out⟩
    · rw [if_pos hc] at H
      have hc1 : (n == (l1.length : Int)) = true := beq_iff_eq.2 hc
      have hc2 : (n != (l1.length : Int)) = false := by rw [bne, hc1]; rfl
      have HNL := ah hc
      clear hc
      have HSL := ah (xg l1 0)
      cases hs : gJ 0 l1 with
      | none =>
        rw [hs] at H HAb
        have H := H.out
        injection H with h4 h5
        subst h4; subst h5
        clear hs
        obtain ⟨cs, hcs⟩ : ∃ cs : List Int, cs = [] := ⟨_, rfl⟩
        obtain ⟨e3, he3⟩ : ∃ e : Int, e = 28 := ⟨_, rfl⟩
        replace HAb := ah (show pairs_Absolute.f K l1 = some (cs, e3) by rw [hcs, he3]; exact HAb.out)
        subst he3
        clear hcs
        go_enter Try.func132, Try.ntmps132
        go_wp2_with (first | (go_at_call 164; (with_reducible refine (span_Check.calls K _ _ l0 0 _ HRA.out.1 HCA.out.1 HCk.out).mono ?_); rintro e w1 ⟨rfl, hb⟩; have HB := ah hb; clear hb) | (go_at_call 165; (with_reducible refine (span_Count.calls K _ _ l0 n _ (Kd.bT HRA.out.1 HB.out) HCA.out.1 HCt.out).mono ?_); rintro e w2 ⟨rfl, hb⟩; have HB2 := ah (aG HB.out HB.out.size hb); clear hb) | (go_at_call 166; (with_reducible refine (pairs_Absolute.calls K _ _ l1 cs _ _ (Kd.bT HRA.out.2 HB2.out) HCA.out.2 HAb.out).mono ?_); rintro e w3 ⟨v3, rfl, ho3, hb⟩; have HB3 := ah (aG HB2.out HB2.out.size hb); obtain ⟨A3, c3, rfl, hc3, VH⟩ := Kd.qy ho3; have Gl := ah (And.intro hc3 VH); clear ho3 VH hc3 hb))
        go_ret2
        exact ⟨_, rfl, Kd.eY _ _ _ _ _, HB3.out⟩
      | some cs =>
        rw [hs] at H HAb
        have hlen := HSL.out cs hs
        have HL := ah hlen
        have HL3 := ah (show cs.length ≤ 9223372036854775807 by have := HM.out.1; omega)
        clear hs hlen
        obtain ⟨e3, he3⟩ : ∃ e : Int, e = 0 := ⟨_, rfl⟩
        replace HAb := ah (show pairs_Absolute.f K l1 = some (cs, e3) by rw [he3]; exact HAb.out)
        subst he3
        cases hany : cs.any (fun x => decide (x < 0)) with
        | true =>
          have H := H.out
          simp only [hany, if_true] at H
          injection H with h4 h5
          subst h4; subst h5
          go_enter Try.func132, Try.ntmps132
          go_wp2_with (first | (go_at_call 164; (with_reducible refine (span_Check.calls K _ _ l0 0 _ HRA.out.1 HCA.out.1 HCk.out).mono ?_); rintro e w1 ⟨rfl, hb⟩; have HB := ah hb; clear hb) | (go_at_call 165; (with_reducible refine (span_Count.calls K _ _ l0 n _ (Kd.bT HRA.out.1 HB.out) HCA.out.1 HCt.out).mono ?_); rintro e w2 ⟨rfl, hb⟩; have HB2 := ah (aG HB.out HB.out.size hb); clear hb) | (go_at_call 166; (with_reducible refine (pairs_Absolute.calls K _ _ l1 cs _ _ (Kd.bT HRA.out.2 HB2.out) HCA.out.2 HAb.out).mono ?_); rintro e w3 ⟨v3, rfl, ho3, hb⟩; have HB3 := ah (aG HB2.out HB2.out.size hb); obtain ⟨A3, c3, rfl, hc3, VH⟩ := Kd.qy ho3; have Gl := ah (And.intro hc3 VH); clear ho3 VH hc3 hb) | (go_at_call 167; (refine (qL 168 #[] (fun x => decide (x < 0)) _ _ cs _ Gl.out.2 Gl.out.1 HL3.out (fun W x _ => OD W x) (enters_of Try.func168 (by kernel_rfl) rfl)).mono ?_); rintro e w4 ⟨rfl, hb⟩; rw [hany]; have HB4 := ah (aG HB3.out HB3.out.size hb); have HC4 := ah (Kd.bT Gl.out.2 hb); clear hb))
          go_ret2
          exact ⟨_, rfl, Kd.eY _ _ _ _ _, HB4.out⟩
        | false =>
          have H := H.out
          simp only [hany, Bool.false_eq_true, if_false] at H
          injection H with h4 h5
          obtain ⟨zs, hz⟩ : ∃ zs, zs = List.zipWith (fun p x => (⟨p, x⟩ : Pr)) (uN 0 l0) cs := ⟨_, rfl⟩
          have HZ := ah (show pairs_Zip_int64.f K l0 cs = some (zs, 0) by
            rw [Xb l0 cs HW.out K (by have := HM.out.2; omega)]
            unfold Ns
            have hpl : (uN 0 l0).length = cs.length := by
              have h1 := rQ l0 0 (fun s hs => (nM l0 _ _ _ (kS HP.out).2 s hs).1)
              have := HN.out; have := HNL.out; have := HL.out
              omega
            rw [if_pos HP.out, if_pos hpl, hz])
          rw [← hz] at h4
          subst h4; subst h5
          clear hz
          go_enter Try.func132, Try.ntmps132
          go_wp2_with (first | (go_at_call 164; (with_reducible refine (span_Check.calls K _ _ l0 0 _ HRA.out.1 HCA.out.1 HCk.out).mono ?_); rintro e w1 ⟨rfl, hb⟩; have HB := ah hb; clear hb) | (go_at_call 165; (with_reducible refine (span_Count.calls K _ _ l0 n _ (Kd.bT HRA.out.1 HB.out) HCA.out.1 HCt.out).mono ?_); rintro e w2 ⟨rfl, hb⟩; have HB2 := ah (aG HB.out HB.out.size hb); clear hb) | (go_at_call 166; (with_reducible refine (pairs_Absolute.calls K _ _ l1 cs _ _ (Kd.bT HRA.out.2 HB2.out) HCA.out.2 HAb.out).mono ?_); rintro e w3 ⟨v3, rfl, ho3, hb⟩; have HB3 := ah (aG HB2.out HB2.out.size hb); obtain ⟨A3, c3, rfl, hc3, VH⟩ := Kd.qy ho3; have Gl := ah (And.intro hc3 VH); clear ho3 VH hc3 hb) | (go_at_call 167; (refine (qL 168 #[] (fun x => decide (x < 0)) _ _ cs _ Gl.out.2 Gl.out.1 HL3.out (fun W x _ => OD W x) (enters_of Try.func168 (by kernel_rfl) rfl)).mono ?_); rintro e w4 ⟨rfl, hb⟩; rw [hany]; have HB4 := ah (aG HB3.out HB3.out.size hb); have HC4 := ah (Kd.bT Gl.out.2 hb); clear hb) | (go_at_call 169; (with_reducible refine (pairs_Zip_int64.calls K _ _ l0 _ _ cs zs 0 _ (Kd.bT HRA.out.1 HB4.out) HCA.out.1 HC4.out Gl.out.1 HZ.out).mono ?_); rintro e w5 ⟨v5, rfl, VI, hb⟩; have KE := ah (aG HB4.out HB4.out.size hb); have Xc := ah (Kd.dh VI HB4.out.size); clear VI hb))
          go_ret2
          exact ⟨_, rfl, Xc.out, KE.out⟩
theorem PI (x y : Int) (hx : 0 ≤ x) (hy : 0 ≤ y) (w : World) : (callFunc 122 #[.int .u64 x, .int .u64 y, .int .u64 0]).run Try.prog w =
  .ok (.value (.tuple #[.int .u64 ((x + y) % 18446744073709551616), .int .u64 ((x + y) / 18446744073709551616)])) w := by
 rw [run_callFunc_extern Try.func122 (by kernel_rfl) (by kernel_rfl) (by kernel_rfl) (e := add64Entry) (by kernel_rfl), run_add64 x y 0 hx hy (by decide) (by decide)]
 simp only [Result.andThen, Int.add_zero]
def rY (l : List Pr) : Int := (l.map (·.f1)).sum
def uo (rs : List (List Pr)) : Int := (rs.map rY).sum
theorem PK {l : List Pr} {i : Nat} (h : i < l.length) : rY (l.take (i + 1)) = rY (l.take i) + l[i].f1 := by
 unfold rY; rw [take_at h, List.map_append, List.sum_append]; simp only [List.map_cons, List.map_nil, List.sum_cons, List.sum_nil, Int.add_zero]
theorem PL {l : List (List Pr)} {i : Nat} (h : i < l.length) : uo (l.take (i + 1)) = uo (l.take i) + rY l[i] := by
 unfold uo; rw [take_at h, List.map_append, List.sum_append]; simp only [List.map_cons, List.map_nil, List.sum_cons, List.sum_nil, Int.add_zero]
theorem ED {l : List Int} (h : ∀ x ∈ l, 0 ≤ x) : 0 ≤ l.sum := by
 induction l with
 | nil => simp
 | cons x l ih => have := ih (fun y hy => h y (List.mem_cons_of_mem _ hy)); have := h x (List.mem_cons_self ..); simp; omega
theorem xK {l : List Pr} (h : ∀ p ∈ l, 0 ≤ p.f1) : 0 ≤ rY l := ED (by intro x hx; obtain ⟨p, hp, rfl⟩ := List.mem_map.1 hx; exact h p hp)
theorem AQ {l : List Pr} (h : ∀ p ∈ l, 0 ≤ p.f1) (i : Nat) : 0 ≤ rY (l.take i) ∧ rY (l.take i) ≤ rY l := by
 have e : rY l = rY (l.take i) + rY (l.drop i) := by
  have : l = l.take i ++ l.drop i := (List.take_append_drop i l).symm
  conv => lhs; rw [this]
  unfold rY; rw [List.map_append, List.sum_append]
 have h1 := xK (l := l.take i) (fun p hp => h p (List.mem_of_mem_take hp))
 have h2 := xK (l := l.drop i) (fun p hp => h p (List.mem_of_mem_drop hp))
 omega
theorem Je {l : List (List Pr)} (h : ∀ r ∈ l, ∀ p ∈ r, 0 ≤ p.f1) (i : Nat) : 0 ≤ uo (l.take i) ∧ uo (l.take i) ≤ uo l := by
 have hn : ∀ (l : List (List Pr)), (∀ r ∈ l, ∀ p ∈ r, 0 ≤ p.f1) → 0 ≤ uo l := fun l h => ED (by intro x hx; obtain ⟨p, hp, rfl⟩ := List.mem_map.1 hx; exact xK (h p hp))
 have e : uo l = uo (l.take i) + uo (l.drop i) := by
  have : l = l.take i ++ l.drop i := (List.take_append_drop i l).symm
  conv => lhs; rw [this]
  unfold uo; rw [List.map_append, List.sum_append]
 have h1 := hn (l.take i) (fun p hp => h p (List.mem_of_mem_take hp))
 have h2 := hn (l.drop i) (fun p hp => h p (List.mem_of_mem_drop hp))
 omega
def pJ (zc : Int) (rows : List (List Pr)) : Int × Bool := if zc + uo rows ≤ 18446744073709551615 then (zc + uo rows, true) else (0, false)
def RJ (w : World) (B : Nat) (rows : List (List Pr)) : Prop :=
 ∀ i (h : i < rows.length), ∃ A c, w.cell? ⟨B, i, none⟩ = some (.slice A rows[i].length c) ∧ rows[i].length ≤ c ∧ Kd.C jB w A rows[i].length rows[i]
set_option maxHeartbeats 8000000 in
set_option maxRecDepth 100000 in
theorem uq (s z zc ct sm : Int) (a5 a6 a7 a8 : Option Addr) (n5 n6 n7 n8 c5 c6 c7 c8 : Nat) (B cp : Nat) (rows : List (List Pr)) (w : World)
  (hzc : u64 zc) (hp : ∀ r ∈ rows, ∀ p ∈ r, 0 ≤ p.f1 ∧ p.f1 ≤ 9223372036854775807) (hl : ∀ r ∈ rows, r.length ≤ 4611686018427387904) (hl2 : rows.length ≤ 4611686018427387904) (hcp : rows.length ≤ cp) (hr : RJ w B rows) :
  Calls Try.prog 133 #[.agg #[.int .i64 s, .int .u64 z, .int .u64 zc, .int .u64 ct, .int .u64 sm, .slice a5 n5 c5, .slice a6 n6 c6, .slice a7 n7 c7, .slice a8 n8 c8], .slice (some ⟨B, 0, none⟩) rows.length cp] w fun e w' => e = .returned (.tuple #[.int .u64 (pJ zc rows).1, .bool (pJ zc rows).2]) ∧ Below w.heap.size w w' := by
 have hu := Try.underlying29
 have hpu := Try.underlying173
 have HZ := ah hzc
 have HP := ah hp
 have HL := ah hl
 have HL2 := ah (And.intro hl2 hcp)
 have HR := ah hr
 have HT := ah (fun i => Je (l := rows) (fun r hr p hp2 => (hp r hr p hp2).1) i)
 clear hzc hp hl hl2 hcp hr
 go_enter Try.func133, Try.ntmps133
 go_wp2
 go_loopg [6, 16] rows.length (fun gg v6 v16 wr => ∃ i : Nat, v6 = .int .u64 (zc + uo (rows.take i)) ∧ v16 = .int .i64 (i : Int) ∧ aj (i + gg = rows.length) ∧ aj (Below w.heap.size w wr) ∧ aj (zc + uo (rows.take i) ≤ 18446744073709551615))
 case atStart => exact ⟨0, by simp [uo], rfl, ⟨by omega⟩, ⟨ak (Below.refl _ _) _⟩, ⟨by have := HZ.out.2; simpa [uo] using this⟩⟩
 case round =>
  obtain ⟨i, rfl, rfl, HI, HB, HS⟩ := hrel
  by_cases hlt : i < rows.length
  ·have hlti : (i : Int) < (rows.length : Int) := by omega
   have hi0 : (0 : Int) ≤ (i : Int) := by omega
   obtain ⟨A, c, hc, hcl, hC⟩ := HR.out i hlt
   replace hc := (HB.out.cell (World.block_lt_of_cell? w _ hc)).trans hc
   have HC := ah (And.intro hcl hC)
   have hmem : rows[i] ∈ rows := List.getElem_mem hlt
   have HP2 := ah (And.intro (HP.out _ hmem) (HL.out _ hmem))
   have HSR := ah (PL hlt)
   generalize rows[i] = row at hc HC HP2 HSR
   clear hmem hcl hC
   obtain ⟨ko, rfl⟩ : ∃ ko, gk = ko + 1 := ⟨gk - 1, by have := HI.out; omega⟩
   go_wp2
   go_loopg [6, 22] row.length (fun gj v6 v22 wj => ∃ j : Nat, v6 = .int .u64 (zc + uo (rows.take i) + rY (row.take j)) ∧ v22 = .int .i64 (j : Int) ∧ aj (j + gj = row.length) ∧ aj (Below w.heap.size w wj) ∧ aj (zc + uo (rows.take i) + rY (row.take j) ≤ 18446744073709551615))
   case atStart => exact ⟨0, by simp [rY], rfl, ⟨by omega⟩, HB, ⟨by have := HS.out; simpa [rY] using this⟩⟩
   case round =>
    obtain ⟨j, rfl, rfl, HJ, HBj, HSj⟩ := hrel
    by_cases hltj : j < row.length
    ·have hltji : (j : Int) < (row.length : Int) := by omega
     have hj0 : (0 : Int) ≤ (j : Int) := by omega
     obtain ⟨k1, rfl⟩ : ∃ k1, gk = k1 + 1 := ⟨gk - 1, by have := HJ.out; omega⟩
     obtain ⟨ad, e1, hx0, hx1⟩ := qH (Kd.bT HC.out.2 HBj.out) (j : Int) hj0 hltji
     cases e1
     rw [AO hltj, Int.toNat_natCast] at hx0 hx1
     have hq := HP2.out.1 _ (List.getElem_mem hltj)
     have HV := ah (PK hltj)
     have hT := HT.out (i + 1)
     have hTi := HT.out i
     have hV := AQ (l := row) (fun p hp => (HP2.out.1 p hp).1) (j + 1)
     have hV0 := AQ (l := row) (fun p hp => (HP2.out.1 p hp).1) j
     have hz := HZ.out
     generalize row[j] = x at hx0 hx1 HV hq
     have hcv : IntKind.u64.wrap x.f1 = x.f1 := by
      have : IntKind.u64.wrap x.f1 = x.f1 % 18446744073709551616 := rfl
      rw [this]; omega
     obtain ⟨acc, hacc⟩ : ∃ acc, acc = zc + uo (rows.take i) + rY (row.take j) := ⟨_, rfl⟩
     rw [← hacc]
     have hs := HSj.out
     rw [← hacc] at hs
     have ha0 : 0 ≤ acc := by have := hz.1; omega
     have hadd := fun w => PI acc x.f1 ha0 hq.1 w
     by_cases hov : acc + x.f1 ≤ 18446744073709551615
     ·have e1 : (acc + x.f1) % 18446744073709551616 = acc + x.f1 := by omega
      have e2 : (acc + x.f1) / 18446744073709551616 = 0 := by omega
      simp only [e1, e2] at hadd
      have HA := ah (And.intro hacc hov)
      clear e1 e2 hacc hov ha0 hs hz hV hV0 hT hTi hq
      go_wp2_with (simp only [hcv, hadd])
      go_roundg k1
      case measure => omega
      case rel =>
       refine ⟨j + 1, ?_, by rw [wrap_succ (by have := HP2.out.2; omega)], ⟨by have := HJ.out; omega⟩, ⟨ak HBj.out _⟩, ⟨?_⟩⟩
       ·rw [HV.out, HA.out.1]; congr 1; omega
       ·have h1 := HA.out.1; have h2 := HA.out.2; have h3 := HV.out; omega
     ·have e1 : (acc + x.f1) / 18446744073709551616 = 1 := by omega
      simp only [e1] at hadd
      have HF := ah (show pJ zc rows = (0, false) by
       unfold pJ
       rw [if_neg]
       have h3 := HV.out
       have h4 := HSR.out
       omega)
      clear e1 hacc hov ha0 hs hz hV hV0 hT hTi hq
      go_wp2_with (simp only [hcv, hadd])
      go_ret2
      exact ⟨by rw [HF.out]; rfl, ak HBj.out _⟩
    ·have hltji : ¬ (j : Int) < (row.length : Int) := by omega
     have HE := ah (show zc + uo (rows.take i) + rY (row.take j) = zc + uo (rows.take (i + 1)) by rw [HSR.out, List.take_of_length_le (l := row) (i := j) (by omega)]; omega)
     go_wp2
     go_roundg ko
     case measure => omega
     case rel =>
      refine ⟨i + 1, by rw [HE.out], by rw [wrap_succ (by have := HL2.out.1; omega)], ⟨by have := HI.out; omega⟩, ⟨HBj.out⟩, ⟨by rw [← HE.out]; exact HSj.out⟩⟩
  ·have hlti : ¬ (i : Int) < (rows.length : Int) := by omega
   have HF := ah (show pJ zc rows = (zc + uo (rows.take i), true) by
    unfold pJ
    have := HS.out
    rw [List.take_of_length_le (l := rows) (i := i) (by omega)] at this ⊢
    rw [if_pos this])
   go_wp2
   go_ret2
   exact ⟨by rw [HF.out]; rfl, HB.out⟩
attribute [local go_sem] iV iW jH jI gW gX iY iZ
def hist_NaN.f (a0 : Int) : Option (Bool) := some (decide ((Go.bits .andNot .u64 a0 9223372036854775808) > 9218868437227405312))
set_option maxHeartbeats 8000000 in
set_option maxRecDepth 100000 in
theorem hist_NaN.calls (a0 : Int) (r : Bool) (w : World) (h : hist_NaN.f a0 = some r) :
  Calls Try.prog 130 #[.int .u64 a0] w fun e w' => e = .returned (.bool r) ∧ cZ w w' := by
 have H : (some (decide ((Go.bits .andNot .u64 a0 9223372036854775808) > 9218868437227405312))) = some r := h
 clear h
 obtain rfl := Option.some.inj H
 go_enter Try.func130, Try.ntmps130
 go_wp2
 go_ret
 exact ⟨by first | rfl | (simp; done) | (simp [*]; done), by repeat (first | exact cZ.refl _ | apply cZ.step)⟩
def hist_Threshold.f (a0 : Int) : Option (Bool) := some (decide (a0 < 9218868437227405312))
set_option maxHeartbeats 8000000 in
set_option maxRecDepth 100000 in
theorem hist_Threshold.calls (a0 : Int) (r : Bool) (w : World) (h : hist_Threshold.f a0 = some r) :
  Calls Try.prog 131 #[.int .u64 a0] w fun e w' => e = .returned (.bool r) ∧ cZ w w' := by
 have H : (some (decide (a0 < 9218868437227405312))) = some r := h
 clear h
 obtain rfl := Option.some.inj H
 go_enter Try.func131, Try.ntmps131
 go_wp2
 go_ret
 exact ⟨by first | rfl | (simp; done) | (simp [*]; done), by repeat (first | exact cZ.refl _ | apply cZ.step)⟩
def hist_lay.f (k : Nat) (l0 : List (gq)) : Option ((List (dQ)) × List Int × Int) := (pairs_Unzip_int64.f k l0).bind fun kR => (if kR.2.2 = 0 then ((pairs_Deltas.f k kR.2.1).bind fun xM => (if xM.2 = 0 then (some (kR.1, xM.1, 0)) else (some (([] : List (dQ)), ([] : List Int), xM.2)))) else (some (([] : List (dQ)), ([] : List Int), kR.2.2)))
set_option maxHeartbeats 8000000 in
set_option maxRecDepth 100000 in
theorem hist_lay.calls (k : Nat) (A0 : Option Addr) (c0 : Nat) (l0 : List (gq)) (r1 : List (dQ)) (r2 : List Int) (r3 : Int) (w : World) (hr0 : Kd.C jB w A0 l0.length l0) (hc0 : l0.length ≤ c0) (h : hist_lay.f k l0 = some (r1, r2, r3)) :
  Calls Try.prog 125 #[.slice A0 l0.length c0] w fun e w' => ∃ mW Np : Value, e = .returned (.tuple #[mW, Np, .int .i64 r3]) ∧ Kd.R jq 113 w' w.heap.size (fun _ => True) mW r1 ∧ Kd.R (Kd.int .i64) 2 w' w.heap.size (fun _ => True) Np r2 ∧ Below w.heap.size w w' := by
 have HR0 := ah hr0
 have uH := ah hc0
 clear hr0 hc0
 have HB := ah (Below.refl w.heap.size w)
 have H : ((pairs_Unzip_int64.f k l0).bind fun kR => (if kR.2.2 = 0 then ((pairs_Deltas.f k kR.2.1).bind fun xM => (if xM.2 = 0 then (some (kR.1, xM.1, 0)) else (some (([] : List (dQ)), ([] : List Int), xM.2)))) else (some (([] : List (dQ)), ([] : List Int), kR.2.2)))) = some (r1, r2, r3) := h
 clear h
 replace H := Option.bind_eq_some_iff.mp H
 obtain ⟨⟨dV, fH, dZ⟩, tC, H⟩ := H
 replace H : (if dZ = 0 then ((pairs_Deltas.f k fH).bind fun xM => (if xM.2 = 0 then (some (dV, xM.1, 0)) else (some (([] : List (dQ)), ([] : List Int), xM.2)))) else (some (([] : List (dQ)), ([] : List Int), dZ))) = some (r1, r2, r3) := H
 have A2 := ah tC
 clear tC
 by_cases c3 : dZ = 0
 ·rw [if_pos c3] at H
  have c3b0 : (dZ == 0) = true := beq_iff_eq.mpr c3
  have c3b1 : (dZ != 0) = false := bne_eq_false_iff_eq.mpr c3
  clear c3
  replace H := Option.bind_eq_some_iff.mp H
  obtain ⟨⟨lM, t109⟩, VJ, H⟩ := H
  replace H : (if t109 = 0 then (some (dV, lM, 0)) else (some (([] : List (dQ)), ([] : List Int), t109))) = some (r1, r2, r3) := H
  have A4 := ah VJ
  clear VJ
  by_cases c5 : t109 = 0
  ·rw [if_pos c5] at H
   have c5b0 : (t109 == 0) = true := beq_iff_eq.mpr c5
   have c5b1 : (t109 != 0) = false := bne_eq_false_iff_eq.mpr c5
   clear c5
   simp only [Option.some.injEq, Prod.mk.injEq] at H
   obtain ⟨rfl, rfl, rfl⟩ := H
   go_enter Try.func125, Try.ntmps125
   go_wp2_with (first | ((with_reducible refine bP (f := 162) rfl ?_); refine gU (some 11) Try.func162 #[.slice A0 l0.length c0] ?_; (with_reducible refine (pairs_Unzip_int64.calls k _ _ l0 dV fH dZ _ ?dK ?dL A2.out).mono ?_); (case dK => exact Kd.jV HR0.out); (case dL => exact uH.out); rintro e w6 ⟨xH, Jf, rfl, ho0, ho1, hb⟩; refine ⟨_, rfl, ?_⟩; have eF := ah (Kd.dh ho0 (aQ (bg HB.out))); have kG := ah (Kd.dh ho1 (aQ (bg HB.out))); replace HB := ah (aZ (bg HB.out) hb); (try clear hb); (try clear hb2); (try clear hk); (try clear hi); (try clear ho0); (try clear ho1); clear A2; obtain ⟨Nl, JH, UA⟩ := Kd.dw kG.out; subst UA) | ((with_reducible refine bP (f := 163) rfl ?_); refine gU (some 20) Try.func163 #[.slice Nl fH.length JH] ?_; (with_reducible refine (pairs_Deltas.calls k _ _ fH lM t109 _ ?dK ?dL A4.out).mono ?_); (case dK => exact Kd.jV (Kd.bF kG.out).2.2); (case dL => exact (Kd.bF kG.out).2.1); rintro e w8 ⟨qw, rfl, ho0, hb⟩; refine ⟨_, rfl, ?_⟩; have eu := ah (Kd.dh (Kd.jh ho0 (Kd.kW (Kd.fJ kG.out))) (aQ (bg HB.out))); replace eF := ah (Kd.lu eF.out hb); replace kG := ah (Kd.fV (Kd.fJ kG.out) (Kd.iI ho0) hb); replace HB := ah (aZ (bg HB.out) hb); (try clear hb); (try clear hb2); (try clear hk); (try clear hi); (try clear ho0); clear A4))
   go_ret3
   exact ⟨_, _, by first | rfl | (simp [aU, aV] <;> rfl) | (simp [*, aU, aV] <;> rfl), by (repeat with_reducible refine Kd.kQ ?_); exact eF.out, by (repeat with_reducible refine Kd.kQ ?_); exact Kd.bZ eu.out (fun _ hk => trivial), by repeat (first | (with_reducible first | exact HB.out | apply ak | apply ay | apply aH) | exact HB.out)⟩
  rw [if_neg c5] at H
  have c5b0 : (t109 == 0) = false := beq_eq_false_iff_ne.mpr c5
  have c5b1 : (t109 != 0) = true := bne_iff_ne.mpr c5
  simp only [Option.some.injEq, Prod.mk.injEq] at H
  obtain ⟨rfl, rfl, rfl⟩ := H
  go_enter Try.func125, Try.ntmps125
  go_wp2_with (first | ((with_reducible refine bP (f := 162) rfl ?_); refine gU (some 11) Try.func162 #[.slice A0 l0.length c0] ?_; (with_reducible refine (pairs_Unzip_int64.calls k _ _ l0 dV fH dZ _ ?dK ?dL A2.out).mono ?_); (case dK => exact Kd.jV HR0.out); (case dL => exact uH.out); rintro e w9 ⟨xH, Jf, rfl, ho0, ho1, hb⟩; refine ⟨_, rfl, ?_⟩; have eF := ah (Kd.dh ho0 (aQ (bg HB.out))); have kG := ah (Kd.dh ho1 (aQ (bg HB.out))); replace HB := ah (aZ (bg HB.out) hb); (try clear hb); (try clear hb2); (try clear hk); (try clear hi); (try clear ho0); (try clear ho1); clear A2; obtain ⟨tK, tN, Kv⟩ := Kd.dw kG.out; subst Kv) | ((with_reducible refine bP (f := 163) rfl ?_); refine gU (some 20) Try.func163 #[.slice tK fH.length tN] ?_; (with_reducible refine (pairs_Deltas.calls k _ _ fH lM t109 _ ?dK ?dL A4.out).mono ?_); (case dK => exact Kd.jV (Kd.bF kG.out).2.2); (case dL => exact (Kd.bF kG.out).2.1); rintro e VF ⟨qw, rfl, ho0, hb⟩; refine ⟨_, rfl, ?_⟩; have eu := ah (Kd.dh (Kd.jh ho0 (Kd.kW (Kd.fJ kG.out))) (aQ (bg HB.out))); replace eF := ah (Kd.lu eF.out hb); replace kG := ah (Kd.fV (Kd.fJ kG.out) (Kd.iI ho0) hb); replace HB := ah (aZ (bg HB.out) hb); (try clear hb); (try clear hb2); (try clear hk); (try clear hi); (try clear ho0); clear A4))
  go_ret3
  exact ⟨_, _, by first | rfl | (simp [aU, aV] <;> rfl) | (simp [*, aU, aV] <;> rfl), by first | exact Kd.eY _ _ _ _ _ | exact Kd.ig _ _ _ _ _ | exact Kd.iq _ _ _ _ _ | exact Kd.gY _ _ _ _ _ | exact Kd.gZ _ _ _ _ _, by first | exact Kd.eY _ _ _ _ _ | exact Kd.ig _ _ _ _ _ | exact Kd.iq _ _ _ _ _ | exact Kd.gY _ _ _ _ _ | exact Kd.gZ _ _ _ _ _, by repeat (first | (with_reducible first | exact HB.out | apply ak | apply ay | apply aH) | exact HB.out)⟩
 rw [if_neg c3] at H
 have c3b0 : (dZ == 0) = false := beq_eq_false_iff_ne.mpr c3
 have c3b1 : (dZ != 0) = true := bne_iff_ne.mpr c3
 simp only [Option.some.injEq, Prod.mk.injEq] at H
 obtain ⟨rfl, rfl, rfl⟩ := H
 go_enter Try.func125, Try.ntmps125
 go_wp2_with (first | ((with_reducible refine bP (f := 162) rfl ?_); refine gU (some 11) Try.func162 #[.slice A0 l0.length c0] ?_; (with_reducible refine (pairs_Unzip_int64.calls k _ _ l0 dV fH dZ _ ?dK ?dL A2.out).mono ?_); (case dK => exact Kd.jV HR0.out); (case dL => exact uH.out); rintro e w12 ⟨xH, Jf, rfl, ho0, ho1, hb⟩; refine ⟨_, rfl, ?_⟩; have eF := ah (Kd.dh ho0 (aQ (bg HB.out))); have kG := ah (Kd.dh ho1 (aQ (bg HB.out))); replace HB := ah (aZ (bg HB.out) hb); (try clear hb); (try clear hb2); (try clear hk); (try clear hi); (try clear ho0); (try clear ho1); clear A2))
 go_ret3
 exact ⟨_, _, by first | rfl | (simp [aU, aV] <;> rfl) | (simp [*, aU, aV] <;> rfl), by first | exact Kd.eY _ _ _ _ _ | exact Kd.ig _ _ _ _ _ | exact Kd.iq _ _ _ _ _ | exact Kd.gY _ _ _ _ _ | exact Kd.gZ _ _ _ _ _, by first | exact Kd.eY _ _ _ _ _ | exact Kd.ig _ _ _ _ _ | exact Kd.iq _ _ _ _ _ | exact Kd.gY _ _ _ _ _ | exact Kd.gZ _ _ _ _ _, by repeat (first | (with_reducible first | exact HB.out | apply ak | apply ay | apply aH) | exact HB.out)⟩
end Go.Proofs.Ytooiccpmngmapaa.P