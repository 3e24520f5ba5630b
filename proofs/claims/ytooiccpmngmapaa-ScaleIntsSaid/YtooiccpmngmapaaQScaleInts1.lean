/- ScaleInts: the part that this text bears of the proof that the statement answers true for every input. No condition. -/
import Derived.Test.YtooiccpmngmapaaQScaleInts0
import Derived.RangeFuncNested
import Derived.RangeFuncBound
import Derived.RangeFuncCalls
import Derived.RangeFuncLeaves
import Derived.RangeFuncBox
import Derived.OwnWalkIn
import Derived.TacticsInMore
import Derived.LoopNIn
import Derived.LoopIn
import Derived.Laws.Externs
import Derived.Shelf.Spec.BitsCarry
set_option linter.unusedVariables false
set_option linter.unusedSimpArgs false
namespace Go.Proofs.Ytooiccpmngmapaa.P
open Go.RowKit Go.Shelf Go.Proofs.YtooiccpmngmapaaW.PrintWords Go.Proofs.YtooiccpmngmapaaW.PrintLast Go.Proofs.YtooiccpmngmapaaW.PrintMore
attribute [local go_sem] Oper.semAt_some
def pq : Int → Nat → List Int
 | _, 0 => []
 | a, n + 1 => a :: pq (wrap64 (a + 1)) n
def o8 : Int → Nat → Int
 | a, 0 => a
 | a, n + 1 => o8 (wrap64 (a + 1)) n
theorem Fa : ∀ (n : Nat) (a : Int), pq a (n + 1) = pq a n ++ [o8 a n]
  | 0, _ => rfl
  | n + 1, a => by
    show a :: pq (wrap64 (a + 1)) (n + 1) = a :: pq (wrap64 (a + 1)) n ++ [o8 (wrap64 (a + 1)) n]
    rw [Fa n]; rfl
theorem DN : ∀ (n : Nat) (a : Int), o8 a (n + 1) = wrap64 (o8 a n + 1)
  | 0, _ => rfl
  | n + 1, a => by
    show o8 (wrap64 (a + 1)) (n + 1) = wrap64 (o8 (wrap64 (a + 1)) n + 1)
    rw [DN n]
theorem tN : ∀ (n : Nat) (a : Int), (pq a n).length = n
 | 0, _ => rfl
 | n + 1, a => by show (pq (wrap64 (a + 1)) n).length + 1 = n + 1; rw [tN n]
def fM : Int → List dP → List Int
 | _, [] => []
 | a, s :: r => pq (wrap64 (a + s.f0)) s.f1.toNat ++ fM (o8 (wrap64 (a + s.f0)) s.f1.toNat) r
def yu : Int → List dP → Int
 | a, [] => a
 | a, s :: r => yu (o8 (wrap64 (a + s.f0)) s.f1.toNat) r
theorem Ag (s : dP) : ∀ (l : List dP) (a : Int), fM a (l ++ [s]) = fM a l ++ pq (wrap64 (yu a l + s.f0)) s.f1.toNat
 | [], a => by simp [fM, yu]
 | x :: l, a => by simp [fM, yu, Ag s l]
theorem Fb (s : dP) : ∀ (l : List dP) (a : Int), yu a (l ++ [s]) = o8 (wrap64 (yu a l + s.f0)) s.f1.toNat
 | [], a => by simp [yu]
 | x :: l, a => by simp [yu, Fb s l]
theorem Dp (l : List dP) (k : Nat) : (fM 0 (l.take k)).length ≤ (fM 0 l).length := by
 have : ∀ (l r : List dP) (a : Int), (fM a l).length ≤ (fM a (l ++ r)).length := by
  intro l
  induction l with
  | nil => intro r a; simp [fM]
  | cons x l ih => intro r a; simp [fM]; exact ih _ _
 have h := this (l.take k) (l.drop k) 0
 rwa [List.take_append_drop] at h
theorem En (l r : List dP) : fM 0 l <+: fM 0 (l ++ r) := by
 have : ∀ (l r : List dP) (a : Int), fM a l <+: fM a (l ++ r) := by
  intro l
  induction l with
  | nil => intro r a; simp [fM]
  | cons x l ih => intro r a; simp only [fM, List.cons_append]; exact (List.prefix_append_right_inj _).2 (ih _ _)
 exact this l r 0
def yx (ps : List Int) : List (Int × Int) := ps.zipIdx.map fun p => (((p.2 : Nat) : Int), p.1)
theorem Qy (ps : List Int) (p : Int) : yx (ps ++ [p]) = yx ps ++ [((ps.length : Int), p)] := by
 simp [yx, List.zipIdx_append]
theorem DR (ps : List Int) : (yx ps).length = ps.length := by simp [yx]
theorem DT {a b : List Int} (h : a <+: b) : yx a <+: yx b := by
 obtain ⟨c, rfl⟩ := h
 unfold yx
 rw [List.zipIdx_append, List.map_append]
 exact List.prefix_append _ _
def qF (n0 n1 : Nat) (W W' : World) : Prop := W.heap.size ≤ W'.heap.size ∧ ∀ k, n0 ≤ k → k < n1 → W'.heap[k]? = W.heap[k]?
theorem qF.refl (n0 n1 : Nat) (W : World) : qF n0 n1 W W := ⟨Nat.le_refl _, fun _ _ _ => rfl⟩
theorem qF.trans {n0 n1 : Nat} {A B C : World} (h : qF n0 n1 A B) (k : qF n0 n1 B C) : qF n0 n1 A C := ⟨Nat.le_trans h.1 k.1, fun i h0 h1 => (k.2 i h0 h1).trans (h.2 i h0 h1)⟩
theorem qF.put {n0 n1 : Nat} {w : World} (hn : n1 ≤ w.heap.size) (W : World) (l : Nat) (o o' : Obj) (hl : w.heap.size ≤ l) (h : W.heap[l]? = some o) (_ : o.isCells = false) (_ : o.isWalk = false) : qF n0 n1 W (W.putObj l o') := by
 have hg := grownBy_putObj' W l o'
 refine ⟨hg.size, fun k h0 h1 => hg.block k ?_ (fun e => by injection e with e; omega)⟩
 have := (Array.getElem?_eq_some_iff.1 h).1
 omega
theorem qF.of_below {n0 n1 : Nat} {B : Nat} {W W' : World} (h : Below B W W') (hn : n1 ≤ B) : qF n0 n1 W W' := ⟨h.size, fun k _ h1 => h.block k (by omega)⟩
def tV (n0 n1 Bn : Nat) (v : Value) (l : List dP) (W : World) : Prop :=
 (n0 ≤ Bn ∧ Bn < n1) ∧ n1 ≤ W.heap.size ∧ W.heap[Bn]? = some (.cells #[v] 26 (0, 0)) ∧ Kd.R jE 113 W n0 (fun k => n0 ≤ k ∧ k < n1) v l
theorem tV.keep {n0 n1 Bn : Nat} {v : Value} {l : List dP} {W W' : World} (h : tV n0 n1 Bn v l W) (k : qF n0 n1 W W') : tV n0 n1 Bn v l W' :=
 ⟨h.1, Nat.le_trans h.2.1 k.1, (k.2 Bn h.1.1 h.1.2).trans h.2.2.1, Kd.Df h.2.2.2 (fun q hq => k.2 q hq.1 hq.2)⟩
set_option maxRecDepth 100000 in
set_option maxHeartbeats 4000000 in
theorem all1_in (n : Nat) (hn : 1 ≤ n) (L n0 n1 Bn : Nat) (v : Value) (l : List dP) (k : Nat) (hck : span_Check.f k l = some 0) (hN : (fM 0 l).length ≤ 4611686018427387904) (J Jx : List (Int × Int) → World → Prop)
    (hJ : ∀ s W W', J s W → W.grownBy W' none → J s W')
    (hY : ∀ pre x W, J pre W → pre.length < (fM 0 l).length → YieldAt Fence.wide (n - 1) Try.prog L #[.int .i64 x.1, .int .i64 x.2] W fun e W' =>
      (e = .returned (.bool true) ∧ J (pre ++ [x]) W' ∧ qF n0 n1 W W') ∨ (e = .returned (.bool false) ∧ Jx (pre ++ [x]) W'))
    (W : World) (hS : tV n0 n1 Bn v l W) (h0 : J [] W) :
    CallsIn Fence.wide n Try.prog 185 #[.func (.yield L) #[] #[], .pointer (some ⟨Bn, 0, none⟩)] W fun e W' => (∃ v, e = .returned v) ∧
      ((∃ ys, ys = yx (fM 0 l) ∧ J ys W') ∨ (∃ pre, pre <+: yx (fM 0 l) ∧ Jx pre W')) := by
  have hu := Try.underlying113
  have hf : Fence.wide.fn 164 := trivial
  obtain ⟨A, c, rfl, hlc, hC⟩ := Kd.qo hS.2.2.2
  have hcell : W.cell? ⟨Bn, 0, none⟩ = some (.slice A l.length c) := by
    have := ay (i := 0) hS.2.2.1
    rw [this]; rfl
  have hm : l.length ≤ 9223372036854775807 := hC.2.1
  have HCk := ah (span_Check.calls k A c l 0 W hC hlc hck)
  have HJ := ah hJ
  have HY := ah hY
  have HS := ah hS
  have H0 := ah h0
  clear hJ hY hS h0 hC
  refine callsIn_of_wp Try.func185 rfl trivial ?_ rfl
  simp only [Try.ntmps185, List.size_toArray, List.length_cons, List.length_nil, Nat.reduceAdd, Nat.reduceSub, Array.replicate_succ, Array.replicate_zero, List.push_toArray, List.append_toArray, List.nil_append, List.cons_append]
  gi_wp2_with (gi_at_call 164; refine (callsIn_wide.2 HCk.out).mono ?_; rintro e w1 ⟨rfl, hb⟩; have HB := ah hb; have hcell1 := (hb.cell (World.block_lt_of_cell? W _ hcell)).trans hcell; clear hb hcell)
  have HS1 := ah (HS.out.keep (qF.of_below HB.out HS.out.2.1))
  have H1 := ah (HJ.out _ _ _ H0.out (ql HB.out none))
  clear HS H0 HB HCk
  gi_loopw [3, 4, 12] (fun s3 s4 s12 wr => ∃ kk : Nat, kk ≤ l.length ∧ s12 = .int .i64 kk ∧ s3 = .int .i64 (yu 0 (l.take kk)) ∧ s4 = .int .i64 ((fM 0 (l.take kk)).length : Int) ∧ aj (tV n0 n1 Bn (.slice A l.length c) l wr) ∧ aj (J (yx (fM 0 (l.take kk))) wr)) (fun _ _ s12 _ => l.length - (intOf s12).toNat)
  case atStart => exact ⟨0, Nat.zero_le _, rfl, by simp [yu], by simp [fM], HS1, by simpa [fM, yx] using H1⟩
  case round =>
    obtain ⟨kk, hkk, rfl, rfl, rfl, HS, Xd⟩ := hrel
    clear HS1 H1
    by_cases hlt : kk < l.length
    · have hlti : (kk : Int) < (l.length : Int) := by omega
      have hC := (Kd.bD HS.out.2.2.2).2.2
      obtain ⟨ad, e1, hx0, hx1⟩ := pU hC kk (by omega) (by omega)
      cases e1
      clear hC
      have hrd : bf l (kk : Int) = l[kk] := by unfold bf; simp [List.getD, hlt]
      rw [hrd, Int.toNat_natCast] at hx0 hx1
      have HT := ah (List.take_succ_eq_append_getElem hlt)
      generalize l[kk] = y at hx0 hx1 HT hrd
      clear hrd
      obtain ⟨wo, rfl⟩ : ∃ wo : World, wo = wr := ⟨_, rfl⟩
      have hple : (fM 0 (l.take kk)).length ≤ 4611686018427387904 := Nat.le_trans (Dp l kk) hN
      have Zn := ah (Ag y (l.take kk) 0)
      have HE1 := ah (Fb y (l.take kk) 0)
      have HLE : aj ((fM 0 (l.take kk)).length + y.f1.toNat ≤ (fM 0 l).length ∧ fM 0 (l.take kk) ++ pq (wrap64 (yu 0 (l.take kk) + y.f0)) y.f1.toNat <+: fM 0 l) := by
        have h := En (l.take (kk + 1)) (l.drop (kk + 1))
        rw [List.take_append_drop, HT.out, Zn.out] at h
        refine ⟨⟨?_, h⟩⟩
        have := h.length_le
        rwa [List.length_append, tN] at this
      rw [← HT.out] at Zn HE1
      clear HT
      generalize yu 0 (l.take kk) = at0 at Zn HE1 HLE
      generalize fM 0 (l.take kk) = ps at Zn HLE Xd hple
      have HS0 := ah (HS.out.keep (qF.of_below (ak (Below.refl _ wo) (.cells #[.int .i64 y.f0, .int .i64 y.f1] 113)) HS.out.2.1))
      have HJ1 := ah (HJ.out _ _ _ Xd.out (ql (ak (Below.refl _ wo) (.cells #[.int .i64 y.f0, .int .i64 y.f1] 113)) none))
      clear HS Xd
      gi_wp2
      gi_loopw [3, 4, 22] (fun s3 s4 s22 wr => ∃ i : Nat, i ≤ y.f1.toNat ∧ s22 = .int .i64 i ∧ s3 = .int .i64 (o8 (wrap64 (at0 + y.f0)) i) ∧ s4 = .int .i64 ((ps.length : Int) + (i : Int)) ∧ aj (tV n0 n1 Bn (.slice (some ad) l.length c) l wr) ∧ aj (J (yx (ps ++ pq (wrap64 (at0 + y.f0)) i)) wr)) (fun _ _ s22 _ => (y.f1 - intOf s22).toNat)
      case atStart => exact ⟨0, Nat.zero_le _, rfl, rfl, by simp, HS0, by simpa [pq] using HJ1⟩
      case round =>
        obtain ⟨i, hi, rfl, rfl, rfl, HS, Xd⟩ := hrel
        clear HS0 HJ1
        by_cases hli : (i : Int) < y.f1
        · have hlen : (ps ++ pq (wrap64 (at0 + y.f0)) i).length = ps.length + i := by rw [List.length_append, tN]
          have hlt2 : ps.length + i < (fM 0 l).length := by have := HLE.out.1; omega
          have hnx : (ps.length : Int) + (i : Int) + 1 ≤ 4611686018427387904 := by omega
          have hn0 : 0 ≤ (ps.length : Int) + (i : Int) := by omega
          have hy1 : y.f1 ≤ 4611686018427387904 := by have := HLE.out.1; omega
          obtain ⟨fn, tmps, assign, body, hy, hR⟩ := HY.out (yx (ps ++ pq (wrap64 (at0 + y.f0)) i)) ((ps.length : Int) + (i : Int), o8 (wrap64 (at0 + y.f0)) i) wr Xd.out (by rw [DR, hlen]; exact hlt2)
          dsimp only at hy
          have HA := ah (Fa i (wrap64 (at0 + y.f0)))
          have HE := ah (DN i (wrap64 (at0 + y.f0)))
          have HNS := ah (Qy (ps ++ pq (wrap64 (at0 + y.f0)) i) (o8 (wrap64 (at0 + y.f0)) i))
          have HL := ah hlen
          have HRR := ah hR
          clear hR hlen Xd
          gi_wp2
          refine HRR.out.mono ?_
          rintro e W3 (⟨rfl, hJ3, hk3⟩ | ⟨rfl, hJx3⟩)
          · have HJ3 := ah hJ3
            have HS3 := ah (HS.out.keep hk3)
            clear hJ3 hk3
            gi_wp2
            go_roundw
            case rel => 
              refine ⟨i + 1, by omega, by go_num, by rw [HE.out], by go_num, HS3, ⟨?_⟩⟩
              rw [HA.out, ← List.append_assoc, HNS.out, HL.out]
              exact HJ3.out
            case measure => simp [intOf]; omega
          · have HX := ah hJx3
            clear hJx3
            gi_wp2
            refine bodyPost_ret (results_none rfl _ _ _) rfl ?_
            refine ⟨⟨_, rfl⟩, .inr ⟨_, ?_, HX.out⟩⟩
            have h1 := DT HLE.out.2
            have hi1 : i + 1 ≤ y.f1.toNat := by omega
            have h2 : ps ++ pq (wrap64 (at0 + y.f0)) (i + 1) <+: ps ++ pq (wrap64 (at0 + y.f0)) y.f1.toNat := by
              refine (List.prefix_append_right_inj _).2 ?_
              have : ∀ (m j : Nat) (a : Int), j ≤ m → pq a j <+: pq a m := by
                intro m
                induction m with
                | zero => intro j a hj; obtain rfl : j = 0 := by omega
                          exact List.prefix_rfl
                | succ m ih =>
                  intro j a hj
                  cases j with
                  | zero => exact List.nil_prefix
                  | succ j => exact (List.cons_prefix_cons).2 ⟨rfl, ih j _ (by omega)⟩
              exact this _ _ _ hi1
            have h3 := (DT h2).trans h1
            rw [HA.out, ← List.append_assoc, HNS.out, HL.out] at h3
            exact h3
        · have hie : i = y.f1.toNat := by omega
          have hli' : ¬ (i : Int) < y.f1 := hli
          gi_wp2
          go_roundw
          case rel =>
            refine ⟨kk + 1, by omega, by go_num, ?_, ?_, HS, ?_⟩
            · rw [HE1.out, hie]
            · rw [Zn.out, List.length_append, tN, hie]; go_num
            · rw [Zn.out, ← hie]; exact Xd
          case measure => simp [intOf]; omega
    · have hlti : ¬ (kk : Int) < (l.length : Int) := by omega
      have hk : l.take kk = l := List.take_of_length_le (by omega)
      have HK := ah hk
      clear hk
      gi_wp2
      go_end0
      have hj := Xd.out
      rw [HK.out] at hj
      exact ⟨⟨_, rfl⟩, .inl hj⟩
theorem all_in (n : Nat) (hn : 1 ≤ n) (A0 : Option Addr) (c0 : Nat) (l0 : List dP) (w : World) (hr0 : Kd.C jE w A0 l0.length l0) (hc0 : l0.length ≤ c0) (hm : l0.length < 8796093022208) :
  CallsIn Fence.wide n Try.prog 184 #[.slice A0 l0.length c0] w fun e w' => ∃ (Bn : Nat) (v : Value), e = .returned (.func (.func 185) #[] #[.pointer (some ⟨Bn, 0, none⟩)]) ∧ tV w.heap.size w'.heap.size Bn v l0 w' ∧ Below w.heap.size w w' := by
 have hf : Fence.wide.fn 138 := trivial
 have HC := ah (slices_Clone_span.calls A0 c0 l0 l0 w hr0 hc0 (by unfold slices_Clone_span.f; rw [if_pos hm]))
 clear hr0 hc0 hm
 refine callsIn_of_wp Try.func184 rfl trivial ?_ rfl
 simp only [Try.ntmps184, List.size_toArray, List.length_cons, List.length_nil, Nat.reduceAdd, Nat.reduceSub, Array.replicate_succ, Array.replicate_zero, List.push_toArray, List.append_toArray, List.nil_append, List.cons_append]
 gi_wp2_with (gi_at_call 138; refine (callsIn_wide.2 HC.out).mono ?_; rintro e w1 ⟨v, rfl, ho, hb⟩; have HO := ah ho; have HB := ah hb; obtain ⟨A1, c1, rfl⟩ := Kd.bY ho; clear ho hb)
 go_ret
 refine ⟨w1.heap.size, .slice A1 l0.length c1, rfl, ⟨⟨HB.out.size, by simp⟩, by simp, ?_, ?_⟩, aH HB.out HB.out.size (ak (Below.refl _ _) _)⟩
 ·simpa using iM w1 (.cells #[.slice A1 l0.length c1] 26)
 ·refine Kd.cu (Kd.jL (Kd.fC HO.out (ak (Below.refl _ _) _))) (fun k hk => ⟨hk.2.1, hk.2.2.1⟩)
theorem all_stops (n : Nat) (hn : 1 ≤ n) (n0 Bn : Nat) (v : Value) (l : List dP) (k : Nat) (hck : span_Check.f k l = some 0) (hN : (fM 0 l).length ≤ 4611686018427387904) (w : World) (hS : tV n0 w.heap.size Bn v l w) :
  SeqStopsK Fence.wide n Try.prog 185 #[.pointer (some ⟨Bn, 0, none⟩)] (fun x : Int × Int => #[Value.int .i64 x.1, .int .i64 x.2]) (qF n0 w.heap.size) (fun ys => ys = yx (fM 0 l)) (fun pre => pre <+: yx (fM 0 l)) (fM 0 l).length w := fun L J Jx W hW hJ _ hY h0 =>
 all1_in n hn L n0 w.heap.size Bn v l k hck hN J Jx (fun s A B hs hg => hJ s A B none hs hg (fun r e => by cases e)) hY W (hS.keep (qF.of_below hW (Nat.le_refl _))) h0
end Go.Proofs.Ytooiccpmngmapaa.P
namespace Go.Proofs.Ytooiccpmngmapaa.P
open Go.RowKit Go.Shelf Go.Proofs.YtooiccpmngmapaaW.PrintWords Go.Proofs.YtooiccpmngmapaaW.PrintLast Go.Proofs.YtooiccpmngmapaaW.PrintMore
attribute [local go_sem] Oper.semAt_some
def span_Places.f (k : Nat) (l0 : List dP) : Option (List Int × Int) :=
 (span_Check.f k l0).bind fun e => if e = 0 then (if l0.length < 8796093022208 ∧ (fM 0 l0).length < 17592186044416 then some (fM 0 l0, 0) else none) else some ([], e)
theorem Tn (ps : List Int) : (yx ps).map (fun x => Value.int .i64 x.2) = encs (Value.int .i64) ps := by
 unfold yx encs
 rw [List.map_map]
 have : ∀ (ps : List Int) (i : Nat), (ps.zipIdx i).map ((fun x : Int × Int => Value.int .i64 x.2) ∘ fun p : Int × Nat => (((p.2 : Nat) : Int), p.1)) = ps.map (Value.int .i64) := by
  intro ps
  induction ps with
  | nil => intro i; rfl
  | cons p ps ih => intro i; simp only [List.zipIdx_cons, List.map_cons, ih, Function.comp]
 exact this ps 0
theorem Fe {n0 n1 B : Nat} {W w1 : World} {e : TypeId} {size k : Nat} {v v' : Value} {xs : List Value} {tmp : Obj} (hB : B < n0) (hn : n1 ≤ W.heap.size)
  (hrow : W.ownsRow n1 e size v k xs) (hgrow : (W.alloc tmp).grownBy w1 v.ownBlock) : qF n0 n1 W (w1.setCell ⟨B, 0, none⟩ v') := by
 have hs := hgrow.size
 simp at hs
 refine ⟨by simp [World.setCell]; omega, fun q h0 h1 => ?_⟩
 rw [Below.heap_setCell w1 ⟨B, 0, none⟩ v' q (by show q ≠ B; omega), hgrow.block q (by simp; omega) (fun e' => ?_), Below.heap_alloc W tmp q (by omega)]
 have := own_base hrow q e'.symm
 omega
set_option maxRecDepth 100000 in
set_option maxHeartbeats 4000000 in
theorem span_Places.calls (k : Nat) (A0 : Option Addr) (c0 : Nat) (l0 : List dP) (r1 : List Int) (r2 : Int) (w : World) (hr0 : Kd.C jE w A0 l0.length l0) (hc0 : l0.length ≤ c0) (h : span_Places.f k l0 = some (r1, r2)) :
  Calls Try.prog 181 #[.slice A0 l0.length c0] w fun e w' => ∃ lY : Value, e = .returned (.tuple #[lY, .int .i64 r2]) ∧ Kd.R (Kd.int .i64) 3 w' w.heap.size (fun _ => True) lY r1 ∧ Below w.heap.size w w' := by
 obtain ⟨e0, hck, h2⟩ := Option.bind_eq_some_iff.1 h
 clear h
 have HCk := ah (span_Check.calls k A0 c0 l0 e0 w hr0 hc0 hck)
 by_cases he : e0 = 0
 ·subst he
  rw [if_pos rfl] at h2
  obtain ⟨hm, h3⟩ := lN h2
  injection h3 with h4 h5
  subst h4; subst h5
  clear h2
  refine (callsIn_wide (n := 5)).1 ?_
  have hf0 : Fence.wide.fn 164 := trivial
  have hf1 : Fence.wide.fn 184 := trivial
  have HR := ah hr0
  have HM := ah hm
  obtain ⟨i0, hi, hz0, hz1, hz2⟩ := info_parts info3
  clear hr0 hm
  refine callsIn_of_wp_marks Try.func181 rfl trivial ?_ rfl
  simp only [Try.ntmps181, List.size_toArray, List.length_cons, List.length_nil, Nat.reduceAdd, Nat.reduceSub, Array.replicate_succ, Array.replicate_zero, List.push_toArray, List.append_toArray, List.nil_append, List.cons_append]
  gi_wp2_with (first | (gi_at_call 164; refine (callsIn_wide.2 HCk.out).mono ?_; rintro e w1 ⟨rfl, hb⟩; have HB := ah hb; clear hb HCk) | (gi_at_call 184; refine (all_in _ (by omega) A0 c0 l0 _ (Kd.bM (Kd.bM HR.out HB.out) (ak (Below.refl _ _) _)) hc0 HM.out.1).mono ?_; rintro e w2 ⟨Bn, v, rfl, hS, hb2⟩; have HS := ah hS; have HB2 := ah hb2; clear hS hb2))
  have hsz : w1.heap.size + 1 ≤ w2.heap.size := by have := HB2.out.size; simpa using this
  have hB2 : w2.heap[w1.heap.size]? = some (.cells #[.slice none 0 0] 30 (0, 0)) := (HB2.out.block _ (by simp)).trans (by simpa using iM w1 (.cells #[.slice none 0 0] 30))
  have hBW : Below w.heap.size w w2 := aH (aH HB.out HB.out.size (ak (Below.refl _ _) _)) (by have := HB.out.size; simp; omega) HB2.out
  have hS2 : tV (w1.heap.size + 1) w2.heap.size Bn v l0 w2 := by simpa using HS.out
  refine wpIn_rangeFunc_ownG rfl (by omega) (gf := 185) (lb := #[.pointer (some ⟨Bn, 0, none⟩)]) rfl trivial (enters_of Try.func185 (by kernel_rfl) rfl)
   (all_stops _ (by omega) (w1.heap.size + 1) Bn v l0 k hck (by have := HM.out.2; omega) w2 hS2) qF.trans (qF.put (Nat.le_refl _)) (Below.refl _ _) (fun _ => rfl)
   (fun pre W => (∃ v, Boxed W w1.heap.size 30 v ∧ W.ownsRow w2.heap.size 3 1 v pre.length (pre.map fun x => Value.int .i64 x.2) ∧ True) ∧ (Below w.heap.size w W ∧ w2.heap.size ≤ W.heap.size))
   (fun _ _ _ => False)
   (OwnFrom.and (Own.from (holdsRow_own w2.heap.size w1.heap.size 30 3 1 (fun pre : List (Int × Int) => pre.length) (fun pre => pre.map fun x => Value.int .i64 x.2) (fun pre v => True)) _) (OwnFrom.and (ownFrom_below (Nat.le_refl _) (by have := HB.out.size; omega)) (fun s A B row hs hg hr => Nat.le_trans hs hg.size)))
   (fun _ _ _ _ _ hs _ _ => hs)
   ⟨⟨_, hB2, World.ownsRow_nil _ _ _ _, trivial⟩, hBW, Nat.le_refl _⟩
   (fun x => { tmps := #[.slice A0 l0.length c0, undef, .slice none 0 0, .int .i64 0, .int .i64 0, .pointer (some ⟨w1.heap.size, 0, none⟩), undef, .int .i64 x.2, .slice A0 l0.length c0, .int .i64 0, .int .i64 0, .bool false, undef, .slice A0 l0.length c0, .func (.func 185) #[] #[.pointer (some ⟨Bn, 0, none⟩)], .int .i64 x.1, .int .i64 x.2, undef, undef, undef, undef, undef], defers := [] }) ?assign ?body ?done ?stop
  case assign =>
   intro l x W K hK
   gi_wp2
   exact hK
  case body =>
   rintro l pre x W ⟨⟨v, hv, hrow, _⟩, hB, hW2⟩ hlt
   have hc := hv.cell
   have hL := HM.out.2
   gi_wp2_with (gi_at_builtin; refine wpListIn_append_own _ rfl _ _ 30 rfl w2.heap.size 3 i0 (.int .i64 0) 1 8 Try.underlying30 hi hz0 hz1 hz2 rfl (by decide) _ _ _ rfl (hrow.alloc _) ⟨W.heap.size, 0, none⟩ 1 1 [.int .i64 x.2] rfl rfl (cell_one_new _ _ _) (by simp [Value.oneCell']) (by unfold maxLen; omega) (by omega) (by simp; omega) ?_; intro v' w3 hown' hgrow _; obtain ⟨g', cap', rfl⟩ := ownsRow_succ hown'; have hkr := Fe (v' := .slice (some ⟨g', 0, none⟩) (pre.length + 1) cap') (B := w1.heap.size) (n0 := w1.heap.size + 1) (Nat.lt_succ_self _) hW2 hrow hgrow; obtain ⟨hv1, hv2, hr2, hk2, hb2⟩ := hv.appended (n₀ := w1.heap.size) (by decide) (wV hrow (by omega)) (by omega) (Nat.le_refl _) (wV hown' (by omega)) hgrow; have hr3 := hown'.kept (grownBy_setCell' w3 w1.heap.size (.slice (some ⟨g', 0, none⟩) (pre.length + 1) cap')) (.inr (hv1.not_row (by decide) hown').symm); have hc1 := hv1.cell; have hf1 := hv1.frozen)
   exact ⟨hk2.from _, hkr, ⟨⟨_, hv2, by simpa using hr3, trivial⟩, hB.trans (hb2.mono HB.out.size), Nat.le_trans hW2 hkr.1⟩⟩
  case done =>
   rintro D ys W hD rfl ⟨⟨v, hv, hrow, _⟩, hB, hW2⟩ hK
   have hc := hv.cell
   gi_wp2
   refine ⟨by simp, .inl ⟨_, _, rfl, run_takeDeferred hK, ?_⟩⟩
   have hr2 := ownsRow_putObj hrow (.deferred none) hK rfl
   refine ⟨_, results_tmp2 rfl _ _ _, v, rfl, ?_, hB.trans (belowK_b (w := w2) (by have := HB.out.size; omega) W D _ _ hD hK rfl rfl)⟩
   rw [DR, Tn] at hr2
   exact Kd.bV (Kd.KR (enc := Value.int .i64) (h1 := fun _ => rfl) hr2 (fun _ _ => trivial)) (by have := HB.out.size; omega)
  case stop =>
   rintro D c pre W _ _ h _
   exact h.elim
 ·rw [if_neg he] at h2
  have h3 := Option.some.inj h2
  injection h3 with h4 h5
  subst h4; subst h5
  clear h2
  have he1 : (e0 == 0) = false := beq_eq_false_iff_ne.2 he
  have he2 : (e0 != 0) = true := bne_iff_ne.2 he
  go_enter Try.func181, Try.ntmps181
  go_wp2_with (go_at_call 164; refine HCk.out.mono ?_; rintro e w1 ⟨rfl, hb⟩; have HB := ah hb; clear hb)
  go_ret2
  exact ⟨_, rfl, Kd.dY _ _ _ _ _, HB.out⟩
end Go.Proofs.Ytooiccpmngmapaa.P
namespace Go.Proofs.Ytooiccpmngmapaa.P
open Go.RowKit Go.Proofs.YtooiccpmngmapaaW.PrintWords Go.Proofs.YtooiccpmngmapaaW.PrintLast Go.Proofs.YtooiccpmngmapaaW.PrintMore
attribute [local go_sem] jh ji jR jS iI iJ jk jl
mutual
def tidepoleref06_Places.l0 : Nat → List (fD) → List Int → Int → Int → Option (List Int)
 | 0, _, _, _, _ => none
 | k + 1, x0, x3, x4, x5 => if x5 < (x0.length : Int) then (if 0 ≤ x5 then (tidepoleref06_Places.l1 k x0 x3 (wrap64 (x4 + ((aY x0 x5).f0))) x5 0) else (none)) else (some x3)
def tidepoleref06_Places.l1 : Nat → List (fD) → List Int → Int → Int → Int → Option (List Int)
 | 0, _, _, _, _, _ => none
 | k + 1, x0, x3, x4, x5, x6 => if 0 ≤ x5 then (if x5 < (x0.length : Int) then (if x6 < ((aY x0 x5).f1) then (if x3.length < 17592186044416 then (tidepoleref06_Places.l1 k x0 (x3 ++ [x4]) (wrap64 (x4 + 1)) x5 (wrap64 (x6 + 1))) else (none)) else (tidepoleref06_Places.l0 k x0 x3 x4 (wrap64 (x5 + 1)))) else (none)) else (none)
end
def tidepoleref06_Places.f (k : Nat) (l0 : List (fD)) : Option (List Int) := tidepoleref06_Places.l0 k l0 ([] : List Int) 0 0
set_option maxHeartbeats 8000000 in
set_option maxRecDepth 100000 in
theorem tidepoleref06_Places.calls (k : Nat) (A0 : Option Addr) (c0 : Nat) (l0 : List (fD)) (r : List Int) (w : World) (hr0 : Kd.C nD w A0 l0.length l0) (hc0 : l0.length ≤ c0) (h : tidepoleref06_Places.f k l0 = some r) :
  Calls Try.prog 97 #[.slice A0 l0.length c0] w fun e w' => ∃ lY : Value, e = .returned (lY) ∧ Kd.R (Kd.int .i64) 3 w' w.heap.size (fun _ => True) lY r ∧ Below w.heap.size w w' := by
 have HR0 := ah hr0
 have tK := ah hc0
 clear hr0 hc0
 have HB := ah (Below.refl w.heap.size w)
 have H : (tidepoleref06_Places.l0 k l0 ([] : List Int) 0 0) = some r := h
 clear h
 have H' := ah H
 clear H
 go_enter Try.func97, Try.ntmps97
 go_wp2
 go_loopg [3, 4, 5] k (fun kq v3 v4 v5 w' => ∃ (fG : List Int) (dM : Int) (bF : Int), v4 = .int .i64 dM ∧ v5 = .int .i64 bF ∧ aj (tidepoleref06_Places.l0 kq l0 fG dM bF = some r) ∧ aj (kq ≤ k) ∧ aj (Kd.R (Kd.int .i64) 3 w' w.heap.size (fun _ => True) v3 fG) ∧ aj (Below w.heap.size w w'))
 case atStart => exact ⟨(([] : List Int)), (0), (0), (by first | rfl | (simp; done) | (simp [*]; done)), (by first | rfl | (simp; done) | (simp [*]; done)), H', ⟨Nat.le_refl _⟩, ⟨by first | exact Kd.dY _ _ _ _ _ | exact Kd.gI _ _ _ _ _ | exact Kd.gJ _ _ _ _ _ | exact Kd.gB _ _ _ _ _ | exact Kd.gG _ _ _ _ _⟩, ⟨by repeat (first | (with_reducible first | exact HB.out | apply ak | apply au | apply aC) | exact HB.out)⟩⟩
 case round =>
  clear H'
  obtain ⟨fG, dM, bF, rfl, rfl, HA, jf, HO_3, HB⟩ := hrel
  cases gk with
  | zero => exact absurd HA.out (by simp [tidepoleref06_Places.l0])
  | succ k1 =>
   have H := HA.out
   clear HA
   simp only [tidepoleref06_Places.l0] at H
   by_cases c2 : bF < (l0.length : Int)
   ·rw [if_pos c2] at H
    have c2b0 : decide (bF < (l0.length : Int)) = true := aiJ c2
    clear c2
    by_cases c3 : 0 ≤ bF
    ·rw [if_pos c3] at H
     have c3b0 : decide (0 ≤ bF) = true := aiJ c3
     clear c3
     have H' := ah H
     clear H
     have eX : 0 ≤ (bF : Int) := aiI (by assumption)
     have eY : bF < (l0.length : Int) := aiI (by assumption)
     obtain ⟨jU, jK, bP, dS⟩ := qB HR0.out bF eX eY
     cases jK
     replace bP := (HB.out.cell (World.block_lt_of_cell? w _ bP)).trans bP
     replace dS := (HB.out.cell (World.block_lt_of_cell? w _ dS)).trans dS
     replace eX := eq_true eX
     replace eY := eq_true eY
     go_wp2
     go_loopg [3, 4, 6] k1 (fun kq v3 v4 v6 w' => ∃ (NJ : List Int) (JB : Int) (Ac : Int), v4 = .int .i64 JB ∧ v6 = .int .i64 Ac ∧ aj (tidepoleref06_Places.l1 kq l0 NJ JB bF Ac = some r) ∧ aj (kq ≤ k1) ∧ aj (Kd.R (Kd.int .i64) 3 w' w.heap.size (fun _ => True) v3 NJ) ∧ aj (Below w.heap.size w w'))
     case atStart => exact ⟨(fG), (wrap64 (dM + ((aY l0 bF).f0))), (0), (by first | rfl | (simp; done) | (simp [*]; done)), (by first | rfl | (simp; done) | (simp [*]; done)), H', ⟨Nat.le_refl _⟩, ⟨by (repeat with_reducible refine Kd.kJ ?_); exact HO_3.out⟩, ⟨by repeat (first | (with_reducible first | exact HB.out | apply ak | apply au | apply aC) | exact HB.out)⟩⟩
     case round =>
      clear H'
      try clear p1
      try clear q1
      try clear hx1
      try clear c2
      try clear c2b0
      try clear p2
      try clear c3
      try clear c3b0
      try clear bP
      try clear dS
      try clear eX
      try clear eY
      obtain ⟨NJ, JB, Ac, rfl, rfl, HA, Nv, HO_3, HB⟩ := hrel
      cases gk with
      | zero => exact absurd HA.out (by simp [tidepoleref06_Places.l1])
      | succ k2 =>
       have H := HA.out
       clear HA
       simp only [tidepoleref06_Places.l1] at H
       by_cases c4 : 0 ≤ bF
       ·rw [if_pos c4] at H
        have c4b0 : decide (0 ≤ bF) = true := aiJ c4
        clear c4
        by_cases c5 : bF < (l0.length : Int)
        ·rw [if_pos c5] at H
         have c5b0 : decide (bF < (l0.length : Int)) = true := aiJ c5
         clear c5
         by_cases c6 : Ac < ((aY l0 bF).f1)
         ·rw [if_pos c6] at H
          have c6b0 : decide (Ac < ((aY l0 bF).f1)) = true := aiJ c6
          clear c6
          by_cases c7 : NJ.length < 17592186044416
          ·rw [if_pos c7] at H
           have NK := ah c7
           clear c7
           obtain ⟨gV, kM⟩ : ∃ y_ : List Int, y_ = (NJ ++ [JB]) := ⟨_, rfl⟩
           replace H : (tidepoleref06_Places.l1 k2 l0 gV (wrap64 (JB + 1)) bF (wrap64 (Ac + 1))) = some r := by first | (rw [kM]; with_reducible exact H) | (have jm := (Option.bind_some _ _).symm.trans H; rw [kM]; with_reducible exact jm) | (have jm := (Option.bind_some _ _).symm.trans H; with_reducible exact jm) | with_reducible exact H | (rw [kM]; exact H) | exact H
           have su := ah kM
           clear kM
           have H' := ah H
           clear H
           have lu : 0 ≤ (bF : Int) := aiI (by assumption)
           have lC : bF < (l0.length : Int) := aiI (by assumption)
           obtain ⟨qW, uo, kQ, oJ⟩ := qB HR0.out bF lu lC
           obtain rfl : jU = qW := (by injection uo)
           replace kQ := (HB.out.cell (World.block_lt_of_cell? w _ kQ)).trans kQ
           replace oJ := (HB.out.cell (World.block_lt_of_cell? w _ oJ)).trans oJ
           replace lu := eq_true lu
           replace lC := eq_true lC
           go_wp2_with (first | ((with_reducible refine dZ (b := .append) (xs := #[.tmp 29, .tmp 31]) rfl ?_); at_builtin; refine Kd.iP (Kd.int .i64) (w0 := w) w.heap.size rfl (.tmp 29) (.tmp 31) 30 3 (.int .i64 0) 8 rfl Try.underlying30 info3 rfl (by decide) (by omega) u3 NJ JB [.int .i64 JB] (fun _ => True) (fun _ => False) rfl rfl ?aP (fun _ hk => hk.elim) ?aF ?aO ?aB ?aS ?aL ?_; (case aP => exact rfl); (case aB => exact (aX HB.out)); (case aF => exact (fun _ _ => trivial)); (case aO => exact (Kd.fB HO_3.out)); (case aS => exact (aI (aX HB.out))); (case aL => have := NK.out; omega); intro yJ w8 ho hb hg hat; rw [← su.out] at ho; have eF := ah (ho); replace HB := ah (hb); clear HO_3 ho hb hg hat))
           go_roundg k2
           case measure => have := jf.out; have := Nv.out; omega
           case rel => exact ⟨(gV), (wrap64 (JB + 1)), (wrap64 (Ac + 1)), (by first | rfl | (simp; done) | (simp [*]; done)), (by first | rfl | (simp; done) | (simp [*]; done)), H', ⟨by have := jf.out; have := Nv.out; omega⟩, ⟨by (repeat with_reducible refine Kd.kJ ?_); exact eF.out⟩, ⟨by repeat (first | (with_reducible first | exact HB.out | apply ak | apply au | apply aC) | exact HB.out)⟩⟩
          rw [if_neg c7] at H
          exact absurd H (by simp)
         rw [if_neg c6] at H
         have c6b0 : decide (Ac < ((aY l0 bF).f1)) = false := aiK c6
         clear c6
         have H' := ah H
         clear H
         have lu : 0 ≤ (bF : Int) := aiI (by assumption)
         have lC : bF < (l0.length : Int) := aiI (by assumption)
         obtain ⟨qW, uo, kQ, oJ⟩ := qB HR0.out bF lu lC
         obtain rfl : jU = qW := (by injection uo)
         replace kQ := (HB.out.cell (World.block_lt_of_cell? w _ kQ)).trans kQ
         replace oJ := (HB.out.cell (World.block_lt_of_cell? w _ oJ)).trans oJ
         replace lu := eq_true lu
         replace lC := eq_true lC
         go_wp2
         go_roundg k2
         case measure => have := jf.out; have := Nv.out; omega
         case rel => exact ⟨(NJ), (JB), (wrap64 (bF + 1)), (by first | rfl | (simp; done) | (simp [*]; done)), (by first | rfl | (simp; done) | (simp [*]; done)), H', ⟨by have := jf.out; have := Nv.out; omega⟩, ⟨by (repeat with_reducible refine Kd.kJ ?_); exact HO_3.out⟩, ⟨by repeat (first | (with_reducible first | exact HB.out | apply ak | apply au | apply aC) | exact HB.out)⟩⟩
        rw [if_neg c5] at H
        exact absurd H (by simp)
       rw [if_neg c4] at H
       exact absurd H (by simp)
    rw [if_neg c3] at H
    exact absurd H (by simp)
   rw [if_neg c2] at H
   have c2b0 : decide (bF < (l0.length : Int)) = false := aiK c2
   clear c2
   obtain rfl := Option.some.inj H
   go_wp2
   go_ret
   exact ⟨_, by first | rfl | (simp [aT, aU] <;> rfl) | (simp [*, aT, aU] <;> rfl), by (repeat with_reducible refine Kd.kJ ?_); exact HO_3.out, by repeat (first | (with_reducible first | exact HB.out | apply ak | apply au | apply aC) | exact HB.out)⟩
mutual
def tidepoleref06_Check.l0 : Nat → List (fD) → Int → Int → Int → Option (Int)
 | 0, _, _, _, _ => none
 | k + 1, x0, x3, x4, x5 => if x5 < (x0.length : Int) then (if 0 ≤ x5 then (if ((aY x0 x5).f0) < (-1048576) then (tidepoleref06_Check.j1 k x0 x3 x4 x5 true ((aY x0 x5).f0) ((aY x0 x5).f1)) else (if ((aY x0 x5).f0) > 2097152 then (tidepoleref06_Check.j1 k x0 x3 x4 x5 true ((aY x0 x5).f0) ((aY x0 x5).f1)) else (if x5 = 0 then (if ((aY x0 x5).f0) > 1048576 then (tidepoleref06_Check.j1 k x0 x3 x4 x5 true ((aY x0 x5).f0) ((aY x0 x5).f1)) else (if x5 > 0 then (if ((aY x0 x5).f0) < 0 then (tidepoleref06_Check.j1 k x0 x3 x4 x5 true ((aY x0 x5).f0) ((aY x0 x5).f1)) else (if ((aY x0 x5).f1) < 0 then (tidepoleref06_Check.j1 k x0 x3 x4 x5 true ((aY x0 x5).f0) ((aY x0 x5).f1)) else (tidepoleref06_Check.j1 k x0 x3 x4 x5 (decide (((aY x0 x5).f1) > 4096)) ((aY x0 x5).f0) ((aY x0 x5).f1)))) else (if ((aY x0 x5).f1) < 0 then (tidepoleref06_Check.j1 k x0 x3 x4 x5 true ((aY x0 x5).f0) ((aY x0 x5).f1)) else (tidepoleref06_Check.j1 k x0 x3 x4 x5 (decide (((aY x0 x5).f1) > 4096)) ((aY x0 x5).f0) ((aY x0 x5).f1))))) else (if x5 > 0 then (if ((aY x0 x5).f0) < 0 then (tidepoleref06_Check.j1 k x0 x3 x4 x5 true ((aY x0 x5).f0) ((aY x0 x5).f1)) else (if ((aY x0 x5).f1) < 0 then (tidepoleref06_Check.j1 k x0 x3 x4 x5 true ((aY x0 x5).f0) ((aY x0 x5).f1)) else (tidepoleref06_Check.j1 k x0 x3 x4 x5 (decide (((aY x0 x5).f1) > 4096)) ((aY x0 x5).f0) ((aY x0 x5).f1)))) else (if ((aY x0 x5).f1) < 0 then (tidepoleref06_Check.j1 k x0 x3 x4 x5 true ((aY x0 x5).f0) ((aY x0 x5).f1)) else (tidepoleref06_Check.j1 k x0 x3 x4 x5 (decide (((aY x0 x5).f1) > 4096)) ((aY x0 x5).f0) ((aY x0 x5).f1))))))) else (none)) else (some 0)
def tidepoleref06_Check.j1 : Nat → List (fD) → Int → Int → Int → Bool → Int → Int → Option (Int)
 | 0, _, _, _, _, _, _, _ => none
 | k + 1, x0, x3, x4, x5, x56, lZ, lI => if x56 = true then (some 20) else (if (wrap64 (x3 + lZ)) < (-1048576) then (tidepoleref06_Check.j2 k x0 (wrap64 (x3 + lZ)) x4 x5 true lZ lI) else (tidepoleref06_Check.j2 k x0 (wrap64 (x3 + lZ)) x4 x5 (decide ((wrap64 (x3 + lZ)) > 1048576)) lZ lI))
def tidepoleref06_Check.j2 : Nat → List (fD) → Int → Int → Int → Bool → Int → Int → Option (Int)
 | 0, _, _, _, _, _, _, _ => none
 | k + 1, x0, x3, x4, x5, x66, lZ, lI => if x66 = true then (some 20) else (tidepoleref06_Check.l1 k x0 x3 x4 x5 0 lZ lI)
def tidepoleref06_Check.l1 : Nat → List (fD) → Int → Int → Int → Int → Int → Int → Option (Int)
 | 0, _, _, _, _, _, _, _ => none
 | k + 1, x0, x3, x4, x5, x7, lZ, lI => if x7 < lI then (if x3 > 1048576 then (some 20) else (tidepoleref06_Check.l1 k x0 (wrap64 (x3 + 1)) (wrap64 (x4 + 1)) x5 (wrap64 (x7 + 1)) lZ lI)) else (if x4 > 4096 then (some 20) else (tidepoleref06_Check.l0 k x0 x3 x4 (wrap64 (x5 + 1))))
end
def tidepoleref06_Check.f (k : Nat) (l0 : List (fD)) : Option (Int) := if (l0.length : Int) > 1024 then (some 12) else (tidepoleref06_Check.l0 k l0 0 0 0)
set_option maxHeartbeats 8000000 in
set_option maxRecDepth 100000 in
theorem tidepoleref06_Check.calls (k : Nat) (A0 : Option Addr) (c0 : Nat) (l0 : List (fD)) (r : Int) (w : World) (hr0 : Kd.C nD w A0 l0.length l0) (hc0 : l0.length ≤ c0) (h : tidepoleref06_Check.f k l0 = some r) :
  Calls Try.prog 142 #[.slice A0 l0.length c0] w fun e w' => e = .returned (.int .i64 r) ∧ Below w.heap.size w w' := by
 have Tq := Try.underlying127
 have HR0 := ah hr0
 have tK := ah hc0
 clear hr0 hc0
 have HB := ah (Below.refl w.heap.size w)
 have H : (if (l0.length : Int) > 1024 then (some 12) else (tidepoleref06_Check.l0 k l0 0 0 0)) = some r := h
 clear h
 by_cases c2 : (l0.length : Int) > 1024
 ·rw [if_pos c2] at H
  have c2b0 : decide (1024 < (l0.length : Int)) = true := aiJ c2
  have c2b1 : decide (1024 < l0.length) = true := aiJ (by omega)
  clear c2
  obtain rfl := Option.some.inj H
  go_enter Try.func142, Try.ntmps142
  go_wp2
  go_ret
  exact ⟨by first | rfl | (simp [aT, aU] <;> rfl) | (simp [*, aT, aU] <;> rfl), by repeat (first | (with_reducible first | exact HB.out | apply ak | apply au | apply aC) | exact HB.out)⟩
 rw [if_neg c2] at H
 have c2b0 : decide (1024 < (l0.length : Int)) = false := aiK c2
 have c2b1 : decide (1024 < l0.length) = false := aiK (by omega)
 clear c2
 have H' := ah H
 clear H
 go_enter Try.func142, Try.ntmps142
 go_wp2
 go_loopg [3, 4, 5] k (fun kq v3 v4 v5 w' => ∃ (fG : Int) (dM : Int) (bF : Int), v3 = .int .i64 fG ∧ v4 = .int .i64 dM ∧ v5 = .int .i64 bF ∧ aj (tidepoleref06_Check.l0 kq l0 fG dM bF = some r) ∧ aj (kq ≤ k) ∧ aj (Below w.heap.size w w'))
 case atStart => exact ⟨(0), (0), (0), (by first | rfl | (simp; done) | (simp [*]; done)), (by first | rfl | (simp; done) | (simp [*]; done)), (by first | rfl | (simp; done) | (simp [*]; done)), H', ⟨Nat.le_refl _⟩, ⟨by repeat (first | (with_reducible first | exact HB.out | apply ak | apply au | apply aC) | exact HB.out)⟩⟩
 case round =>
  clear H'
  try clear c1
  try clear c2
  try clear c2b0
  try clear c2b1
  try clear p2
  obtain ⟨fG, dM, bF, rfl, rfl, rfl, HA, jf, HB⟩ := hrel
  cases gk with
  | zero => exact absurd HA.out (by simp [tidepoleref06_Check.l0])
  | succ k1 =>
   have H := HA.out
   clear HA
   simp only [tidepoleref06_Check.l0] at H
   by_cases c3 : bF < (l0.length : Int)
   ·rw [if_pos c3] at H
    have c3b0 : decide (bF < (l0.length : Int)) = true := aiJ c3
    clear c3
    by_cases c4 : 0 ≤ bF
    ·rw [if_pos c4] at H
     have c4b0 : decide (0 ≤ bF) = true := aiJ c4
     clear c4
     have NH := ah H
     clear H
     have eX : 0 ≤ (bF : Int) := aiI (by assumption)
     have eY : bF < (l0.length : Int) := aiI (by assumption)
     obtain ⟨jU, jK, bP, dS⟩ := qB HR0.out bF eX eY
     cases jK
     replace bP := (HB.out.cell (World.block_lt_of_cell? w _ bP)).trans bP
     replace dS := (HB.out.cell (World.block_lt_of_cell? w _ dS)).trans dS
     replace eX := eq_true eX
     replace eY := eq_true eY
     go_upto_region 8 with (first | ((with_reducible refine fJ (N := 6) rfl ?_); refine eU ?hg (N := 6) ?hd (cs := #[.int .i64 0, .int .i64 0]) (t := 127) ?hr ?_; (case hd => rfl); (case hg => rfl); (case hr => first | (go_simp; done) | (go_simp; rfl)); intro aJ hg w6 hbox hb; have aN := ah (hbox); have oM := ah ((by rw [hg]; exact (aI (aX HB.out)) : w.heap.size ≤ aJ)); have bT := ah ((by rw [hg]; exact (aI (aX HB.out)) : w.heap.size ≤ aJ)); replace HB := ah (aW (aX HB.out) hb); clear hb hbox hg; have yH := ay aN.out; have yI := aG aN.out))
     (try simp only [Act.put, List.setIfInBounds_toArray, List.set_cons_zero, List.set_cons_succ])
     go_cut [56] (fun v56 wc => ∃ (kq : Nat) (Pv : Bool), v56 = .bool Pv ∧ aj (tidepoleref06_Check.j1 kq l0 fG dM bF Pv ((aY l0 bF).f0) ((aY l0 bF).f1) = some r) ∧ aj (kq ≤ k1) ∧ aj (wc.heap[aJ]? = some (.cells #[.int .i64 ((aY l0 bF).f0), .int .i64 ((aY l0 bF).f1)] 127 (0, 0))) ∧ aj (Below w.heap.size w wc))
     case first =>
      have H := NH.out
      clear NH
      by_cases c8 : ((aY l0 bF).f0) < (-1048576)
      ·rw [if_pos c8] at H
       have c8b0 : decide (((aY l0 bF).f0) < (-1048576)) = true := aiJ c8
       clear c8
       (first | rw [c8b0] | (simp only [dh, dF]; rw [c8b0]) | skip)
       have H' := ah H
       clear H
       have sS := ay aN.out
       have sU := aG aN.out
       go_wp2
       go_meet
       case rel => exact ⟨_, (true), (by first | rfl | (simp; done) | (simp [*]; done)), H', ⟨by have := jf.out; first | omega | exact Nat.le_refl _⟩, ⟨by (repeat with_reducible refine bQ ?_); refine bC (cs := #[.int .i64 ((aY l0 bF).f0), .int .i64 0]) ?_ 1 _ rfl; (repeat with_reducible refine bQ ?_); refine bC (cs := #[.int .i64 0, .int .i64 0]) ?_ 0 _ rfl; (repeat with_reducible refine bQ ?_); exact aN.out⟩, ⟨by repeat (first | (with_reducible first | exact HB.out | apply ak | apply au | apply aC | refine aA ?_ bT.out) | exact HB.out)⟩⟩
      rw [if_neg c8] at H
      have c8b0 : decide (((aY l0 bF).f0) < (-1048576)) = false := aiK c8
      clear c8
      (first | rw [c8b0] | (simp only [dh, dF]; rw [c8b0]) | skip)
      by_cases c10 : ((aY l0 bF).f0) > 2097152
      ·rw [if_pos c10] at H
       have c10b0 : decide (2097152 < ((aY l0 bF).f0)) = true := aiJ c10
       clear c10
       have H' := ah H
       clear H
       have xg := ay aN.out
       have xk := aG aN.out
       go_wp2
       go_meet
       case rel => exact ⟨_, (true), (by first | rfl | (simp; done) | (simp [*]; done)), H', ⟨by have := jf.out; first | omega | exact Nat.le_refl _⟩, ⟨by (repeat with_reducible refine bQ ?_); refine bC (cs := #[.int .i64 ((aY l0 bF).f0), .int .i64 0]) ?_ 1 _ rfl; (repeat with_reducible refine bQ ?_); refine bC (cs := #[.int .i64 0, .int .i64 0]) ?_ 0 _ rfl; (repeat with_reducible refine bQ ?_); exact aN.out⟩, ⟨by repeat (first | (with_reducible first | exact HB.out | apply ak | apply au | apply aC | refine aA ?_ bT.out) | exact HB.out)⟩⟩
      rw [if_neg c10] at H
      have c10b0 : decide (2097152 < ((aY l0 bF).f0)) = false := aiK c10
      clear c10
      by_cases c12 : bF = 0
      ·rw [if_pos c12] at H
       have c12b0 : (bF == 0) = true := beq_iff_eq.mpr c12
       have c12b1 : (bF != 0) = false := bne_eq_false_iff_eq.mpr c12
       clear c12
       by_cases c13 : ((aY l0 bF).f0) > 1048576
       ·rw [if_pos c13] at H
        have c13b0 : decide (1048576 < ((aY l0 bF).f0)) = true := aiJ c13
        clear c13
        have H' := ah H
        clear H
        have zQ := ay aN.out
        have zS := aG aN.out
        go_wp2
        go_meet
        case rel => exact ⟨_, (true), (by first | rfl | (simp; done) | (simp [*]; done)), H', ⟨by have := jf.out; first | omega | exact Nat.le_refl _⟩, ⟨by (repeat with_reducible refine bQ ?_); refine bC (cs := #[.int .i64 ((aY l0 bF).f0), .int .i64 0]) ?_ 1 _ rfl; (repeat with_reducible refine bQ ?_); refine bC (cs := #[.int .i64 0, .int .i64 0]) ?_ 0 _ rfl; (repeat with_reducible refine bQ ?_); exact aN.out⟩, ⟨by repeat (first | (with_reducible first | exact HB.out | apply ak | apply au | apply aC | refine aA ?_ bT.out) | exact HB.out)⟩⟩
       rw [if_neg c13] at H
       have c13b0 : decide (1048576 < ((aY l0 bF).f0)) = false := aiK c13
       clear c13
       by_cases c15 : bF > 0
       ·rw [if_pos c15] at H
        have c15b0 : decide (0 < bF) = true := aiJ c15
        clear c15
        by_cases c16 : ((aY l0 bF).f0) < 0
        ·rw [if_pos c16] at H
         have c16b0 : decide (((aY l0 bF).f0) < 0) = true := aiJ c16
         clear c16
         have H' := ah H
         clear H
         have JC := ay aN.out
         have JD := aG aN.out
         go_wp2
         go_meet
         case rel => exact ⟨_, (true), (by first | rfl | (simp; done) | (simp [*]; done)), H', ⟨by have := jf.out; first | omega | exact Nat.le_refl _⟩, ⟨by (repeat with_reducible refine bQ ?_); refine bC (cs := #[.int .i64 ((aY l0 bF).f0), .int .i64 0]) ?_ 1 _ rfl; (repeat with_reducible refine bQ ?_); refine bC (cs := #[.int .i64 0, .int .i64 0]) ?_ 0 _ rfl; (repeat with_reducible refine bQ ?_); exact aN.out⟩, ⟨by repeat (first | (with_reducible first | exact HB.out | apply ak | apply au | apply aC | refine aA ?_ bT.out) | exact HB.out)⟩⟩
        rw [if_neg c16] at H
        have c16b0 : decide (((aY l0 bF).f0) < 0) = false := aiK c16
        clear c16
        by_cases c18 : ((aY l0 bF).f1) < 0
        ·rw [if_pos c18] at H
         have c18b0 : decide (((aY l0 bF).f1) < 0) = true := aiJ c18
         clear c18
         have H' := ah H
         clear H
         have zL := ay aN.out
         have zM := aG aN.out
         go_wp2
         go_meet
         case rel => exact ⟨_, (true), (by first | rfl | (simp; done) | (simp [*]; done)), H', ⟨by have := jf.out; first | omega | exact Nat.le_refl _⟩, ⟨by (repeat with_reducible refine bQ ?_); refine bC (cs := #[.int .i64 ((aY l0 bF).f0), .int .i64 0]) ?_ 1 _ rfl; (repeat with_reducible refine bQ ?_); refine bC (cs := #[.int .i64 0, .int .i64 0]) ?_ 0 _ rfl; (repeat with_reducible refine bQ ?_); exact aN.out⟩, ⟨by repeat (first | (with_reducible first | exact HB.out | apply ak | apply au | apply aC | refine aA ?_ bT.out) | exact HB.out)⟩⟩
        rw [if_neg c18] at H
        have c18b0 : decide (((aY l0 bF).f1) < 0) = false := aiK c18
        clear c18
        have H' := ah H
        clear H
        have JE := ay aN.out
        have JF := aG aN.out
        go_wp2
        go_meet
        case rel => exact ⟨_, (decide (((aY l0 bF).f1) > 4096)), (by first | rfl | (simp; done) | (simp [*]; done)), H', ⟨by have := jf.out; first | omega | exact Nat.le_refl _⟩, ⟨by (repeat with_reducible refine bQ ?_); refine bC (cs := #[.int .i64 ((aY l0 bF).f0), .int .i64 0]) ?_ 1 _ rfl; (repeat with_reducible refine bQ ?_); refine bC (cs := #[.int .i64 0, .int .i64 0]) ?_ 0 _ rfl; (repeat with_reducible refine bQ ?_); exact aN.out⟩, ⟨by repeat (first | (with_reducible first | exact HB.out | apply ak | apply au | apply aC | refine aA ?_ bT.out) | exact HB.out)⟩⟩
       rw [if_neg c15] at H
       have c15b0 : decide (0 < bF) = false := aiK c15
       clear c15
       by_cases c21 : ((aY l0 bF).f1) < 0
       ·rw [if_pos c21] at H
        have c21b0 : decide (((aY l0 bF).f1) < 0) = true := aiJ c21
        clear c21
        have H' := ah H
        clear H
        have JG := ay aN.out
        have JH := aG aN.out
        go_wp2
        go_meet
        case rel => exact ⟨_, (true), (by first | rfl | (simp; done) | (simp [*]; done)), H', ⟨by have := jf.out; first | omega | exact Nat.le_refl _⟩, ⟨by (repeat with_reducible refine bQ ?_); refine bC (cs := #[.int .i64 ((aY l0 bF).f0), .int .i64 0]) ?_ 1 _ rfl; (repeat with_reducible refine bQ ?_); refine bC (cs := #[.int .i64 0, .int .i64 0]) ?_ 0 _ rfl; (repeat with_reducible refine bQ ?_); exact aN.out⟩, ⟨by repeat (first | (with_reducible first | exact HB.out | apply ak | apply au | apply aC | refine aA ?_ bT.out) | exact HB.out)⟩⟩
       rw [if_neg c21] at H
       have c21b0 : decide (((aY l0 bF).f1) < 0) = false := aiK c21
       clear c21
       have H' := ah H
       clear H
       have xG := ay aN.out
       have xH := aG aN.out
       go_wp2
       go_meet
       case rel => exact ⟨_, (decide (((aY l0 bF).f1) > 4096)), (by first | rfl | (simp; done) | (simp [*]; done)), H', ⟨by have := jf.out; first | omega | exact Nat.le_refl _⟩, ⟨by (repeat with_reducible refine bQ ?_); refine bC (cs := #[.int .i64 ((aY l0 bF).f0), .int .i64 0]) ?_ 1 _ rfl; (repeat with_reducible refine bQ ?_); refine bC (cs := #[.int .i64 0, .int .i64 0]) ?_ 0 _ rfl; (repeat with_reducible refine bQ ?_); exact aN.out⟩, ⟨by repeat (first | (with_reducible first | exact HB.out | apply ak | apply au | apply aC | refine aA ?_ bT.out) | exact HB.out)⟩⟩
      rw [if_neg c12] at H
      have c12b0 : (bF == 0) = false := beq_eq_false_iff_ne.mpr c12
      have c12b1 : (bF != 0) = true := bne_iff_ne.mpr c12
      by_cases c24 : bF > 0
      ·rw [if_pos c24] at H
       have c24b0 : decide (0 < bF) = true := aiJ c24
       clear c24
       by_cases c25 : ((aY l0 bF).f0) < 0
       ·rw [if_pos c25] at H
        have c25b0 : decide (((aY l0 bF).f0) < 0) = true := aiJ c25
        clear c25
        have H' := ah H
        clear H
        have BA := ay aN.out
        have BD := aG aN.out
        go_wp2
        go_meet
        case rel => exact ⟨_, (true), (by first | rfl | (simp; done) | (simp [*]; done)), H', ⟨by have := jf.out; first | omega | exact Nat.le_refl _⟩, ⟨by (repeat with_reducible refine bQ ?_); refine bC (cs := #[.int .i64 ((aY l0 bF).f0), .int .i64 0]) ?_ 1 _ rfl; (repeat with_reducible refine bQ ?_); refine bC (cs := #[.int .i64 0, .int .i64 0]) ?_ 0 _ rfl; (repeat with_reducible refine bQ ?_); exact aN.out⟩, ⟨by repeat (first | (with_reducible first | exact HB.out | apply ak | apply au | apply aC | refine aA ?_ bT.out) | exact HB.out)⟩⟩
       rw [if_neg c25] at H
       have c25b0 : decide (((aY l0 bF).f0) < 0) = false := aiK c25
       clear c25
       by_cases JI : ((aY l0 bF).f1) < 0
       ·rw [if_pos JI] at H
        have c27b0 : decide (((aY l0 bF).f1) < 0) = true := aiJ JI
        clear JI
        have H' := ah H
        clear H
        have zN := ay aN.out
        have zO := aG aN.out
        go_wp2
        go_meet
        case rel => exact ⟨_, (true), (by first | rfl | (simp; done) | (simp [*]; done)), H', ⟨by have := jf.out; first | omega | exact Nat.le_refl _⟩, ⟨by (repeat with_reducible refine bQ ?_); refine bC (cs := #[.int .i64 ((aY l0 bF).f0), .int .i64 0]) ?_ 1 _ rfl; (repeat with_reducible refine bQ ?_); refine bC (cs := #[.int .i64 0, .int .i64 0]) ?_ 0 _ rfl; (repeat with_reducible refine bQ ?_); exact aN.out⟩, ⟨by repeat (first | (with_reducible first | exact HB.out | apply ak | apply au | apply aC | refine aA ?_ bT.out) | exact HB.out)⟩⟩
       rw [if_neg JI] at H
       have c27b0 : decide (((aY l0 bF).f1) < 0) = false := aiK JI
       clear JI
       have H' := ah H
       clear H
       have EI := ay aN.out
       have EJ := aG aN.out
       go_wp2
       go_meet
       case rel => exact ⟨_, (decide (((aY l0 bF).f1) > 4096)), (by first | rfl | (simp; done) | (simp [*]; done)), H', ⟨by have := jf.out; first | omega | exact Nat.le_refl _⟩, ⟨by (repeat with_reducible refine bQ ?_); refine bC (cs := #[.int .i64 ((aY l0 bF).f0), .int .i64 0]) ?_ 1 _ rfl; (repeat with_reducible refine bQ ?_); refine bC (cs := #[.int .i64 0, .int .i64 0]) ?_ 0 _ rfl; (repeat with_reducible refine bQ ?_); exact aN.out⟩, ⟨by repeat (first | (with_reducible first | exact HB.out | apply ak | apply au | apply aC | refine aA ?_ bT.out) | exact HB.out)⟩⟩
      rw [if_neg c24] at H
      have c24b0 : decide (0 < bF) = false := aiK c24
      clear c24
      by_cases Vz : ((aY l0 bF).f1) < 0
      ·rw [if_pos Vz] at H
       have c30b0 : decide (((aY l0 bF).f1) < 0) = true := aiJ Vz
       clear Vz
       have H' := ah H
       clear H
       have BF := ay aN.out
       have BG := aG aN.out
       go_wp2
       go_meet
       case rel => exact ⟨_, (true), (by first | rfl | (simp; done) | (simp [*]; done)), H', ⟨by have := jf.out; first | omega | exact Nat.le_refl _⟩, ⟨by (repeat with_reducible refine bQ ?_); refine bC (cs := #[.int .i64 ((aY l0 bF).f0), .int .i64 0]) ?_ 1 _ rfl; (repeat with_reducible refine bQ ?_); refine bC (cs := #[.int .i64 0, .int .i64 0]) ?_ 0 _ rfl; (repeat with_reducible refine bQ ?_); exact aN.out⟩, ⟨by repeat (first | (with_reducible first | exact HB.out | apply ak | apply au | apply aC | refine aA ?_ bT.out) | exact HB.out)⟩⟩
      rw [if_neg Vz] at H
      have c30b0 : decide (((aY l0 bF).f1) < 0) = false := aiK Vz
      clear Vz
      have H' := ah H
      clear H
      have JJ := ay aN.out
      have JK := aG aN.out
      go_wp2
      go_meet
      case rel => exact ⟨_, (decide (((aY l0 bF).f1) > 4096)), (by first | rfl | (simp; done) | (simp [*]; done)), H', ⟨by have := jf.out; first | omega | exact Nat.le_refl _⟩, ⟨by (repeat with_reducible refine bQ ?_); refine bC (cs := #[.int .i64 ((aY l0 bF).f0), .int .i64 0]) ?_ 1 _ rfl; (repeat with_reducible refine bQ ?_); refine bC (cs := #[.int .i64 0, .int .i64 0]) ?_ 0 _ rfl; (repeat with_reducible refine bQ ?_); exact aN.out⟩, ⟨by repeat (first | (with_reducible first | exact HB.out | apply ak | apply au | apply aC | refine aA ?_ bT.out) | exact HB.out)⟩⟩
     case rest =>
      clear NH
      try clear c1
      try clear p1
      try clear q1
      try clear hx1
      try clear c2
      try clear c2b0
      try clear c2b1
      try clear p2
      try clear c3
      try clear c3b0
      try clear c4
      try clear c4b0
      try clear c8
      try clear c8b0
      try clear c10
      try clear c10b0
      try clear p10
      try clear q10
      try clear SA
      try clear c12
      try clear c12b0
      try clear c12b1
      try clear c13
      try clear c13b0
      try clear c14
      try clear c15
      try clear c15b0
      try clear c16
      try clear c16b0
      try clear c18
      try clear c18b0
      try clear c21
      try clear c21b0
      try clear c24
      try clear c24b0
      try clear c25
      try clear c25b0
      try clear JI
      try clear c27b0
      try clear Vz
      try clear c30b0
      try clear xg
      try clear zQ
      try clear JC
      try clear zL
      try clear JE
      try clear JG
      try clear xG
      try clear BA
      try clear zN
      try clear EI
      try clear BF
      try clear JJ
      try clear yH
      try clear sS
      try clear xk
      try clear zS
      try clear JD
      try clear zM
      try clear JF
      try clear JH
      try clear xH
      try clear BD
      try clear zO
      try clear EJ
      try clear BG
      try clear JK
      try clear yI
      try clear sU
      try clear bP
      try clear dS
      try clear eX
      try clear p2
      try clear eY
      obtain ⟨kq, Pv, rfl, HA, Jv, aN, HB⟩ := hcut
      cases kq with
      | zero => exact absurd HA.out (by simp [tidepoleref06_Check.j1])
      | succ nJ =>
       have H := HA.out
       clear HA
       simp only [tidepoleref06_Check.j1] at H
       by_cases Zo : Pv = true
       ·subst Zo
        have H1 : (some 20) = some r := by rw [if_pos rfl] at H; exact H
        clear H
        have H := H1
        clear H1
        obtain rfl := Option.some.inj H
        go_wp2
        go_ret
        exact ⟨by first | rfl | (simp [aT, aU] <;> rfl) | (simp [*, aT, aU] <;> rfl), by repeat (first | (with_reducible first | exact HB.out | apply ak | apply au | apply aC | refine aA ?_ bT.out) | exact HB.out)⟩
       replace Zo := Bool.eq_false_iff.mpr Zo
       subst Zo
       have H1 : (if (wrap64 (fG + ((aY l0 bF).f0))) < (-1048576) then (tidepoleref06_Check.j2 nJ l0 (wrap64 (fG + ((aY l0 bF).f0))) dM bF true ((aY l0 bF).f0) ((aY l0 bF).f1)) else (tidepoleref06_Check.j2 nJ l0 (wrap64 (fG + ((aY l0 bF).f0))) dM bF (decide ((wrap64 (fG + ((aY l0 bF).f0))) > 1048576)) ((aY l0 bF).f0) ((aY l0 bF).f1))) = some r := by rw [if_neg (show ¬ (false = true) by decide)] at H; exact H
       clear H
       have H := H1
       clear H1
       have XY := ah H
       clear H
       have EK := ay aN.out
       have EL := aG aN.out
       go_upto_region 11 with (fail)
       go_cut [66] (fun v66 wc => ∃ (kq : Nat) (JL : Bool), v66 = .bool JL ∧ aj (tidepoleref06_Check.j2 kq l0 (wrap64 (fG + ((aY l0 bF).f0))) dM bF JL ((aY l0 bF).f0) ((aY l0 bF).f1) = some r) ∧ aj (kq ≤ nJ) ∧ aj (wc.heap[aJ]? = some (.cells #[.int .i64 ((aY l0 bF).f0), .int .i64 ((aY l0 bF).f1)] 127 (0, 0))) ∧ aj (Below w.heap.size w wc))
       case first =>
        have H := XY.out
        clear XY
        by_cases Xe : (wrap64 (fG + ((aY l0 bF).f0))) < (-1048576)
        ·rw [if_pos Xe] at H
         have c36b0 : decide ((wrap64 (fG + ((aY l0 bF).f0))) < (-1048576)) = true := aiJ Xe
         clear Xe
         (first | rw [c36b0] | (simp only [dh, dF]; rw [c36b0]) | skip)
         have H' := ah H
         clear H
         go_wp2
         go_meet
         case rel => exact ⟨_, (true), (by first | rfl | (simp; done) | (simp [*]; done)), H', ⟨by have := jf.out; have := Jv.out; first | omega | exact Nat.le_refl _⟩, ⟨by (repeat with_reducible refine bQ ?_); exact aN.out⟩, ⟨by repeat (first | (with_reducible first | exact HB.out | apply ak | apply au | apply aC | refine aA ?_ bT.out) | exact HB.out)⟩⟩
        rw [if_neg Xe] at H
        have c36b0 : decide ((wrap64 (fG + ((aY l0 bF).f0))) < (-1048576)) = false := aiK Xe
        clear Xe
        (first | rw [c36b0] | (simp only [dh, dF]; rw [c36b0]) | skip)
        have H' := ah H
        clear H
        go_wp2
        go_meet
        case rel => exact ⟨_, (decide ((wrap64 (fG + ((aY l0 bF).f0))) > 1048576)), (by first | rfl | (simp; done) | (simp [*]; done)), H', ⟨by have := jf.out; have := Jv.out; first | omega | exact Nat.le_refl _⟩, ⟨by (repeat with_reducible refine bQ ?_); exact aN.out⟩, ⟨by repeat (first | (with_reducible first | exact HB.out | apply ak | apply au | apply aC | refine aA ?_ bT.out) | exact HB.out)⟩⟩
       case rest =>
        clear XY
        try clear c1
        try clear p1
        try clear q1
        try clear hx1
        try clear c2
        try clear c2b0
        try clear c2b1
        try clear p2
        try clear c3
        try clear c3b0
        try clear c4
        try clear c4b0
        try clear p6
        try clear c8
        try clear c8b0
        try clear c10
        try clear c10b0
        try clear p10
        try clear q10
        try clear SA
        try clear c12
        try clear c12b0
        try clear c12b1
        try clear c13
        try clear c13b0
        try clear c14
        try clear c15
        try clear c15b0
        try clear c16
        try clear c16b0
        try clear c18
        try clear c18b0
        try clear c21
        try clear c21b0
        try clear c24
        try clear c24b0
        try clear c25
        try clear c25b0
        try clear JI
        try clear c27b0
        try clear Vz
        try clear c30b0
        try clear Zo
        try clear Xe
        try clear c36b0
        try clear xg
        try clear zQ
        try clear JC
        try clear zL
        try clear JE
        try clear JG
        try clear xG
        try clear BA
        try clear zN
        try clear EI
        try clear BF
        try clear JJ
        try clear EK
        try clear yH
        try clear sS
        try clear xk
        try clear zS
        try clear JD
        try clear zM
        try clear JF
        try clear JH
        try clear xH
        try clear BD
        try clear zO
        try clear EJ
        try clear BG
        try clear JK
        try clear EL
        try clear yI
        try clear sU
        try clear bP
        try clear dS
        try clear p1
        try clear p10
        try clear eX
        try clear p2
        try clear q1
        try clear q10
        try clear eY
        obtain ⟨kq, JL, rfl, HA, VA, aN, HB⟩ := hcut
        cases kq with
        | zero => exact absurd HA.out (by simp [tidepoleref06_Check.j2])
        | succ XZ =>
         have H := HA.out
         clear HA
         simp only [tidepoleref06_Check.j2] at H
         by_cases c37 : JL = true
         ·subst c37
          have H1 : (some 20) = some r := by rw [if_pos rfl] at H; exact H
          clear H
          have H := H1
          clear H1
          obtain rfl := Option.some.inj H
          go_wp2
          go_ret
          exact ⟨by first | rfl | (simp [aT, aU] <;> rfl) | (simp [*, aT, aU] <;> rfl), by repeat (first | (with_reducible first | exact HB.out | apply ak | apply au | apply aC | refine aA ?_ bT.out) | exact HB.out)⟩
         replace c37 := Bool.eq_false_iff.mpr c37
         subst c37
         have H1 : (tidepoleref06_Check.l1 XZ l0 (wrap64 (fG + ((aY l0 bF).f0))) dM bF 0 ((aY l0 bF).f0) ((aY l0 bF).f1)) = some r := by rw [if_neg (show ¬ (false = true) by decide)] at H; exact H
         clear H
         have H := H1
         clear H1
         have H' := ah H
         clear H
         go_wp2
         go_loopg [3, 4, 7] XZ (fun kq v3 v4 v7 w' => ∃ (Lp : Int) (Lr : Int) (NM : Int), v3 = .int .i64 Lp ∧ v4 = .int .i64 Lr ∧ v7 = .int .i64 NM ∧ aj (tidepoleref06_Check.l1 kq l0 Lp Lr bF NM ((aY l0 bF).f0) ((aY l0 bF).f1) = some r) ∧ aj (kq ≤ XZ) ∧ aj (w'.heap[aJ]? = some (.cells #[.int .i64 ((aY l0 bF).f0), .int .i64 ((aY l0 bF).f1)] 127 (0, 0))) ∧ aj (Below w.heap.size w w'))
         case atStart => exact ⟨((wrap64 (fG + ((aY l0 bF).f0)))), (dM), (0), (by first | rfl | (simp; done) | (simp [*]; done)), (by first | rfl | (simp; done) | (simp [*]; done)), (by first | rfl | (simp; done) | (simp [*]; done)), H', ⟨Nat.le_refl _⟩, ⟨by (repeat with_reducible refine bQ ?_); exact aN.out⟩, ⟨by repeat (first | (with_reducible first | exact HB.out | apply ak | apply au | apply aC | refine aA ?_ bT.out) | exact HB.out)⟩⟩
         case round =>
          clear H'
          try clear c1
          try clear p1
          try clear q1
          try clear hx1
          try clear c2
          try clear c2b0
          try clear c2b1
          try clear p2
          try clear c3
          try clear c3b0
          try clear c4
          try clear c4b0
          try clear p6
          try clear c8
          try clear c8b0
          try clear c10
          try clear c10b0
          try clear p10
          try clear q10
          try clear SA
          try clear c12
          try clear c12b0
          try clear c12b1
          try clear c13
          try clear c13b0
          try clear c14
          try clear c15
          try clear c15b0
          try clear c16
          try clear c16b0
          try clear c18
          try clear c18b0
          try clear c21
          try clear c21b0
          try clear c24
          try clear c24b0
          try clear c25
          try clear c25b0
          try clear JI
          try clear c27b0
          try clear Vz
          try clear c30b0
          try clear Zo
          try clear Xe
          try clear c36b0
          try clear c37
          try clear xg
          try clear zQ
          try clear JC
          try clear zL
          try clear JE
          try clear JG
          try clear xG
          try clear BA
          try clear zN
          try clear EI
          try clear BF
          try clear JJ
          try clear EK
          try clear yH
          try clear sS
          try clear xk
          try clear zS
          try clear JD
          try clear zM
          try clear JF
          try clear JH
          try clear xH
          try clear BD
          try clear zO
          try clear EJ
          try clear BG
          try clear JK
          try clear EL
          try clear yI
          try clear sU
          try clear bP
          try clear dS
          try clear p1
          try clear p10
          try clear eX
          try clear p2
          try clear p6
          try clear q1
          try clear q10
          try clear eY
          obtain ⟨Lp, Lr, NM, rfl, rfl, rfl, HA, HK4, aN, HB⟩ := hrel
          cases gk with
          | zero => exact absurd HA.out (by simp [tidepoleref06_Check.l1])
          | succ k4 =>
           have H := HA.out
           clear HA
           simp only [tidepoleref06_Check.l1] at H
           by_cases Qx : NM < ((aY l0 bF).f1)
           ·rw [if_pos Qx] at H
            have c38b0 : decide (NM < ((aY l0 bF).f1)) = true := aiJ Qx
            clear Qx
            by_cases X0 : Lp > 1048576
            ·rw [if_pos X0] at H
             have c39b0 : decide (1048576 < Lp) = true := aiJ X0
             clear X0
             obtain rfl := Option.some.inj H
             have Px := ay aN.out
             have Py := aG aN.out
             go_wp2
             go_ret
             exact ⟨by first | rfl | (simp [aT, aU] <;> rfl) | (simp [*, aT, aU] <;> rfl), by repeat (first | (with_reducible first | exact HB.out | apply ak | apply au | apply aC | refine aA ?_ bT.out) | exact HB.out)⟩
            rw [if_neg X0] at H
            have c39b0 : decide (1048576 < Lp) = false := aiK X0
            clear X0
            have H' := ah H
            clear H
            have abr := ay aN.out
            have abt := aG aN.out
            go_wp2
            go_roundg k4
            case measure => have := jf.out; have := Jv.out; have := VA.out; have := HK4.out; omega
            case rel => exact ⟨(wrap64 (Lp + 1)), (wrap64 (Lr + 1)), (wrap64 (NM + 1)), (by first | rfl | (simp; done) | (simp [*]; done)), (by first | rfl | (simp; done) | (simp [*]; done)), (by first | rfl | (simp; done) | (simp [*]; done)), H', ⟨by have := jf.out; have := Jv.out; have := VA.out; have := HK4.out; omega⟩, ⟨by (repeat with_reducible refine bQ ?_); exact aN.out⟩, ⟨by repeat (first | (with_reducible first | exact HB.out | apply ak | apply au | apply aC | refine aA ?_ bT.out) | exact HB.out)⟩⟩
           rw [if_neg Qx] at H
           have c38b0 : decide (NM < ((aY l0 bF).f1)) = false := aiK Qx
           clear Qx
           by_cases Zp : Lr > 4096
           ·rw [if_pos Zp] at H
            have c42b0 : decide (4096 < Lr) = true := aiJ Zp
            clear Zp
            obtain rfl := Option.some.inj H
            have abu := ay aN.out
            have abv := aG aN.out
            go_wp2
            go_ret
            exact ⟨by first | rfl | (simp [aT, aU] <;> rfl) | (simp [*, aT, aU] <;> rfl), by repeat (first | (with_reducible first | exact HB.out | apply ak | apply au | apply aC | refine aA ?_ bT.out) | exact HB.out)⟩
           rw [if_neg Zp] at H
           have c42b0 : decide (4096 < Lr) = false := aiK Zp
           clear Zp
           have H' := ah H
           clear H
           have abw := ay aN.out
           have abx := aG aN.out
           go_wp2
           go_roundg k4
           case measure => have := jf.out; have := Jv.out; have := VA.out; have := HK4.out; omega
           case rel => exact ⟨(Lp), (Lr), (wrap64 (bF + 1)), (by first | rfl | (simp; done) | (simp [*]; done)), (by first | rfl | (simp; done) | (simp [*]; done)), (by first | rfl | (simp; done) | (simp [*]; done)), H', ⟨by have := jf.out; have := Jv.out; have := VA.out; have := HK4.out; omega⟩, ⟨by repeat (first | (with_reducible first | exact HB.out | apply ak | apply au | apply aC | refine aA ?_ bT.out) | exact HB.out)⟩⟩
    rw [if_neg c4] at H
    exact absurd H (by simp)
   rw [if_neg c3] at H
   have c3b0 : decide (bF < (l0.length : Int)) = false := aiK c3
   clear c3
   obtain rfl := Option.some.inj H
   go_wp2
   go_ret
   exact ⟨by first | rfl | (simp [aT, aU] <;> rfl) | (simp [*, aT, aU] <;> rfl), by repeat (first | (with_reducible first | exact HB.out | apply ak | apply au | apply aC) | exact HB.out)⟩
def tidepoleref06_Runs.l0 : Nat → List Int → Int → Int → Option (Int)
 | 0, _, _, _ => none
 | k + 1, x0, x3, x4 => if x4 < (x0.length : Int) then (if x4 = 0 then (tidepoleref06_Runs.l0 k x0 (wrap64 (x3 + 1)) (wrap64 (x4 + 1))) else (if 0 ≤ x4 then (if 0 ≤ (wrap64 (x4 - 1)) then (if (wrap64 (x4 - 1)) < (x0.length : Int) then (if (rd x0 x4) = (wrap64 ((rd x0 (wrap64 (x4 - 1))) + 1)) then (tidepoleref06_Runs.l0 k x0 x3 (wrap64 (x4 + 1))) else (tidepoleref06_Runs.l0 k x0 (wrap64 (x3 + 1)) (wrap64 (x4 + 1)))) else (none)) else (none)) else (none))) else (some x3)
def tidepoleref06_Runs.f (k : Nat) (l0 : List Int) : Option (Int) := tidepoleref06_Runs.l0 k l0 0 0
set_option maxHeartbeats 8000000 in
set_option maxRecDepth 100000 in
theorem tidepoleref06_Runs.calls (k : Nat) (A0 : Option Addr) (c0 : Nat) (l0 : List Int) (r : Int) (w : World) (hr0 : Kd.C (Kd.int .i64) w A0 l0.length l0) (hc0 : l0.length ≤ c0) (h : tidepoleref06_Runs.f k l0 = some r) :
  Calls Try.prog 84 #[.slice A0 l0.length c0] w fun e w' => e = .returned (.int .i64 r) ∧ bW w w' := by
 have HR0 := ah hr0
 have tK := ah hc0
 clear hr0 hc0
 have H : (tidepoleref06_Runs.l0 k l0 0 0) = some r := h
 clear h
 have H' := ah H
 clear H
 go_enter Try.func84, Try.ntmps84
 go_wp2
 repeat (go_quiet (fail); try go_wp2)
 go_loopg [3, 4] k (fun kq v3 v4 w' => ∃ (fG : Int) (dM : Int), v3 = .int .i64 fG ∧ v4 = .int .i64 dM ∧ aj (tidepoleref06_Runs.l0 kq l0 fG dM = some r) ∧ aj (kq ≤ k) ∧ bW w w')
 case atStart => exact ⟨(0), (0), (by first | rfl | (simp; done) | (simp [*]; done)), (by first | rfl | (simp; done) | (simp [*]; done)), H', ⟨Nat.le_refl _⟩, by repeat (first | exact bW.refl _ | apply bW.step)⟩
 case round =>
  clear H'
  obtain ⟨fG, dM, rfl, rfl, HA, jf, ⟨m1, rfl⟩⟩ := hrel
  cases gk with
  | zero => exact absurd HA.out (by simp [tidepoleref06_Runs.l0])
  | succ k1 =>
   have H := HA.out
   clear HA
   simp only [tidepoleref06_Runs.l0] at H
   by_cases c2 : dM < (l0.length : Int)
   ·rw [if_pos c2] at H
    have c2b0 : decide (dM < (l0.length : Int)) = true := aiJ c2
    clear c2
    by_cases c3 : dM = 0
    ·rw [if_pos c3] at H
     have c3b0 : (dM == 0) = true := beq_iff_eq.mpr c3
     have c3b1 : (dM != 0) = false := bne_eq_false_iff_eq.mpr c3
     clear c3
     have H' := ah H
     clear H
     go_wp2
     repeat (go_quiet (fail); try go_wp2)
     go_roundg k1
     case measure => have := jf.out; omega
     case rel => exact ⟨(wrap64 (fG + 1)), (wrap64 (dM + 1)), (by first | rfl | (simp; done) | (simp [*]; done)), (by first | rfl | (simp; done) | (simp [*]; done)), H', ⟨by have := jf.out; omega⟩, by repeat (first | exact bW.refl _ | apply bW.step)⟩
    rw [if_neg c3] at H
    have c3b0 : (dM == 0) = false := beq_eq_false_iff_ne.mpr c3
    have c3b1 : (dM != 0) = true := bne_iff_ne.mpr c3
    by_cases c4 : 0 ≤ dM
    ·rw [if_pos c4] at H
     have c4b0 : decide (0 ≤ dM) = true := aiJ c4
     clear c4
     obtain ⟨JM, X3⟩ : ∃ j_ : Int, (wrap64 (dM - 1)) = j_ := ⟨_, rfl⟩
     replace H : (if 0 ≤ (JM) then (if (JM) < (l0.length : Int) then (if (rd l0 dM) = (wrap64 ((rd l0 (JM)) + 1)) then (tidepoleref06_Runs.l0 k1 l0 fG (wrap64 (dM + 1))) else (tidepoleref06_Runs.l0 k1 l0 (wrap64 (fG + 1)) (wrap64 (dM + 1)))) else (none)) else (none)) = some r := by first | (rw [X3] at H; exact H) | (simp only [X3] at H ⊢; exact H)
     have hji5w : (IntKind.i64.wrap (dM - 1)) = JM := (dh _).trans X3
     by_cases c6 : 0 ≤ (JM)
     ·rw [if_pos c6] at H
      have c6b0 : decide (0 ≤ (JM)) = true := aiJ c6
      clear c6
      by_cases c7 : (JM) < (l0.length : Int)
      ·rw [if_pos c7] at H
       have c7b0 : decide ((JM) < (l0.length : Int)) = true := aiJ c7
       clear c7
       by_cases c8 : (rd l0 dM) = (wrap64 ((rd l0 (JM)) + 1))
       ·rw [if_pos c8] at H
        have c8b0 : ((rd l0 dM) == (wrap64 ((rd l0 (JM)) + 1))) = true := beq_iff_eq.mpr c8
        have c8b1 : ((rd l0 dM) != (wrap64 ((rd l0 (JM)) + 1))) = false := bne_eq_false_iff_eq.mpr c8
        clear c8
        have H' := ah H
        clear H
        have eX : 0 ≤ (dM : Int) := aiI (by assumption)
        have eY : dM < (l0.length : Int) := aiI (by assumption)
        obtain ⟨jU, jK, bP⟩ := Kd.fA HR0.out dM eX eY
        cases jK
        replace eX := eq_true eX
        replace eY := eq_true eY
        have lu : 0 ≤ ((JM) : Int) := aiI (by assumption)
        have lC : (JM) < (l0.length : Int) := aiI (by assumption)
        obtain ⟨qW, uo, kQ⟩ := Kd.fA HR0.out (JM) lu lC
        obtain rfl : jU = qW := (by injection uo)
        replace lu := eq_true lu
        replace lC := eq_true lC
        go_wp2
        repeat (go_quiet (fail); try go_wp2)
        go_roundg k1
        case measure => have := jf.out; omega
        case rel => exact ⟨(fG), (wrap64 (dM + 1)), (by first | rfl | (simp; done) | (simp [*]; done)), (by first | rfl | (simp; done) | (simp [*]; done)), H', ⟨by have := jf.out; omega⟩, by repeat (first | exact bW.refl _ | apply bW.step)⟩
       rw [if_neg c8] at H
       have c8b0 : ((rd l0 dM) == (wrap64 ((rd l0 (JM)) + 1))) = false := beq_eq_false_iff_ne.mpr c8
       have c8b1 : ((rd l0 dM) != (wrap64 ((rd l0 (JM)) + 1))) = true := bne_iff_ne.mpr c8
       have H' := ah H
       clear H
       have eX : 0 ≤ (dM : Int) := aiI (by assumption)
       have eY : dM < (l0.length : Int) := aiI (by assumption)
       obtain ⟨jU, jK, bP⟩ := Kd.fA HR0.out dM eX eY
       cases jK
       replace eX := eq_true eX
       replace eY := eq_true eY
       have lu : 0 ≤ ((JM) : Int) := aiI (by assumption)
       have lC : (JM) < (l0.length : Int) := aiI (by assumption)
       obtain ⟨qW, uo, kQ⟩ := Kd.fA HR0.out (JM) lu lC
       obtain rfl : jU = qW := (by injection uo)
       replace lu := eq_true lu
       replace lC := eq_true lC
       go_wp2
       repeat (go_quiet (fail); try go_wp2)
       go_roundg k1
       case measure => have := jf.out; omega
       case rel => exact ⟨(wrap64 (fG + 1)), (wrap64 (dM + 1)), (by first | rfl | (simp; done) | (simp [*]; done)), (by first | rfl | (simp; done) | (simp [*]; done)), H', ⟨by have := jf.out; omega⟩, by repeat (first | exact bW.refl _ | apply bW.step)⟩
      rw [if_neg c7] at H
      exact absurd H (by simp)
     rw [if_neg c6] at H
     exact absurd H (by simp)
    rw [if_neg c4] at H
    exact absurd H (by simp)
   rw [if_neg c2] at H
   have c2b0 : decide (dM < (l0.length : Int)) = false := aiK c2
   clear c2
   obtain rfl := Option.some.inj H
   go_wp2
   repeat (go_quiet (fail); try go_wp2)
   go_ret
   exact ⟨by first | rfl | (simp; done) | (simp [*]; done), by repeat (first | exact bW.refl _ | apply bW.step)⟩
end Go.Proofs.Ytooiccpmngmapaa.P
namespace Go.Proofs.Ytooiccpmngmapaa.P
open Go.RowKit Go.Proofs.YtooiccpmngmapaaW.PrintWords Go.Proofs.YtooiccpmngmapaaW.PrintLast Go.Proofs.YtooiccpmngmapaaW.PrintMore
abbrev Sp := dP
abbrev Rsp := fD
def aaf (s : Sp) : Prop := i64 s.f0 ∧ i64 s.f1
def lK (l : List Sp) : Prop := ∀ s ∈ l, aaf s
theorem Ls {l : List Sp} (h : ∀ s ∈ l, Pj s) : lK l := fun s hs => ⟨EX (h s hs).1, EX (h s hs).2⟩
theorem BH {l : List Sp} {i : Nat} (h : i < l.length) : bf l (i : Int) = l[i] := by unfold bf; simp [List.getD, h]
theorem Lu {l : List Rsp} {i : Nat} (h : i < l.length) : aY l (i : Int) = l[i] := by unfold aY; simp [List.getD, h]
def toR (s : Sp) : Rsp := ⟨s.f0, s.f1⟩
theorem Pz (p : Int) : span_in.f p = some (decide (-1048576 ≤ p ∧ p ≤ 1048576)) := by
 unfold span_in.f
 by_cases h : p ≥ -1048576
 ·rw [if_pos h]; congr 1; rw [decide_eq_decide]; omega
 ·rw [if_neg h, aiK (by omega)]
def sD (first : Bool) (a n : Int) (s : Sp) : Prop :=
 0 ≤ s.f1 ∧ s.f1 ≤ 4096 ∧ s.f0 ≤ 2097152 ∧ (if first = true then -1048576 ≤ s.f0 else 0 ≤ s.f0) ∧ -1048576 ≤ a + s.f0 ∧ a + s.f0 ≤ 1048576 ∧ a + s.f0 + max (s.f1 - 1) 0 ≤ 1048576 ∧ n + s.f1 ≤ 4096
instance (f : Bool) (a n : Int) (s : Sp) : Decidable (sD f a n s) := by unfold sD; exact inferInstance
def iU : Bool → Int → Int → List Sp → Bool
 | _, _, _, [] => true
 | f, a, n, s :: r => decide (sD f a n s) && iU false (a + s.f0 + s.f1) (n + s.f1) r
theorem X4 (a b : Int) : mx a b = max a b := by unfold mx; omega
theorem Tt (k : Nat) (a n x0 x1 : Int) (l : List Sp) (L i : Int) (ha : -1048576 ≤ a ∧ a ≤ 1048577) (hn : 0 ≤ n ∧ n ≤ 4096) (h0 : -1048576 ≤ x0 ∧ x0 ≤ 2097152) (h1 : 0 ≤ x1 ∧ x1 ≤ 4096) :
  span_right.j1 (k + 1) a n l L i false x0 x1 = if -1048576 ≤ a + x0 ∧ a + x0 ≤ 1048576 ∧ a + x0 + max (x1 - 1) 0 ≤ 1048576 ∧ n + x1 ≤ 4096 then span_right.l0 k (a + x0 + x1) (n + x1) l L (wrap64 (i + 1)) else some false := by
 simp only [span_right.j1]
 rw [if_neg (by decide), eu (x := a + x0) (by omega) (by omega), Pz]
 simp only [Option.bind_some]
 by_cases c1 : -1048576 ≤ a + x0 ∧ a + x0 ≤ 1048576
 ·rw [if_pos (by simpa using c1), eu (x := x1 - 1) (by omega) (by omega), X4, eu (x := a + x0 + max (x1 - 1) 0) (by omega) (by omega), Pz]
  simp only [Option.bind_some]
  by_cases c2 : a + x0 + max (x1 - 1) 0 ≤ 1048576
  ·rw [if_pos (by simp; omega), eu (x := n + x1) (by omega) (by omega)]
   by_cases c3 : n + x1 ≤ 4096
   ·rw [if_neg (by omega), if_pos ⟨c1.1, c1.2, c2, c3⟩, eu (x := a + x0 + x1) (by omega) (by omega)]
   ·rw [if_pos (by omega), if_neg (by omega)]
  ·rw [if_neg (by simp; omega), if_neg (by omega)]
 ·rw [if_neg (by simpa using c1), if_neg (by omega)]
theorem NP (l : List Sp) (hw : lK l) (hm : l.length ≤ 4611686018427387904) : ∀ (d k i : Nat) (a n : Int), l.length - i = d → 2 * d < k → i ≤ l.length → -1048576 ≤ a ∧ a ≤ 1048577 → 0 ≤ n ∧ n ≤ 4096 →
    span_right.l0 k a n l (l.length : Int) (i : Int) = some (iU (decide (i = 0)) a n (l.drop i)) := by
  intro d
  induction d with
  | zero =>
    intro k i a n hd hk hi ha hn
    obtain ⟨k, rfl⟩ : ∃ m, k = m + 1 := ⟨k - 1, by omega⟩
    simp only [span_right.l0]
    rw [if_neg (by omega), drop_end (by omega)]; rfl
  | succ d ih =>
    intro k i a n hd hk hi ha hn
    obtain ⟨k, rfl⟩ : ∃ m, k = m + 2 := ⟨k - 2, by omega⟩
    have hlt : i < l.length := by omega
    have hs := hw _ (List.getElem_mem hlt)
    simp only [span_right.l0]
    rw [if_pos (by omega), if_pos (by omega), if_pos (by omega), BH hlt, drop_at hlt]
    generalize l[i] = s at hs
    have hbad : ¬ sD (decide (i = 0)) a n s → some false = some (iU (decide (i = 0)) a n (s :: l.drop (i + 1))) := fun h => by simp only [iU, aiK h, Bool.false_and]
    have hf : ∀ L' : Int, span_right.j1 (k + 1) a n l (l.length : Int) (i : Int) true s.f0 s.f1 = some false := fun _ => by simp only [span_right.j1]; simp
    have hf := hf 0
    have hgo : (-1048576 ≤ s.f0 ∧ s.f0 ≤ 2097152) → (0 ≤ s.f1 ∧ s.f1 ≤ 4096) → (if decide (i = 0) = true then -1048576 ≤ s.f0 else 0 ≤ s.f0) → span_right.j1 (k + 1) a n l (l.length : Int) (i : Int) false s.f0 s.f1 = some (iU (decide (i = 0)) a n (s :: l.drop (i + 1))) := by
      intro h0 h1 h2
      rw [Tt k a n s.f0 s.f1 l _ _ ha hn h0 h1]
      by_cases c : -1048576 ≤ a + s.f0 ∧ a + s.f0 ≤ 1048576 ∧ a + s.f0 + max (s.f1 - 1) 0 ≤ 1048576 ∧ n + s.f1 ≤ 4096
      · rw [if_pos c, wrap_succ (by omega), ih k (i + 1) _ _ (by omega) (by omega) (by omega) (by omega) (by omega)]
        have : sD (decide (i = 0)) a n s := ⟨h1.1, h1.2, h0.2, h2, c.1, c.2.1, c.2.2.1, c.2.2.2⟩
        simp only [iU, aiJ this, Bool.true_and]
        rfl
      · rw [if_neg c]; exact hbad (fun h => c ⟨h.2.2.2.2.1, h.2.2.2.2.2.1, h.2.2.2.2.2.2.1, h.2.2.2.2.2.2.2⟩)
    by_cases c1 : s.f0 > 2097152
    · rw [if_pos c1, hf]; exact hbad (fun h => by have := h.2.2.1; omega)
    rw [if_neg c1]
    by_cases c2 : s.f1 < 0
    · rw [if_pos c2, hf]; exact hbad (fun h => by have := h.1; omega)
    rw [if_neg c2]
    by_cases c3 : s.f1 > 4096
    · rw [if_pos c3, hf]; exact hbad (fun h => by have := h.2.1; omega)
    rw [if_neg c3]
    by_cases c4 : s.f0 < 0
    · rw [if_pos c4]
      by_cases c5 : i = 0
      · subst c5
        rw [if_neg (by omega), Pz]
        simp only [Option.bind_some]
        by_cases c6 : -1048576 ≤ s.f0 ∧ s.f0 ≤ 1048576
        · rw [aiJ c6, Bool.not_true]; exact hgo (by omega) (by omega) (by simp; exact c6.1)
        · rw [aiK c6, Bool.not_false, hf]; exact hbad (fun h => by have h4 := h.2.2.2.1; rw [if_pos (by simp)] at h4; omega)
      · rw [if_pos (by omega), hf]; exact hbad (fun h => by have h4 := h.2.2.2.1; rw [if_neg (by simp [c5])] at h4; omega)
    · rw [if_neg c4]; exact hgo (by omega) (by omega) (by split <;> omega)
theorem right_eq (l : List Sp) (hw : lK l) (hm : l.length ≤ 4611686018427387904) (k : Nat) (hk : 2 * l.length < k) : span_right.f k l = some (iU true 0 0 l) := by
 unfold span_right.f
 have := NP l hw hm l.length k 0 0 0 (by omega) hk (by omega) (by omega) (by omega)
 simpa using this
def fZ (l : List Sp) : Int := if l.length > 1024 then 12 else if iU true 0 0 l = true then 0 else 20
theorem BI (l : List Sp) (hw : lK l) (k : Nat) (hk : 2048 < k) : span_Check.f k l = some (fZ l) := by
 unfold span_Check.f fZ
 by_cases h : l.length > 1024
 ·rw [if_pos (by omega), if_pos h]
 ·rw [if_neg (by omega), if_neg h, right_eq l hw (by omega) k (by omega)]
  simp only [Option.bind_some]
  split <;> rfl
def run : Int → Nat → List Int
 | _, 0 => []
 | a, n + 1 => a :: run (a + 1) n
theorem Am : ∀ (n : Nat) (a : Int), (run a n).length = n
 | 0, _ => rfl
 | n + 1, a => by show (run (a + 1) n).length + 1 = n + 1; rw [Am n]
theorem LC : ∀ (n : Nat) (a : Int), run a (n + 1) = run a n ++ [a + n]
  | 0, a => by simp [run]
  | n + 1, a => by
    show a :: run (a + 1) (n + 1) = a :: run (a + 1) n ++ [a + ((n + 1 : Nat) : Int)]
    rw [LC n]; simp; omega
def uP : Int → List Sp → List Int
 | _, [] => []
 | a, s :: r => run (a + s.f0) s.f1.toNat ++ uP (a + s.f0 + s.f1) r
def Rx : Int → List Sp → Int
 | a, [] => a
 | a, s :: r => Rx (a + s.f0 + s.f1) r
def nT : List Sp → Int
 | [] => 0
 | s :: r => s.f1 + nT r
theorem BJ (s : Sp) : ∀ (l : List Sp) (a : Int), uP a (l ++ [s]) = uP a l ++ run (Rx a l + s.f0) s.f1.toNat
 | [], a => by simp [uP, Rx]
 | x :: l, a => by simp [uP, Rx, BJ s l]
theorem BK (s : Sp) : ∀ (l : List Sp) (a : Int), Rx a (l ++ [s]) = Rx a l + s.f0 + s.f1
 | [], a => by simp [Rx]
 | x :: l, a => by simp [Rx, BK s l]
theorem wJ (s : Sp) : ∀ (l : List Sp), nT (l ++ [s]) = nT l + s.f1
 | [] => by simp [nT]
 | x :: l => by simp [nT, wJ s l]; omega
theorem xI (s : Sp) : ∀ (l : List Sp) (f : Bool) (a n : Int), iU f a n (l ++ [s]) = (iU f a n l && decide (sD (f && l.isEmpty) (Rx a l) (n + nT l) s))
  | [], f, a, n => by simp [iU, Rx, nT]
  | x :: l, f, a, n => by
    simp only [List.cons_append, iU, Rx, nT, xI s l, List.isEmpty_cons, Bool.false_and, Bool.and_false, Bool.and_assoc, Int.add_assoc]
theorem nU : ∀ (l : List Sp) (f : Bool) (a n : Int), iU f a n l = true → ∀ s ∈ l, 0 ≤ s.f1 ∧ s.f1 ≤ 4096
  | [], _, _, _, _, s, hs => by simp at hs
  | x :: l, f, a, n, h, s, hs => by
    simp only [iU, Bool.and_eq_true, decide_eq_true_eq] at h
    rcases List.mem_cons.1 hs with rfl | hs
    · exact ⟨h.1.1, h.1.2.1⟩
    · exact nU l _ _ _ h.2 s hs
theorem rD : ∀ (l : List Sp) (a : Int), (∀ s ∈ l, 0 ≤ s.f1) → ((uP a l).length : Int) = nT l
  | [], _, _ => rfl
  | s :: l, a, h => by
    have := rD l (a + s.f0 + s.f1) (fun x hx => h x (List.mem_cons_of_mem _ hx))
    have := h s (List.mem_cons_self ..)
    simp only [uP, nT, List.length_append, Am]
    omega
theorem II : ∀ (n : Nat) (a : Int), -4611686018427387904 ≤ a → a + n ≤ 4611686018427387904 → pq a n = run a n ∧ o8 a n = a + n
  | 0, a, _, _ => ⟨rfl, by simp [o8]⟩
  | n + 1, a, h0, h1 => by
    have h2 : a + 1 + (n : Int) ≤ 4611686018427387904 := by omega
    obtain ⟨e1, e2⟩ := II n (a + 1) (by omega) h2
    simp only [pq, o8, run]
    rw [eu (by omega) (by omega), e1, e2]
    exact ⟨rfl, by omega⟩
theorem BL : ∀ (l : List Sp) (f : Bool) (a n : Int), iU f a n l = true → fM a l = uP a l
  | [], _, _, _, _ => rfl
  | s :: l, f, a, n, h => by
    simp only [iU, Bool.and_eq_true, decide_eq_true_eq] at h
    obtain ⟨h1, h2, h3, h4, h5, h6, h7, h8⟩ := h.1
    have he : ((s.f1.toNat : Nat) : Int) = s.f1 := by omega
    have hb := II s.f1.toNat (a + s.f0) (by omega) (by omega)
    simp only [fM, uP]
    rw [eu (by omega) (by omega), hb.1, hb.2, he, BL l _ _ _ h.2]
theorem PD : ∀ (l : List Sp) (f : Bool) (a n : Int), iU f a n l = true → n ≤ 4096 → n + nT l ≤ 4096
  | [], _, _, _, _, h => by simp [nT]; exact h
  | s :: l, f, a, n, h, _ => by
    simp only [iU, Bool.and_eq_true, decide_eq_true_eq] at h
    have := PD l _ _ _ h.2 h.1.2.2.2.2.2.2.2
    simp only [nT]; omega
def rises : Int → List Int → Bool
 | _, [] => true
 | e, p :: r => decide (e ≤ p ∧ p ≤ 1048576) && rises (p + 1) r
def Dq (e : Int) (l : List Int) : Int := match l.getLast? with | none => e | some q => q + 1
theorem Dt {e : Int} {l : List Int} (h : l.getLast? = none) : Dq e l = e := by unfold Dq; rw [h]
theorem rE {e q : Int} {l : List Int} (h : l.getLast? = some q) : Dq e l = q + 1 := by unfold Dq; rw [h]
theorem Ap (p : Int) : ∀ (l : List Int) (e : Int), rises e (l ++ [p]) = (rises e l && decide (Dq e l ≤ p ∧ p ≤ 1048576))
  | [], e => (show (decide (e ≤ p ∧ p ≤ 1048576) && true) = (true && decide (e ≤ p ∧ p ≤ 1048576)) from Bool.and_comm _ _)
  | x :: l, e => by
    simp only [List.cons_append, rises, Ap p l, Bool.and_assoc]
    congr 3
    cases l with
    | nil => rfl
    | cons y l => cases h : (y :: l).getLast? with
      | none => simp at h
      | some q => rw [rE h, rE (by rw [List.getLast?_cons_cons]; exact h)]
theorem wK {l : List Int} {i : Nat} (h : i < l.length) (hb : ¬ (Dq (-1048576) (l.take i) ≤ l[i] ∧ l[i] ≤ 1048576)) : rises (-1048576) l = false := by
  have e : l = l.take (i + 1) ++ l.drop (i + 1) := (List.take_append_drop _ _).symm
  have happ : ∀ (a b : List Int) (e : Int), rises e a = false → rises e (a ++ b) = false := by
    intro a
    induction a with
    | nil => intro b e h; simp [rises] at h
    | cons x a ih => intro b e h; simp only [List.cons_append, rises] at h ⊢; rcases Bool.and_eq_false_iff.1 h with h | h
                     · rw [h]; rfl
                     · rw [ih b _ h]; simp
  rw [e]
  apply happ
  rw [take_at h, Ap, aiK hb]
  simp
def vg (c : List Sp × Int) (p : Int) : List Sp × Int :=
 (if c.1 = [] ∨ p > c.2 then c.1 ++ [⟨p - c.2, 1⟩] else c.1.dropLast ++ (c.1.getLast?.map fun s => (⟨s.f0, s.f1 + 1⟩ : Sp)).toList, p + 1)
def iO (l : List Int) : List Sp × Int := l.foldl vg ([], 0)
def spansOf (l : List Int) : List Sp := (iO l).1
theorem rF (l : List Int) (p : Int) : iO (l ++ [p]) = vg (iO l) p := by simp [iO]
def BM (first : Bool) (s : Sp) : Prop := s.f1 ≠ 0 ∧ (first = false → s.f0 ≠ 0)
instance (f : Bool) (s : Sp) : Decidable (BM f s) := by unfold BM; exact inferInstance
def uq : Bool → List Sp → Bool
 | _, [] => true
 | f, s :: r => decide (BM f s) && uq false r
theorem vk (s : Sp) : ∀ (l : List Sp) (f : Bool), uq f (l ++ [s]) = (uq f l && decide (BM (f && l.isEmpty) s))
 | [], f => by simp [uq]
 | x :: l, f => by simp only [List.cons_append, uq, vk s l, List.isEmpty_cons, Bool.false_and, Bool.and_false, Bool.and_assoc]
structure SpInv (l : List Int) (c : List Sp) (e : Int) : Prop where
 pl : uP 0 c = l
 en : Rx 0 c = e
 cnt : nT c = l.length
 can : uq true c = true
 pos : ∀ s ∈ c, 1 ≤ s.f1 ∧ s.f1 ≤ l.length ∧ -1048576 ≤ s.f0 ∧ s.f0 ≤ 2097152
 right : (l.length : Int) ≤ 4096 → iU true 0 0 c = true
 nil : c = [] ↔ l = []
 last : ∀ q, l.getLast? = some q → e = q + 1 ∧ -1048576 ≤ q ∧ q ≤ 1048576
 first : l = [] → e = 0
 len : c.length ≤ l.length
theorem NQ {l : List Int} {p : Int} (h : SpInv l (iO l).1 (iO l).2) (hp : Dq (-1048576) l ≤ p ∧ p ≤ 1048576) : SpInv (l ++ [p]) (iO (l ++ [p])).1 (iO (l ++ [p])).2 := by
 rw [rF]
 generalize iO l = g at h
 obtain ⟨c, e⟩ := g
 obtain ⟨hpl, hen, hcnt, hcan, hpos, hright, hnil, hlast, hfirst, hlen⟩ := h
 simp only at hpl hen hcnt hcan hpos hright hnil hlast hfirst hlen
 have hpb : -1048576 ≤ p := by
  cases hl : l.getLast? with
  | none => rw [Dt hl] at hp; exact hp.1
  | some q => rw [rE hl] at hp; have := hlast q hl; have := hp.1; omega
 have heb : -1048576 ≤ e ∧ e ≤ 1048577 := by
  cases hl : l.getLast? with
  | none => have := hfirst (List.getLast?_eq_none_iff.1 hl); omega
  | some q => have := hlast q hl; omega
 have hlast' : ∀ q, (l ++ [p]).getLast? = some q → p + 1 = q + 1 ∧ -1048576 ≤ q ∧ q ≤ 1048576 := by
  intro q hq; simp at hq; subst hq; exact ⟨rfl, hpb, hp.2⟩
 unfold vg
 simp only
 by_cases hc : c = [] ∨ p > e
 ·rw [if_pos hc]
  have hemp : c ≠ [] → 0 < p - e := by intro hne; rcases hc with hc | hc; exact absurd hc hne; omega
  have hlo : -1048576 ≤ p - e := by
   by_cases hne : c = []
   ·have := hfirst (hnil.1 hne); omega
   ·have := hemp hne; omega
  refine ⟨?_, ?_, ?_, ?_, ?_, ?_, ?_, hlast', by simp, by simp; exact hlen⟩
  ·rw [BJ, hpl, hen]; simp [run]; omega
  ·rw [BK, hen]; simp; omega
  ·rw [wJ, hcnt]; simp
  ·rw [vk, hcan]
   simp only [Bool.true_and, decide_eq_true_eq]
   refine ⟨by simp, fun hf => ?_⟩
   have : c ≠ [] := by rintro rfl; simp at hf
   have := hemp this
   simp only; omega
  ·intro s hs
   rcases List.mem_append.1 hs with hs | hs
   ·have := hpos s hs; simp; omega
   ·simp at hs; subst hs; simp; omega
  ·intro hl
   have hl' : (l.length : Int) ≤ 4096 := by simp at hl; omega
   rw [xI, hright hl', hen, hcnt]
   simp only [Bool.true_and, decide_eq_true_eq]
   refine ⟨by simp, by simp, by simp; omega, ?_, by simp; omega, by simp; omega, by simp; omega, by simp at hl ⊢; omega⟩
   by_cases hne : c = []
   ·subst hne; simp; have := hfirst (hnil.1 rfl); omega
   ·have := hemp hne
    rw [if_neg (by simp [hne])]
    simp only; omega
  ·simp
 ·rw [if_neg hc]
  have hne : c ≠ [] := fun h => hc (Or.inl h)
  obtain ⟨c', s, rfl⟩ : ∃ c' s, c = c' ++ [s] := ⟨c.dropLast, c.getLast hne, (List.dropLast_concat_getLast hne).symm⟩
  have hle : l ≠ [] := fun h => hne (hnil.2 h)
  obtain ⟨q, hq⟩ : ∃ q, l.getLast? = some q := by cases hl : l.getLast? with
   | none => exact absurd (List.getLast?_eq_none_iff.1 hl) hle
   | some q => exact ⟨q, rfl⟩
  have hpe : p = e := by
   rw [rE hq] at hp
   have := hlast q hq
   have := hp.1
   have : ¬ p > e := fun h => hc (Or.inr h)
   omega
  subst hpe
  have hs1 := hpos s (by simp)
  rw [BJ] at hpl
  rw [BK] at hen
  rw [wJ] at hcnt
  rw [vk] at hcan
  simp only [Bool.and_eq_true, decide_eq_true_eq] at hcan
  simp only [List.dropLast_concat, List.getLast?_concat, Option.map_some, Option.toList_some]
  have het : (s.f1 + 1).toNat = s.f1.toNat + 1 := by omega
  refine ⟨?_, ?_, ?_, ?_, ?_, ?_, ?_, hlast', by simp, by simp at hlen ⊢; omega⟩
  ·rw [BJ]; simp only []; rw [het, LC, ← List.append_assoc, hpl]
   congr 2; omega
  ·rw [BK]; simp only; omega
  ·rw [wJ]; simp only [List.length_append, List.length_cons, List.length_nil]; omega
  ·rw [vk, hcan.1]
   simp only [Bool.true_and, decide_eq_true_eq]
   exact ⟨by simp only; omega, hcan.2.2⟩
  ·intro x hx
   rcases List.mem_append.1 hx with hx | hx
   ·have := hpos x (by simp [hx]); simp; omega
   ·simp at hx; subst hx; simp; omega
  ·intro hl
   have hl' : (l.length : Int) ≤ 4096 := by simp at hl; omega
   have hr := hright hl'
   rw [xI] at hr ⊢
   simp only [Bool.and_eq_true, decide_eq_true_eq] at hr ⊢
   obtain ⟨hr0, h1, h2, h3, h4, h5, h6, h7, h8⟩ := hr
   simp only [List.length_append, List.length_cons, List.length_nil] at hl
   exact ⟨hr0, by simp only; omega, by simp only; omega, h3, h4, h5, h6, by simp only; omega, by simp only; omega⟩
  ·simp
theorem nV (l : List Int) (hr : rises (-1048576) l = true) : SpInv l (spansOf l) (iO l).2 := by
  have : ∀ i, i ≤ l.length → SpInv (l.take i) (iO (l.take i)).1 (iO (l.take i)).2 := by
    intro i
    induction i with
    | zero => intro _; simp only [List.take_zero]; exact ⟨rfl, rfl, rfl, rfl, by simp [iO], fun _ => rfl, by simp [iO], by simp, fun _ => rfl, by simp [iO]⟩
    | succ i ih =>
      intro hi
      have hlt : i < l.length := by omega
      rw [take_at hlt]
      refine NQ (ih (by omega)) ?_
      by_cases hb : (Dq (-1048576) (l.take i) ≤ l[i] ∧ l[i] ≤ 1048576)
      · exact hb
      · rw [wK hlt hb] at hr; cases hr
  have := this l.length (Nat.le_refl _)
  rwa [List.take_length] at this
def jO (l : List Int) : List Sp × Int := if rises (-1048576) l = true then (if (l.length : Int) > 4096 then ([], 12) else if ((spansOf l).length : Int) > 1024 then ([], 12) else (spansOf l, 0)) else ([], 11)
theorem IJ (c : List Sp) (s : Sp) (h : c.length < 4611686018427387904) : wrap64 (((c ++ [s]).length : Int) - 1) = (c.length : Int) ∧ bf (c ++ [s]) (c.length : Int) = s := by
 refine ⟨by simp only [List.length_append, List.length_cons, List.length_nil]; rw [eu (by omega) (by omega)]; omega, ?_⟩
 rw [BH (by simp)]; simp
theorem Qz (l : List Int) (hw : ∀ x ∈ l, i64 x) (hm : l.length < 4398046511104) : ∀ (d k i : Nat), l.length - i = d → 2 * d < k → i ≤ l.length → rises (-1048576) (l.take i) = true →
    span_From.l0 k l (iO (l.take i)).1 (iO (l.take i)).2 l (l.length : Int) (i : Int) = some (jO l) := by
  intro d
  induction d with
  | zero =>
    intro k i hd hk hi hr
    obtain ⟨k, rfl⟩ : ∃ m, k = m + 1 := ⟨k - 1, by omega⟩
    have hil : i = l.length := by omega
    subst hil
    rw [List.take_length] at hr ⊢
    simp only [span_From.l0]
    rw [if_neg (by omega)]
    unfold jO
    rw [if_pos hr]
    show _ = some (if (l.length : Int) > 4096 then ([], 12) else if (((iO l).1).length : Int) > 1024 then ([], 12) else ((iO l).1, 0))
    split
    · rfl
    · split <;> rfl
  | succ d ih =>
    intro k i hd hk hi hr
    obtain ⟨k, rfl⟩ : ∃ m, k = m + 2 := ⟨k - 2, by omega⟩
    have hlt : i < l.length := by omega
    have hp := hw _ (List.getElem_mem hlt)
    have hinv : SpInv (l.take i) (iO (l.take i)).1 (iO (l.take i)).2 := nV _ hr
    have hfail : ¬ (Dq (-1048576) (l.take i) ≤ l[i] ∧ l[i] ≤ 1048576) → some (([] : List Sp), (11 : Int)) = some (jO l) := by
      intro hb
      unfold jO
      rw [wK hlt hb]; rfl
    have hgo : (Dq (-1048576) (l.take i) ≤ l[i] ∧ l[i] ≤ 1048576) → span_From.l0 k l (iO (l.take (i + 1))).1 (iO (l.take (i + 1))).2 l (l.length : Int) ((i + 1 : Nat) : Int) = some (jO l) := by
      intro hb
      refine ih k (i + 1) (by omega) (by omega) (by omega) ?_
      rw [take_at hlt, Ap, hr, aiJ hb]; rfl
    have hsnoc : iO (l.take (i + 1)) = vg (iO (l.take i)) l[i] := by rw [take_at hlt, rF]
    rw [hsnoc] at hgo
    clear hsnoc
    have hlen : (l.take i).length = i := by simp; omega
    have hi0 : (l.take i).getLast? = none ↔ i = 0 := by rw [List.getLast?_eq_none_iff]; constructor
                                                        · intro h; rw [h] at hlen; simpa using hlen.symm
                                                        · intro h; subst h; rfl
    simp only [span_From.l0]
    rw [if_pos (by omega), if_pos (by omega), if_pos (by omega), qC hlt, Pz]
    simp only [Option.bind_some]
    generalize l[i] = p at hp hfail hgo
    generalize iO (l.take i) = g at hinv hgo
    obtain ⟨c, e⟩ := g
    obtain ⟨hpl, hen, hcnt, hcan, hpos, hright, hnil, hlast, hfirst, hcl⟩ := hinv
    simp only at hpl hen hcnt hcan hpos hright hnil hlast hfirst hgo hcl ⊢
    rw [hlen] at hcl
    have hbad : ∀ b, b = true → ¬ (Dq (-1048576) (l.take i) ≤ p ∧ p ≤ 1048576) → span_From.j1 (k + 1) l c e (i : Int) p l (l.length : Int) (i : Int) b = some (jO l) := by
      intro b hb h; subst hb
      simp only [span_From.j1]; simp only [if_true]; exact hfail h
    by_cases c1 : -1048576 ≤ p ∧ p ≤ 1048576
    rotate_left
    · rw [aiK c1, if_neg (by decide)]
      refine hbad true rfl (fun h => c1 ?_)
      cases hl : (l.take i).getLast? with
      | none => rw [Dt hl] at h; exact h
      | some q => have := hlast q hl; rw [rE hl] at h; omega
    rw [aiJ c1, if_pos rfl]
    -- the bound that counts
    have hbnd : (¬ (i > 0 ∧ p < e)) → (Dq (-1048576) (l.take i) ≤ p ∧ p ≤ 1048576) := by
      intro h
      cases hl : (l.take i).getLast? with
      | none => rw [Dt hl]; exact c1
      | some q =>
        have := hlast q hl
        have : i ≠ 0 := fun h0 => by rw [hi0.2 h0] at hl; cases hl
        rw [rE hl]; omega
    have hne : (i > 0 ∧ p < e) → ¬ (Dq (-1048576) (l.take i) ≤ p ∧ p ≤ 1048576) := by
      rintro ⟨h0, h1⟩ h
      cases hl : (l.take i).getLast? with
      | none => exact absurd (hi0.1 hl) (by omega)
      | some q => have := hlast q hl; rw [rE hl] at h; have := h.1; omega
    have hcn : c = [] ↔ i = 0 := hnil.trans (List.getLast?_eq_none_iff.symm.trans hi0)
    have heb : -1048576 ≤ e ∧ e ≤ 1048577 := by
      cases hl : (l.take i).getLast? with
      | none => have := hfirst (List.getLast?_eq_none_iff.1 hl); omega
      | some q => have := hlast q hl; omega
    have hgood : ¬ (i > 0 ∧ p < e) → span_From.j1 (k + 1) l c e (i : Int) p l (l.length : Int) (i : Int) false = some (jO l) := by
      intro hn
      have hgo := hgo (hbnd hn)
      unfold vg at hgo
      simp only at hgo
      have happ : (some (c ++ [(⟨wrap64 (p - e), 0⟩ : Sp)] : List Sp)).bind (fun y => (if 0 ≤ (wrap64 ((y.length : Int) - 1)) then (if (wrap64 ((y.length : Int) - 1)) < (y.length : Int) then (span_From.l0 k l (y.set ((wrap64 ((y.length : Int) - 1)) : Int).toNat (⟨(bf y (wrap64 ((y.length : Int) - 1))).f0, wrap64 (((bf y (wrap64 ((y.length : Int) - 1))).f1) + 1)⟩ : Sp)) (wrap64 (p + 1)) l (l.length : Int) (wrap64 ((i : Int) + 1))) else (none)) else (none))) = span_From.l0 k l (c ++ [⟨p - e, 1⟩]) (p + 1) l (l.length : Int) ((i + 1 : Nat) : Int) := by
        simp only [Option.bind_some]
        obtain ⟨e1, e2⟩ := IJ c ⟨wrap64 (p - e), 0⟩ (by omega)
        rw [e1, e2, if_pos (by omega), if_pos (by simp only [List.length_append, List.length_cons, List.length_nil]; omega)]
        simp only []
        rw [eu (x := p - e) (by omega) (by omega), eu (x := 0 + 1) (by omega) (by omega), eu (x := p + 1) (by omega) (by omega), wrap_succ (by omega)]
        congr 1
        simp
      simp only [span_From.j1]
      rw [if_neg (by decide)]
      by_cases h0 : i = 0
      · rw [if_pos (by omega), if_pos (by omega), happ]
        rw [if_pos (Or.inl (hcn.2 h0))] at hgo
        exact hgo
      · rw [if_neg (by omega)]
        by_cases h1 : p > e
        · rw [if_pos h1, if_pos (by omega), happ]
          rw [if_pos (Or.inr h1)] at hgo
          exact hgo
        · rw [if_neg h1]
          rw [if_neg (by rintro (h | h); exact h0 (hcn.1 h); exact h1 h)] at hgo
          have hne : c ≠ [] := fun h => h0 (hcn.1 h)
          obtain ⟨c', s, rfl⟩ : ∃ c' s, c = c' ++ [s] := ⟨c.dropLast, c.getLast hne, (List.dropLast_concat_getLast hne).symm⟩
          have hs1 := hpos s (by simp)
          rw [hlen] at hs1
          simp only [List.length_append, List.length_cons, List.length_nil] at hcl
          obtain ⟨e1, e2⟩ := IJ c' s (by omega)
          rw [e1, e2, if_pos (by omega), if_pos (by simp only [List.length_append, List.length_cons, List.length_nil]; omega)]
          simp only [List.dropLast_concat, List.getLast?_concat, Option.map_some, Option.toList_some] at hgo
          rw [eu (x := s.f1 + 1) (by omega) (by omega), eu (x := p + 1) (by omega) (by omega), wrap_succ (by omega), ← hgo]
          congr 1
          simp
    by_cases c2 : (i : Int) > 0
    · rw [if_pos c2]
      by_cases c3 : p < e
      · exact hbad _ (aiJ c3) (hne ⟨by omega, c3⟩)
      · rw [aiK c3]; exact hgood (fun h => c3 h.2)
    · rw [if_neg c2]; exact hgood (fun h => c2 (by omega))
theorem PE (l : List Int) (hw : ∀ x ∈ l, i64 x) (hm : l.length < 4398046511104) (k : Nat) (hk : 2 * l.length < k) : span_From.f k l = some (jO l) := by
 unfold span_From.f
 exact Qz l hw hm l.length k 0 (by omega) hk (by omega) rfl
def zT (l : List Sp) : List Int × Int := if fZ l = 0 then (uP 0 l, 0) else ([], fZ l)
theorem jW {l : List Sp} (h : fZ l = 0) : l.length ≤ 1024 ∧ iU true 0 0 l = true := by
 unfold fZ at h
 split at h
 ·cases h
 ·split at h
  ·exact ⟨by omega, by assumption⟩
  ·cases h
theorem pW {l : List Sp} (h : fZ l = 0) : (uP 0 l).length ≤ 4096 := by
 have hr := (jW h).2
 have h1 := rD l 0 (fun s hs => (nU l _ _ _ hr s hs).1)
 have h2 := PD l _ _ _ hr (by omega)
 omega
theorem IK (l : List Sp) (hw : lK l) (k : Nat) (hk : 2048 < k) : span_Places.f k l = some (zT l) := by
 unfold span_Places.f zT
 rw [BI l hw k hk]
 simp only [Option.bind_some]
 by_cases h : fZ l = 0
 ·have h0 := jW h
  rw [if_pos h, if_pos h, BL l _ _ _ h0.2, if_pos ⟨by omega, by have := pW h; omega⟩]
 ·rw [if_neg h, if_neg h]
theorem zU {l : List Sp} {i : Nat} (h : i < l.length) : aY (l.map toR) (i : Int) = toR l[i] := by rw [Lu (by simpa using h)]; simp
theorem JO (l : List Sp) (i : Nat) (hi : i < l.length) (s : Sp) (hs : l[i] = s) (hf : 0 ≤ s.f1 ∧ s.f1 ≤ 4096) : ∀ (d k j : Nat) (acc : List Int) (a : Int), s.f1.toNat - j = d → j ≤ s.f1.toNat → acc.length + d < 17592186044416 → -4611686018427387904 ≤ a → a + d ≤ 4611686018427387904 →
    tidepoleref06_Places.l1 (k + (d + 1)) (l.map toR) acc a (i : Int) (j : Int) = tidepoleref06_Places.l0 k (l.map toR) (acc ++ run a d) (a + d) (wrap64 ((i : Int) + 1)) := by
  intro d
  induction d with
  | zero =>
    intro k j acc a hd hj hacc ha hb
    have hc : ¬ (j : Int) < (toR s).f1 := by show ¬ (j : Int) < s.f1; omega
    rw [tidepoleref06_Places.l1, List.length_map, if_pos (by omega), if_pos (by omega), zU hi, hs, if_neg hc]
    simp [run]
  | succ d ih =>
    intro k j acc a hd hj hacc ha hb
    have hc : (j : Int) < (toR s).f1 := by show (j : Int) < s.f1; omega
    rw [← Nat.add_assoc, tidepoleref06_Places.l1, List.length_map, if_pos (by omega), if_pos (by omega), zU hi, hs, if_pos hc, if_pos (by omega), wrap_succ (by omega), eu (x := a + 1) (by omega) (by omega), ih k (j + 1) _ _ (by omega) (by omega) (by simp; omega) (by omega) (by omega)]
    congr 1
    · simp [run]
    · omega
set_option maxRecDepth 100000 in
theorem Fg (l : List Sp) (hm : l.length < 17592186044416) : ∀ (d k i : Nat) (acc : List Int) (f : Bool) (a n : Int), l.length - i = d → d * 5000 < k → i ≤ l.length → iU f a n (l.drop i) = true → n ≤ 4096 → -4611686018427387904 + d * 4194304 ≤ a → a + d * 4194304 ≤ 4611686018427387904 → acc.length + d * 4096 ≤ 8796093022208 →
    tidepoleref06_Places.l0 k (l.map toR) acc a (i : Int) = some (acc ++ uP a (l.drop i)) := by
  intro d
  induction d with
  | zero =>
    intro k i acc f a n hd hk hi hr hn ha hb hacc
    obtain ⟨k, rfl⟩ : ∃ m, k = m + 1 := ⟨k - 1, by omega⟩
    simp only [tidepoleref06_Places.l0, List.length_map]
    rw [if_neg (by omega), drop_end (by omega)]; simp [uP]
  | succ d ih =>
    intro k i acc f a n hd hk hi hr hn ha hb hacc
    have hlt : i < l.length := by omega
    rw [drop_at hlt] at hr ⊢
    simp only [iU, Bool.and_eq_true, decide_eq_true_eq] at hr
    obtain ⟨h1, h2, h3, h4, h5, h6, h7, h8⟩ := hr.1
    obtain ⟨k, rfl⟩ : ∃ m, k = m + (l[i].f1.toNat + 1) + 1 := ⟨k - (l[i].f1.toNat + 1) - 1, by omega⟩
    rw [tidepoleref06_Places.l0, List.length_map, if_pos (by omega), if_pos (by omega), zU hlt]
    have he : ((l[i].f1.toNat : Nat) : Int) = l[i].f1 := by omega
    have := JO l i hlt l[i] rfl ⟨h1, h2⟩ l[i].f1.toNat k 0 acc (a + l[i].f0) (by omega) (by omega) (by omega) (by omega) (by omega)
    rw [show (toR l[i]).f0 = l[i].f0 from rfl, eu (x := a + l[i].f0) (by omega) (by omega)]
    rw [show (0 : Int) = ((0 : Nat) : Int) from rfl, this, wrap_succ (by omega), he, ih k (i + 1) _ false _ (n + l[i].f1) (by omega) (by omega) (by omega) hr.2 (by omega) (by omega) (by omega) (by simp [Am]; omega)]
    simp [uP]
theorem JQ (l : List Sp) (h : fZ l = 0) (k : Nat) (hk : 5120000 < k) : tidepoleref06_Places.f k (l.map toR) = some (uP 0 l) := by
 have h0 := jW h
 unfold tidepoleref06_Places.f
 have := Fg l (by omega) l.length k 0 [] true 0 0 (by omega) (by omega) (by omega) h0.2 (by omega) (by omega) (by omega) (by simp; omega)
 simpa using this
theorem LD (l : List Sp) (i : Nat) (x0 x1 : Int) (hf : 0 ≤ x1 ∧ x1 ≤ 4096) (n0 : Int) (hn : 0 ≤ n0 ∧ n0 ≤ 4096) : ∀ (d k j : Nat) (a : Int), x1.toNat - j = d → j ≤ x1.toNat → -1048576 ≤ a → a ≤ 1048577 →
    tidepoleref06_Check.l1 (k + (d + 1)) (l.map toR) a (n0 + j) (i : Int) (j : Int) x0 x1 = if 0 < d ∧ a + d - 1 > 1048576 then some 20 else if n0 + x1 > 4096 then some 20 else tidepoleref06_Check.l0 k (l.map toR) (a + d) (n0 + x1) (wrap64 ((i : Int) + 1)) := by
  intro d
  induction d with
  | zero =>
    intro k j a hd hj ha hb
    have e : n0 + (j : Int) = n0 + x1 := by omega
    rw [tidepoleref06_Check.l1, if_neg (by omega), e]
    simp
  | succ d ih =>
    intro k j a hd hj ha hb
    rw [← Nat.add_assoc, tidepoleref06_Check.l1, if_pos (by omega)]
    by_cases c : a > 1048576
    · rw [if_pos c, if_pos (by omega)]
    · have e : wrap64 (n0 + (j : Int) + 1) = n0 + ((j + 1 : Nat) : Int) := by rw [eu (by omega) (by omega)]; omega
      have e2 : a + ((d + 1 : Nat) : Int) = a + 1 + (d : Int) := by omega
      rw [if_neg c, wrap_succ (by omega), eu (x := a + 1) (by omega) (by omega), e, ih k (j + 1) _ (by omega) (by omega) (by omega) (by omega), e2]
      by_cases c2 : a + 1 + (d : Int) - 1 > 1048576
      · rw [if_pos (show 0 < d + 1 ∧ a + 1 + (d : Int) - 1 > 1048576 from ⟨by omega, c2⟩)]
        by_cases c3 : 0 < d
        · rw [if_pos ⟨c3, c2⟩]
        · omega
      · rw [if_neg (show ¬ (0 < d ∧ a + 1 + (d : Int) - 1 > 1048576) from fun h => c2 h.2), if_neg (show ¬ (0 < d + 1 ∧ a + 1 + (d : Int) - 1 > 1048576) from fun h => c2 h.2)]
theorem LG (k d : Nat) (l : List Sp) (i : Nat) (a n x0 x1 : Int) (ha : -1048576 ≤ a ∧ a ≤ 1048577) (hn : 0 ≤ n ∧ n ≤ 4096) (h0 : -1048576 ≤ x0 ∧ x0 ≤ 2097152) (h1 : 0 ≤ x1 ∧ x1 ≤ 4096) (hd : d = x1.toNat) :
  tidepoleref06_Check.j1 (k + (d + 1) + 1 + 1) (l.map toR) a n (i : Int) false x0 x1 = if -1048576 ≤ a + x0 ∧ a + x0 ≤ 1048576 ∧ a + x0 + max (x1 - 1) 0 ≤ 1048576 ∧ n + x1 ≤ 4096 then tidepoleref06_Check.l0 k (l.map toR) (a + x0 + x1) (n + x1) (wrap64 ((i : Int) + 1)) else some 20 := by
 have e : ((x1.toNat : Nat) : Int) = x1 := by omega
 rw [tidepoleref06_Check.j1, if_neg (by decide), eu (x := a + x0) (by omega) (by omega)]
 by_cases c1 : a + x0 < -1048576
 ·rw [if_pos c1, if_neg (by omega), tidepoleref06_Check.j2, if_pos rfl]
 rw [if_neg c1, tidepoleref06_Check.j2]
 by_cases c2 : a + x0 > 1048576
 ·rw [if_pos (aiJ c2), if_neg (by omega)]
 rw [if_neg (by simp; omega)]
 have := LD l i x0 x1 h1 n hn d k 0 (a + x0) (by omega) (by omega) (by omega) (by omega)
 rw [show n + ((0 : Nat) : Int) = n by omega] at this
 rw [show (0 : Int) = ((0 : Nat) : Int) from rfl, this, hd, e]
 by_cases c3 : a + x0 + max (x1 - 1) 0 ≤ 1048576
 ·rw [if_neg (by omega)]
  by_cases c4 : n + x1 ≤ 4096
  ·rw [if_neg (by omega), if_pos ⟨by omega, by omega, by exact c3, c4⟩]
  ·rw [if_pos (by omega), if_neg (fun h => c4 h.2.2.2)]
 ·rw [if_pos (by omega), if_neg (fun h => c3 h.2.2.1)]
theorem Hu (l : List Sp) (hw : lK l) (hm : l.length ≤ 4611686018427387904) : ∀ (d k i : Nat) (a n : Int), l.length - i = d → 5000 * d < k → i ≤ l.length → -1048576 ≤ a ∧ a ≤ 1048577 → 0 ≤ n ∧ n ≤ 4096 → (i = 0 → a = 0) →
    tidepoleref06_Check.l0 k (l.map toR) a n (i : Int) = some (if iU (decide (i = 0)) a n (l.drop i) = true then 0 else 20) := by
  intro d
  induction d with
  | zero =>
    intro k i a n hd hk hi ha hn ha0
    obtain ⟨k, rfl⟩ : ∃ m, k = m + 1 := ⟨k - 1, by omega⟩
    rw [tidepoleref06_Check.l0, List.length_map, if_neg (by omega), drop_end (by omega)]; rfl
  | succ d ih =>
    intro k i a n hd hk hi ha hn ha0
    have hlt : i < l.length := by omega
    obtain ⟨k, rfl⟩ : ∃ m, k = m + 3 := ⟨k - 3, by omega⟩
    have hs := hw _ (List.getElem_mem hlt)
    rw [tidepoleref06_Check.l0, List.length_map, if_pos (by omega), if_pos (by omega), zU hlt, drop_at hlt]
    generalize l[i] = s at hs
    rw [show (toR s).f0 = s.f0 from rfl, show (toR s).f1 = s.f1 from rfl]
    have hbad : ¬ sD (decide (i = 0)) a n s → (some 20 : Option Int) = some (if iU (decide (i = 0)) a n (s :: l.drop (i + 1)) = true then 0 else 20) := fun h => by simp only [iU, aiK h, Bool.false_and]; rfl
    have hf : ∀ b, b = true → tidepoleref06_Check.j1 (k + 2) (l.map toR) a n (i : Int) b s.f0 s.f1 = some 20 := fun b hb => by subst hb; rw [tidepoleref06_Check.j1, if_pos rfl]
    have hgo : (-1048576 ≤ s.f0 ∧ s.f0 ≤ 2097152) → (0 ≤ s.f1 ∧ s.f1 ≤ 4096) → (if decide (i = 0) = true then -1048576 ≤ s.f0 else 0 ≤ s.f0) → tidepoleref06_Check.j1 (k + 2) (l.map toR) a n (i : Int) false s.f0 s.f1 = some (if iU (decide (i = 0)) a n (s :: l.drop (i + 1)) = true then 0 else 20) := by
      intro h0 h1 h2
      obtain ⟨q, hq⟩ : ∃ q, k = q + (s.f1.toNat + 1) := ⟨k - (s.f1.toNat + 1), by omega⟩
      rw [show k + 2 = q + (s.f1.toNat + 1) + 1 + 1 by omega, LG q _ l i a n s.f0 s.f1 ha hn h0 h1 rfl]
      by_cases c : -1048576 ≤ a + s.f0 ∧ a + s.f0 ≤ 1048576 ∧ a + s.f0 + max (s.f1 - 1) 0 ≤ 1048576 ∧ n + s.f1 ≤ 4096
      · rw [if_pos c, wrap_succ (by omega), ih q (i + 1) _ _ (by omega) (by omega) (by omega) (by omega) (by omega) (by omega)]
        have : sD (decide (i = 0)) a n s := ⟨h1.1, h1.2, h0.2, h2, c.1, c.2.1, c.2.2.1, c.2.2.2⟩
        simp only [iU, aiJ this, Bool.true_and]
        rfl
      · rw [if_neg c]; exact hbad (fun h => c ⟨h.2.2.2.2.1, h.2.2.2.2.2.1, h.2.2.2.2.2.2.1, h.2.2.2.2.2.2.2⟩)
    have hj : (s.f1 < 0 → (if s.f1 < 0 then tidepoleref06_Check.j1 (k + 2) (l.map toR) a n (i : Int) true s.f0 s.f1 else tidepoleref06_Check.j1 (k + 2) (l.map toR) a n (i : Int) (decide (s.f1 > 4096)) s.f0 s.f1) = some (if iU (decide (i = 0)) a n (s :: l.drop (i + 1)) = true then 0 else 20)) := by
      intro c; rw [if_pos c, hf _ rfl]; exact hbad (fun h => by have := h.1; omega)
    have hrest : (-1048576 ≤ s.f0 ∧ s.f0 ≤ 2097152) → (if decide (i = 0) = true then -1048576 ≤ s.f0 else 0 ≤ s.f0) → (if s.f1 < 0 then tidepoleref06_Check.j1 (k + 2) (l.map toR) a n (i : Int) true s.f0 s.f1 else tidepoleref06_Check.j1 (k + 2) (l.map toR) a n (i : Int) (decide (s.f1 > 4096)) s.f0 s.f1) = some (if iU (decide (i = 0)) a n (s :: l.drop (i + 1)) = true then 0 else 20) := by
      intro h0 h2
      by_cases c : s.f1 < 0
      · exact hj c
      rw [if_neg c]
      by_cases c3 : s.f1 > 4096
      · rw [hf _ (aiJ c3)]; exact hbad (fun h => by have := h.2.1; omega)
      · rw [aiK c3]; exact hgo h0 (by omega) h2
    by_cases c0 : s.f0 < -1048576
    · rw [if_pos c0, hf _ rfl]
      refine hbad (fun h => ?_)
      have h4 := h.2.2.2.1
      split at h4 <;> omega
    rw [if_neg c0]
    by_cases c1 : s.f0 > 2097152
    · rw [if_pos c1, hf _ rfl]; exact hbad (fun h => by have := h.2.2.1; omega)
    rw [if_neg c1]
    by_cases c5 : i = 0
    · subst c5
      rw [if_pos (by omega)]
      by_cases c6 : s.f0 > 1048576
      · rw [if_pos c6, hf _ rfl]
        have := ha0 rfl
        exact hbad (fun h => by have := h.2.2.2.2.2.1; omega)
      · rw [if_neg c6, if_neg (by omega)]
        exact hrest (by omega) (by simp; omega)
    · rw [if_neg (by omega), if_pos (by omega)]
      by_cases c4 : s.f0 < 0
      · rw [if_pos c4, hf _ rfl]; exact hbad (fun h => by have h4 := h.2.2.2.1; rw [if_neg (by simp [c5])] at h4; omega)
      · rw [if_neg c4]; exact hrest (by omega) (by rw [if_neg (by simp [c5])]; omega)
theorem LH (l : List Sp) (hw : lK l) (k : Nat) (hk : 5120000 < k) : tidepoleref06_Check.f k (l.map toR) = some (fZ l) := by
 unfold tidepoleref06_Check.f fZ
 rw [List.length_map]
 by_cases h : l.length > 1024
 ·rw [if_pos (by omega), if_pos h]
 ·rw [if_neg (by omega), if_neg h]
  have := Hu l hw (by omega) l.length k 0 0 0 (by omega) (by omega) (by omega) (by omega) (by omega) (fun _ => rfl)
  simpa using this
theorem uw {l : List Sp} (h : fZ l = 0) : rises (-1048576) (uP 0 l) = true := by
  have hr := (jW h).2
  have hrun : ∀ (m : Nat) (b e : Int), e ≤ b → (m = 0 ∨ b + m - 1 ≤ 1048576) → ∀ r, rises (b + m) r = true ∨ (m = 0 ∧ rises e r = true) → rises e (run b m ++ r) = true := by
    intro m
    induction m with
    | zero =>
      intro b e h1 h2 r h3
      rcases h3 with h3 | h3
      · simp only [run, List.nil_append]
        have hmono : ∀ (r : List Int) (e e' : Int), e ≤ e' → rises e' r = true → rises e r = true := by
          intro r
          cases r with
          | nil => intros; rfl
          | cons x r => intro e e' he h; simp only [rises, Bool.and_eq_true, decide_eq_true_eq] at h ⊢; exact ⟨⟨by omega, h.1.2⟩, h.2⟩
        exact hmono r e _ (by omega) h3
      · exact h3.2
    | succ m ih =>
      intro b e h1 h2 r h3
      simp only [run, List.cons_append, rises, Bool.and_eq_true, decide_eq_true_eq]
      refine ⟨⟨h1, by omega⟩, ih (b + 1) (b + 1) (Int.le_refl _) (by omega) r (Or.inl ?_)⟩
      rcases h3 with h3 | h3
      · rw [show b + 1 + (m : Int) = b + ((m + 1 : Nat) : Int) by omega]; exact h3
      · omega
  have : ∀ (l : List Sp) (f : Bool) (a n e : Int), iU f a n l = true → (if f = true then a = 0 ∧ e = -1048576 else e ≤ a) → rises e (uP a l) = true := by
    intro l
    induction l with
    | nil => intros; rfl
    | cons s l ih =>
      intro f a n e h he
      simp only [iU, Bool.and_eq_true, decide_eq_true_eq] at h
      obtain ⟨h1, h2, h3, h4, h5, h6, h7, h8⟩ := h.1
      have ee : ((s.f1.toNat : Nat) : Int) = s.f1 := by omega
      have hle : e ≤ a + s.f0 := by cases f <;> simp at he h4 <;> omega
      simp only [uP]
      refine hrun s.f1.toNat (a + s.f0) e hle (by omega) _ ?_
      rw [ee]
      exact Or.inl (ih false _ _ _ h.2 (by simp))
  exact this l true 0 0 _ hr (by simp)
theorem zV {l : List Int} (h : rises (-1048576) l = true) : ∀ x ∈ l, -1048576 ≤ x ∧ x ≤ 1048576 := by
  have : ∀ (l : List Int) (e : Int), -1048576 ≤ e → rises e l = true → ∀ x ∈ l, -1048576 ≤ x ∧ x ≤ 1048576 := by
    intro l
    induction l with
    | nil => intro e _ _ x hx; cases hx
    | cons y l ih =>
      intro e he h x hx
      simp only [rises, Bool.and_eq_true, decide_eq_true_eq] at h
      rcases List.mem_cons.1 hx with rfl | hx
      · omega
      · exact ih (y + 1) (by omega) h.2 x hx
  exact this l _ (Int.le_refl _) h
attribute [local go_sem] jh ji jR jS iI iJ jk jl
theorem X5 (d : Nat) (w : World) (x0 y0 : Int) (x1 y1 : Int) :
  (Op.equalIn (d + 2) 127 (.agg #[.int .i64 x0, .int .i64 x1]) (.agg #[.int .i64 y0, .int .i64 y1])).run Try.prog w = .ok (x0 == y0 && (x1 == y1)) w := by
 refine XF Try.underlying127 (by kernel_rfl) ?_
 refine Sm (by rfl) (by go_simp; rfl) (by go_simp; rfl) (by go_simp) ?_
 exact Sl (by rfl) (by go_simp; rfl) (by go_simp; rfl) (by go_simp)
end Go.Proofs.Ytooiccpmngmapaa.P
namespace Go.Proofs.Ytooiccpmngmapaa.P
open Go.RowKit Go.Proofs.YtooiccpmngmapaaW.PrintWords Go.Proofs.YtooiccpmngmapaaW.PrintLast Go.Proofs.YtooiccpmngmapaaW.PrintMore
attribute [local go_sem] jh ji jR jS iI iJ jk jl
def pairs_add.f (a0 : Int) (a1 : Int) : Option (Int × Bool) := some (wrap64 (a0 + a1), ((decide ((wrap64 (a0 + a1)) > a0)) == (decide (a1 > 0))))
set_option maxHeartbeats 8000000 in
set_option maxRecDepth 100000 in
theorem pairs_add.calls (a0 : Int) (a1 : Int) (r1 : Int) (r2 : Bool) (w : World) (h : pairs_add.f a0 a1 = some (r1, r2)) :
  Calls Try.prog 179 #[.int .i64 a0, .int .i64 a1] w fun e w' => e = .returned (.tuple #[.int .i64 r1, .bool r2]) ∧ bW w w' := by
 have H : (some (wrap64 (a0 + a1), ((decide ((wrap64 (a0 + a1)) > a0)) == (decide (a1 > 0))))) = some (r1, r2) := h
 clear h
 simp only [Option.some.injEq, Prod.mk.injEq] at H
 obtain ⟨rfl, rfl⟩ := H
 go_enter Try.func179, Try.ntmps179
 go_wp2
 go_ret2
 exact ⟨by first | rfl | (simp; done) | (simp [*]; done), by repeat (first | exact bW.refl _ | apply bW.step)⟩
def pairs_Absolute.l0 : Nat → List Int → Int → List Int → Int → Int → Option (List Int × Int)
 | 0, _, _, _, _, _ => none
 | k + 1, x4, x5, x9, x10, x11 => if x11 < x10 then (if 0 ≤ x11 then (if x11 < (x9.length : Int) then ((pairs_add.f x5 (rd x9 x11)).bind fun lX => (if lX.2 = true then (if x4.length < 17592186044416 then (pairs_Absolute.l0 k (x4 ++ [lX.1]) lX.1 x9 x10 (wrap64 (x11 + 1))) else (none)) else (some (([] : List Int), 28)))) else (none)) else (none)) else (some (x4, 0))
def pairs_Absolute.f (k : Nat) (l0 : List Int) : Option (List Int × Int) := pairs_Absolute.l0 k ([] : List Int) 0 l0 (l0.length : Int) 0
set_option maxHeartbeats 8000000 in
set_option maxRecDepth 100000 in
theorem pairs_Absolute.calls (k : Nat) (A0 : Option Addr) (c0 : Nat) (l0 : List Int) (r1 : List Int) (r2 : Int) (w : World) (hr0 : Kd.C (Kd.int .i64) w A0 l0.length l0) (hc0 : l0.length ≤ c0) (h : pairs_Absolute.f k l0 = some (r1, r2)) :
  Calls Try.prog 166 #[.slice A0 l0.length c0] w fun e w' => ∃ lY : Value, e = .returned (.tuple #[lY, .int .i64 r2]) ∧ Kd.R (Kd.int .i64) 2 w' w.heap.size (fun _ => True) lY r1 ∧ Below w.heap.size w w' := by
 have HR0 := ah hr0
 have tK := ah hc0
 clear hr0 hc0
 have HB := ah (Below.refl w.heap.size w)
 have H : (pairs_Absolute.l0 k ([] : List Int) 0 l0 (l0.length : Int) 0) = some (r1, r2) := h
 clear h
 have H' := ah H
 clear H
 go_enter Try.func166, Try.ntmps166
 go_wp2
 go_loopg [4, 5, 11] k (fun kq v4 v5 v11 w' => ∃ (dM : List Int) (bF : Int) (gU : Int), v5 = .int .i64 bF ∧ v11 = .int .i64 gU ∧ aj (pairs_Absolute.l0 kq dM bF l0 (l0.length : Int) gU = some (r1, r2)) ∧ aj (kq ≤ k) ∧ aj (Kd.R (Kd.int .i64) 2 w' w.heap.size (fun _ => True) v4 dM) ∧ aj (Below w.heap.size w w'))
 case atStart => exact ⟨(([] : List Int)), (0), (0), (by first | rfl | (simp; done) | (simp [*]; done)), (by first | rfl | (simp; done) | (simp [*]; done)), H', ⟨Nat.le_refl _⟩, ⟨by first | exact Kd.dY _ _ _ _ _ | exact Kd.gI _ _ _ _ _ | exact Kd.gJ _ _ _ _ _ | exact Kd.gB _ _ _ _ _ | exact Kd.gG _ _ _ _ _⟩, ⟨by repeat (first | (with_reducible first | exact HB.out | apply ak | apply au | apply aC) | exact HB.out)⟩⟩
 case round =>
  clear H'
  try clear c1
  obtain ⟨dM, bF, gU, rfl, rfl, HA, jf, HO_4, HB⟩ := hrel
  cases gk with
  | zero => exact absurd HA.out (by simp [pairs_Absolute.l0])
  | succ k1 =>
   have H := HA.out
   clear HA
   simp only [pairs_Absolute.l0] at H
   by_cases c2 : gU < (l0.length : Int)
   ·rw [if_pos c2] at H
    have c2b0 : decide (gU < (l0.length : Int)) = true := aiJ c2
    clear c2
    by_cases c3 : 0 ≤ gU
    ·rw [if_pos c3] at H
     have c3b0 : decide (0 ≤ gU) = true := aiJ c3
     clear c3
     by_cases c4 : gU < (l0.length : Int)
     ·rw [if_pos c4] at H
      have c4b0 : decide (gU < (l0.length : Int)) = true := aiJ c4
      clear c4
      replace H := Option.bind_eq_some_iff.mp H
      obtain ⟨⟨eP, eG⟩, JR, H⟩ := H
      replace H : (if eG = true then (if dM.length < 17592186044416 then (pairs_Absolute.l0 k1 (dM ++ [eP]) eP l0 (l0.length : Int) (wrap64 (gU + 1))) else (none)) else (some (([] : List Int), 28))) = some (r1, r2) := H
      have A5 := ah JR
      clear JR
      by_cases c6 : eG = true
      ·subst c6
       have H1 : (if dM.length < 17592186044416 then (pairs_Absolute.l0 k1 (dM ++ [eP]) eP l0 (l0.length : Int) (wrap64 (gU + 1))) else (none)) = some (r1, r2) := by rw [if_pos rfl] at H; exact H
       clear H
       have H := H1
       clear H1
       by_cases c7 : dM.length < 17592186044416
       ·rw [if_pos c7] at H
        have NK := ah c7
        clear c7
        obtain ⟨y104, hy104⟩ : ∃ y_ : List Int, y_ = (dM ++ [eP]) := ⟨_, rfl⟩
        replace H : (pairs_Absolute.l0 k1 y104 eP l0 (l0.length : Int) (wrap64 (gU + 1))) = some (r1, r2) := by first | (rw [hy104]; with_reducible exact H) | (have jm := (Option.bind_some _ _).symm.trans H; rw [hy104]; with_reducible exact jm) | (have jm := (Option.bind_some _ _).symm.trans H; with_reducible exact jm) | with_reducible exact H | (rw [hy104]; exact H) | exact H
        have LJ := ah hy104
        clear hy104
        have H' := ah H
        clear H
        have eX : 0 ≤ (gU : Int) := aiI (by assumption)
        have eY : gU < (l0.length : Int) := aiI (by assumption)
        obtain ⟨jU, jK, bP⟩ := Kd.fA HR0.out gU eX eY
        cases jK
        replace bP := (HB.out.cell (World.block_lt_of_cell? w _ bP)).trans bP
        replace eX := eq_true eX
        replace eY := eq_true eY
        go_wp2_with (first | ((with_reducible refine bH (f := 179) rfl ?_); refine eH (some 18) Try.func179 #[.int .i64 bF, .int .i64 (rd l0 gU)] ?_; (with_reducible refine (pairs_add.calls bF (rd l0 gU) eP true _ A5.out).mono ?_); rintro e w' ⟨rfl, ⟨nd, rfl⟩⟩; refine ⟨_, rfl, ?_⟩; clear A5) | ((with_reducible refine dZ (b := .append) (xs := #[.tmp 23, .tmp 25]) rfl ?_); at_builtin; refine Kd.iP (Kd.int .i64) (w0 := w) w.heap.size rfl (.tmp 23) (.tmp 25) 27 2 (.int .i64 0) 8 rfl Try.underlying27 DK rfl (by decide) (by omega) u4 dM eP [.int .i64 eP] (fun _ => True) (fun _ => False) rfl rfl ?aP (fun _ hk => hk.elim) ?aF ?aO ?aB ?aS ?aL ?_; (case aP => exact rfl); (case aB => exact (aX HB.out)); (case aF => exact (fun _ _ => trivial)); (case aO => exact (Kd.fB HO_4.out)); (case aS => exact (aI (aX HB.out))); (case aL => have := NK.out; omega); intro v105 w8 ho hb hg hat; rw [← LJ.out] at ho; have LK := ah (ho); replace HB := ah (hb); clear HO_4 ho hb hg hat))
        go_roundg k1
        case measure => have := jf.out; omega
        case rel => exact ⟨(y104), (eP), (wrap64 (gU + 1)), (by first | rfl | (simp; done) | (simp [*]; done)), (by first | rfl | (simp; done) | (simp [*]; done)), H', ⟨by have := jf.out; omega⟩, ⟨by (repeat with_reducible refine Kd.kJ ?_); exact LK.out⟩, ⟨by repeat (first | (with_reducible first | exact HB.out | apply ak | apply au | apply aC) | exact HB.out)⟩⟩
       rw [if_neg c7] at H
       exact absurd H (by simp)
      replace c6 := Bool.eq_false_iff.mpr c6
      subst c6
      have H1 : (some (([] : List Int), 28)) = some (r1, r2) := by rw [if_neg (show ¬ (false = true) by decide)] at H; exact H
      clear H
      have H := H1
      clear H1
      simp only [Option.some.injEq, Prod.mk.injEq] at H
      obtain ⟨rfl, rfl⟩ := H
      have eX : 0 ≤ (gU : Int) := aiI (by assumption)
      have eY : gU < (l0.length : Int) := aiI (by assumption)
      obtain ⟨jU, jK, bP⟩ := Kd.fA HR0.out gU eX eY
      cases jK
      replace bP := (HB.out.cell (World.block_lt_of_cell? w _ bP)).trans bP
      replace eX := eq_true eX
      replace eY := eq_true eY
      go_wp2_with (first | ((with_reducible refine bH (f := 179) rfl ?_); refine eH (some 18) Try.func179 #[.int .i64 bF, .int .i64 (rd l0 gU)] ?_; (with_reducible refine (pairs_add.calls bF (rd l0 gU) eP false _ A5.out).mono ?_); rintro e w' ⟨rfl, ⟨nd, rfl⟩⟩; refine ⟨_, rfl, ?_⟩; clear A5))
      go_ret2
      exact ⟨_, by first | rfl | (simp [aT, aU] <;> rfl) | (simp [*, aT, aU] <;> rfl), by first | exact Kd.dY _ _ _ _ _ | exact Kd.gI _ _ _ _ _ | exact Kd.gJ _ _ _ _ _ | exact Kd.gB _ _ _ _ _ | exact Kd.gG _ _ _ _ _, by repeat (first | (with_reducible first | exact HB.out | apply ak | apply au | apply aC) | exact HB.out)⟩
     rw [if_neg c4] at H
     exact absurd H (by simp)
    rw [if_neg c3] at H
    exact absurd H (by simp)
   rw [if_neg c2] at H
   have c2b0 : decide (gU < (l0.length : Int)) = false := aiK c2
   clear c2
   simp only [Option.some.injEq, Prod.mk.injEq] at H
   obtain ⟨rfl, rfl⟩ := H
   go_wp2
   go_ret2
   exact ⟨_, by first | rfl | (simp [aT, aU] <;> rfl) | (simp [*, aT, aU] <;> rfl), by (repeat with_reducible refine Kd.kJ ?_); exact HO_4.out, by repeat (first | (with_reducible first | exact HB.out | apply ak | apply au | apply aC) | exact HB.out)⟩
def pairs_Zip_int64.l0 : Nat → List Int → List (gy) → List Int → Int → Int → Option ((List (gy)) × Int)
 | 0, _, _, _, _, _ => none
 | k + 1, x1, x8, Vp, x27, x28 => if x28 < x27 then (if 0 ≤ x28 then (if x28 < (Vp.length : Int) then (if x28 < (x1.length : Int) then (if x8.length < 8796093022208 then (pairs_Zip_int64.l0 k x1 (x8 ++ [(⟨rd Vp x28, rd x1 x28⟩ : gy)]) Vp x27 (wrap64 (x28 + 1))) else (none)) else (none)) else (none)) else (none)) else (some (x8, 0))
def pairs_Zip_int64.f (k : Nat) (l0 : List (dP)) (l1 : List Int) : Option ((List (gy)) × Int) := (span_Places.f k l0).bind fun kY => (if kY.2 = 0 then (if (kY.1.length : Int) = (l1.length : Int) then (pairs_Zip_int64.l0 k l1 ([] : List (gy)) kY.1 (kY.1.length : Int) 0) else (some (([] : List (gy)), 10))) else (some (([] : List (gy)), kY.2)))
set_option maxHeartbeats 8000000 in
set_option maxRecDepth 100000 in
theorem pairs_Zip_int64.calls (k : Nat) (A0 : Option Addr) (c0 : Nat) (l0 : List (dP)) (A1 : Option Addr) (c1 : Nat) (l1 : List Int) (r1 : List (gy)) (r2 : Int) (w : World) (hr0 : Kd.C jE w A0 l0.length l0) (hc0 : l0.length ≤ c0) (hr1 : Kd.C (Kd.int .i64) w A1 l1.length l1) (hc1 : l1.length ≤ c1) (h : pairs_Zip_int64.f k l0 l1 = some (r1, r2)) :
  Calls Try.prog 169 #[.slice A0 l0.length c0, .slice A1 l1.length c1] w fun e w' => ∃ lY : Value, e = .returned (.tuple #[lY, .int .i64 r2]) ∧ Kd.R jI 173 w' w.heap.size (fun _ => True) lY r1 ∧ Below w.heap.size w w' := by
 have Tv := Try.underlying173
 have HR0 := ah hr0
 have tK := ah hc0
 clear hr0 hc0
 have HR1 := ah hr1
 have Fj := ah hc1
 clear hr1 hc1
 have HB := ah (Below.refl w.heap.size w)
 have H : ((span_Places.f k l0).bind fun kY => (if kY.2 = 0 then (if (kY.1.length : Int) = (l1.length : Int) then (pairs_Zip_int64.l0 k l1 ([] : List (gy)) kY.1 (kY.1.length : Int) 0) else (some (([] : List (gy)), 10))) else (some (([] : List (gy)), kY.2)))) = some (r1, r2) := h
 clear h
 replace H := Option.bind_eq_some_iff.mp H
 obtain ⟨⟨dV, eP⟩, IG, H⟩ := H
 replace H : (if eP = 0 then (if (dV.length : Int) = (l1.length : Int) then (pairs_Zip_int64.l0 k l1 ([] : List (gy)) dV (dV.length : Int) 0) else (some (([] : List (gy)), 10))) else (some (([] : List (gy)), eP))) = some (r1, r2) := H
 have A3 := ah IG
 clear IG
 by_cases c4 : eP = 0
 ·rw [if_pos c4] at H
  have c4b0 : (eP == 0) = true := beq_iff_eq.mpr c4
  have c4b1 : (eP != 0) = false := bne_eq_false_iff_eq.mpr c4
  clear c4
  by_cases c5 : (dV.length : Int) = (l1.length : Int)
  ·rw [if_pos c5] at H
   have c5b0 : ((dV.length : Int) == (l1.length : Int)) = true := beq_iff_eq.mpr c5
   have c5b1 : ((dV.length : Int) != (l1.length : Int)) = false := bne_eq_false_iff_eq.mpr c5
   have c5b2 : (dV.length == l1.length) = true := by first | simpa using c5 | (simp at c5 ⊢; omega)
   clear c5
   have H' := ah H
   clear H
   go_enter Try.func169, Try.ntmps169
   go_wp2_with (first | ((with_reducible refine bH (f := 181) rfl ?_); refine eH (some 13) Try.func181 #[.slice A0 l0.length c0] ?_; (with_reducible refine (span_Places.calls k _ _ l0 dV eP _ ?dw ?dA A3.out).mono ?_); (case dw => exact Kd.jT HR0.out); (case dA => exact tK.out); rintro e w6 ⟨yK, rfl, ho0, hb⟩; refine ⟨_, rfl, ?_⟩; have iq := ah (Kd.bV ho0 (aI (aX HB.out))); replace HB := ah (aW (aX HB.out) hb); (try clear hb); (try clear hb2); (try clear hk); (try clear hi); (try clear ho0); clear A3; obtain ⟨NR, KJ, VB⟩ := Kd.bY iq.out; subst VB))
   go_loopg [8, 28] k (fun kq v8 v28 w' => ∃ (bK : List (gy)) (iw : Int), v28 = .int .i64 iw ∧ aj (pairs_Zip_int64.l0 kq l1 bK dV (dV.length : Int) iw = some (r1, r2)) ∧ aj (kq ≤ k) ∧ aj (Kd.R jI 173 w' w.heap.size (fun _ => True) v8 bK) ∧ aj (Kd.R (Kd.int .i64) 3 w' w.heap.size (fun _ => True) (.slice NR dV.length KJ) dV) ∧ aj (Below w.heap.size w w'))
   case atStart => exact ⟨(([] : List (gy))), (0), (by first | rfl | (simp; done) | (simp [*]; done)), H', ⟨Nat.le_refl _⟩, ⟨by first | exact Kd.dY _ _ _ _ _ | exact Kd.gI _ _ _ _ _ | exact Kd.gJ _ _ _ _ _ | exact Kd.gB _ _ _ _ _ | exact Kd.gG _ _ _ _ _⟩, ⟨by (repeat with_reducible refine Kd.kJ ?_); exact iq.out⟩, ⟨by repeat (first | (with_reducible first | exact HB.out | apply ak | apply au | apply aC) | exact HB.out)⟩⟩
   case round =>
    clear H'
    try clear c1
    try clear p2
    try clear c4
    try clear c4b0
    try clear c4b1
    try clear c5
    try clear c5b0
    try clear c5b1
    try clear c5b2
    obtain ⟨bK, iw, rfl, HA, jf, HO_8, HO_26, HB⟩ := hrel
    cases gk with
    | zero => exact absurd HA.out (by simp [pairs_Zip_int64.l0])
    | succ k1 =>
     have H := HA.out
     clear HA
     simp only [pairs_Zip_int64.l0] at H
     by_cases c8 : iw < (dV.length : Int)
     ·rw [if_pos c8] at H
      have c8b0 : decide (iw < (dV.length : Int)) = true := aiJ c8
      clear c8
      by_cases c9 : 0 ≤ iw
      ·rw [if_pos c9] at H
       have c9b0 : decide (0 ≤ iw) = true := aiJ c9
       clear c9
       by_cases c10 : iw < (dV.length : Int)
       ·rw [if_pos c10] at H
        have c10b0 : decide (iw < (dV.length : Int)) = true := aiJ c10
        clear c10
        by_cases c11 : iw < (l1.length : Int)
        ·rw [if_pos c11] at H
         have c11b0 : decide (iw < (l1.length : Int)) = true := aiJ c11
         clear c11
         by_cases c12 : bK.length < 8796093022208
         ·rw [if_pos c12] at H
          have Tz := ah c12
          clear c12
          obtain ⟨Ej, nR⟩ : ∃ y_ : List (gy), y_ = (bK ++ [(⟨rd dV iw, rd l1 iw⟩ : gy)]) := ⟨_, rfl⟩
          replace H : (pairs_Zip_int64.l0 k1 l1 Ej dV (dV.length : Int) (wrap64 (iw + 1))) = some (r1, r2) := by first | (rw [nR]; with_reducible exact H) | (have jm := (Option.bind_some _ _).symm.trans H; rw [nR]; with_reducible exact jm) | (have jm := (Option.bind_some _ _).symm.trans H; with_reducible exact jm) | with_reducible exact H | (rw [nR]; exact H) | exact H
          have EZ := ah nR
          clear nR
          have H' := ah H
          clear H
          have pX : 0 ≤ (iw : Int) := aiI (by assumption)
          have pY : iw < (dV.length : Int) := aiI (by assumption)
          obtain ⟨DU, Aq, lS⟩ := Kd.fA (Kd.bD HO_26.out).2.2 iw pX pY
          cases Aq
          replace pX := eq_true pX
          replace pY := eq_true pY
          have xw : 0 ≤ (iw : Int) := aiI (by assumption)
          have xA : iw < (l1.length : Int) := aiI (by assumption)
          obtain ⟨Lc, Jz, qE⟩ := Kd.fA HR1.out iw xw xA
          cases Jz
          replace qE := (HB.out.cell (World.block_lt_of_cell? w _ qE)).trans qE
          replace xw := eq_true xw
          replace xA := eq_true xA
          go_wp2_with (first | ((with_reducible refine dZ (b := .append) (xs := #[.tmp 33, .tmp 40]) rfl ?_); at_builtin; refine Kd.iP jI (w0 := w) w.heap.size rfl (.tmp 33) (.tmp 40) 91 173 (.agg #[(.int .i64 0), (.int .i64 0)]) 16 rfl Try.underlying91 Bo rfl (by decide) (by omega) u8 bK (⟨rd dV iw, rd l1 iw⟩ : gy) [.int .i64 (rd dV iw), .int .i64 (rd l1 iw)] (fun _ => True) (fun _ => False) rfl rfl ?aP (fun _ hk => hk.elim) ?aF ?aO ?aB ?aS ?aL ?_; (case aP => exact mD _ _ _ (⟨rd dV iw, rd l1 iw⟩ : gy)); (case aB => exact (aX HB.out)); (case aF => exact (fun _ _ => trivial)); (case aO => exact (Kd.fB HO_8.out)); (case aS => exact (aI (aX HB.out))); (case aL => have := Tz.out; omega); intro TA QA ho hb hg hat; rw [← EZ.out] at ho; have gZ := ah (Kd.jM (Kd.fB HO_26.out) (Kd.je (Kd.fB HO_8.out)) (by decide) hg); have qX := ah (ho); replace HB := ah (hb); clear HO_8 HO_26; have HO_26 := gZ; clear gZ ho hb hg hat))
          go_roundg k1
          case measure => have := jf.out; omega
          case rel => exact ⟨(Ej), (wrap64 (iw + 1)), (by first | rfl | (simp; done) | (simp [*]; done)), H', ⟨by have := jf.out; omega⟩, ⟨by (repeat with_reducible refine Kd.kJ ?_); exact qX.out⟩, ⟨by (repeat with_reducible refine Kd.kJ ?_); exact HO_26.out⟩, ⟨by repeat (first | (with_reducible first | exact HB.out | apply ak | apply au | apply aC) | exact HB.out)⟩⟩
         rw [if_neg c12] at H
         exact absurd H (by simp)
        rw [if_neg c11] at H
        exact absurd H (by simp)
       rw [if_neg c10] at H
       exact absurd H (by simp)
      rw [if_neg c9] at H
      exact absurd H (by simp)
     rw [if_neg c8] at H
     have c8b0 : decide (iw < (dV.length : Int)) = false := aiK c8
     clear c8
     simp only [Option.some.injEq, Prod.mk.injEq] at H
     obtain ⟨rfl, rfl⟩ := H
     go_wp2
     go_ret2
     exact ⟨_, by first | rfl | (simp [aT, aU] <;> rfl) | (simp [*, aT, aU] <;> rfl), by (repeat with_reducible refine Kd.kJ ?_); exact HO_8.out, by repeat (first | (with_reducible first | exact HB.out | apply ak | apply au | apply aC) | exact HB.out)⟩
  rw [if_neg c5] at H
  have c5b0 : ((dV.length : Int) == (l1.length : Int)) = false := beq_eq_false_iff_ne.mpr c5
  have c5b1 : ((dV.length : Int) != (l1.length : Int)) = true := bne_iff_ne.mpr c5
  have c5b2 : (dV.length == l1.length) = false := by first | simpa using c5 | (simp at c5 ⊢; omega)
  simp only [Option.some.injEq, Prod.mk.injEq] at H
  obtain ⟨rfl, rfl⟩ := H
  go_enter Try.func169, Try.ntmps169
  go_wp2_with (first | ((with_reducible refine bH (f := 181) rfl ?_); refine eH (some 13) Try.func181 #[.slice A0 l0.length c0] ?_; (with_reducible refine (span_Places.calls k _ _ l0 dV eP _ ?dw ?dA A3.out).mono ?_); (case dw => exact Kd.jT HR0.out); (case dA => exact tK.out); rintro e w14 ⟨yK, rfl, ho0, hb⟩; refine ⟨_, rfl, ?_⟩; have iq := ah (Kd.bV ho0 (aI (aX HB.out))); replace HB := ah (aW (aX HB.out) hb); (try clear hb); (try clear hb2); (try clear hk); (try clear hi); (try clear ho0); clear A3; obtain ⟨NS, Le, Em⟩ := Kd.bY iq.out; subst Em))
  go_ret2
  exact ⟨_, by first | rfl | (simp [aT, aU] <;> rfl) | (simp [*, aT, aU] <;> rfl), by first | exact Kd.dY _ _ _ _ _ | exact Kd.gI _ _ _ _ _ | exact Kd.gJ _ _ _ _ _ | exact Kd.gB _ _ _ _ _ | exact Kd.gG _ _ _ _ _, by repeat (first | (with_reducible first | exact HB.out | apply ak | apply au | apply aC) | exact HB.out)⟩
 rw [if_neg c4] at H
 have c4b0 : (eP == 0) = false := beq_eq_false_iff_ne.mpr c4
 have c4b1 : (eP != 0) = true := bne_iff_ne.mpr c4
 simp only [Option.some.injEq, Prod.mk.injEq] at H
 obtain ⟨rfl, rfl⟩ := H
 go_enter Try.func169, Try.ntmps169
 go_wp2_with (first | ((with_reducible refine bH (f := 181) rfl ?_); refine eH (some 13) Try.func181 #[.slice A0 l0.length c0] ?_; (with_reducible refine (span_Places.calls k _ _ l0 dV eP _ ?dw ?dA A3.out).mono ?_); (case dw => exact Kd.jT HR0.out); (case dA => exact tK.out); rintro e w16 ⟨yK, rfl, ho0, hb⟩; refine ⟨_, rfl, ?_⟩; have iq := ah (Kd.bV ho0 (aI (aX HB.out))); replace HB := ah (aW (aX HB.out) hb); (try clear hb); (try clear hb2); (try clear hk); (try clear hi); (try clear ho0); clear A3))
 go_ret2
 exact ⟨_, by first | rfl | (simp [aT, aU] <;> rfl) | (simp [*, aT, aU] <;> rfl), by first | exact Kd.dY _ _ _ _ _ | exact Kd.gI _ _ _ _ _ | exact Kd.gJ _ _ _ _ _ | exact Kd.gB _ _ _ _ _ | exact Kd.gG _ _ _ _ _, by repeat (first | (with_reducible first | exact HB.out | apply ak | apply au | apply aC) | exact HB.out)⟩
def pairs_Unzip_int64.l0 : Nat → List Int → List Int → List (gy) → Int → Int → Option ((List (dP)) × List Int × Int)
 | 0, _, _, _, _, _ => none
 | k + 1, x5, x6, x11, x12, uy => if uy < x12 then (if 0 ≤ uy then (if uy < (x11.length : Int) then ((some (([(aZ x11 uy).f0] : List Int) : List Int)).bind fun gV => (if x5.length + gV.length < 17592186044416 then ((some (([(aZ x11 uy).f1] : List Int) : List Int)).bind fun mG => (if x6.length + mG.length < 17592186044416 then (pairs_Unzip_int64.l0 k (x5 ++ gV) (x6 ++ mG) x11 x12 (wrap64 (uy + 1))) else (none))) else (none))) else (none)) else (none)) else ((span_From.f k x5).bind fun Fp => (if Fp.2 = 0 then (some (Fp.1, x6, 0)) else (some (([] : List (dP)), ([] : List Int), Fp.2))))
def pairs_Unzip_int64.f (k : Nat) (l0 : List (gy)) : Option ((List (dP)) × List Int × Int) := pairs_Unzip_int64.l0 k ([] : List Int) ([] : List Int) l0 (l0.length : Int) 0
def pairs_Unzip_int64.T6 : Bool × List (List Nat × List Nat) := (true, [([], []), ([], []), ([1], [1]), ([2], [2]), ([0, 3], [0, 3]), ([], []), ([], []), ([6], [6]), ([7], [7]), ([5, 8, 4], [5, 8]), ([4, 9, 0, 1, 2, 3, 4], [0, 4]), ([9, 10, 0, 1, 2, 3, 4, 5, 6, 7, 8, 9, 10], [5, 9])])
def pairs_Unzip_int64.B6 : List Nat := [0, 0, 2, 6, 15, 0, 0, 64, 192, 511, 1023, 2047]
theorem pairs_Unzip_int64.tab6 : rZ .any (opsOf Try.f162 6) = pairs_Unzip_int64.T6 := by kernel_rfl
theorem pairs_Unzip_int64.TB : tJ pairs_Unzip_int64.T6.2 pairs_Unzip_int64.B6 = true := by kernel_rfl
set_option maxHeartbeats 8000000 in
set_option maxRecDepth 100000 in
theorem pairs_Unzip_int64.calls (k : Nat) (A0 : Option Addr) (c0 : Nat) (l0 : List (gy)) (r1 : List (dP)) (r2 : List Int) (r3 : Int) (w : World) (hr0 : Kd.C jI w A0 l0.length l0) (hc0 : l0.length ≤ c0) (h : pairs_Unzip_int64.f k l0 = some (r1, r2, r3)) :
  Calls Try.prog 162 #[.slice A0 l0.length c0] w fun e w' => ∃ lY KL : Value, e = .returned (.tuple #[lY, KL, .int .i64 r3]) ∧ Kd.R jE 113 w' w.heap.size (fun _ => True) lY r1 ∧ Kd.R (Kd.int .i64) 2 w' w.heap.size (fun _ => True) KL r2 ∧ Below w.heap.size w w' := by
 have Tv := Try.underlying173
 have HR0 := ah hr0
 have tK := ah hc0
 clear hr0 hc0
 have HB := ah (Below.refl w.heap.size w)
 have H : (pairs_Unzip_int64.l0 k ([] : List Int) ([] : List Int) l0 (l0.length : Int) 0) = some (r1, r2, r3) := h
 clear h
 have H' := ah H
 clear H
 go_enter Try.func162, Try.ntmps162
 go_wp2
 go_loopg [5, 6, 13] k (fun kq v5 v6 v13 w' => ∃ (bF : List Int) (fH : List Int) (bI : Int), v13 = .int .i64 bI ∧ aj (pairs_Unzip_int64.l0 kq bF fH l0 (l0.length : Int) bI = some (r1, r2, r3)) ∧ aj (kq ≤ k) ∧ aj (Kd.R (Kd.int .i64) 3 w' w.heap.size (fun _ => True) v5 bF) ∧ aj (Kd.R (Kd.int .i64) 2 w' w.heap.size (fun _ => True) v6 fH) ∧ aj (Below w.heap.size w w'))
 case atStart => exact ⟨(([] : List Int)), (([] : List Int)), (0), (by first | rfl | (simp; done) | (simp [*]; done)), H', ⟨Nat.le_refl _⟩, ⟨by first | exact Kd.dY _ _ _ _ _ | exact Kd.gI _ _ _ _ _ | exact Kd.gJ _ _ _ _ _ | exact Kd.gB _ _ _ _ _ | exact Kd.gG _ _ _ _ _⟩, ⟨by first | exact Kd.dY _ _ _ _ _ | exact Kd.gI _ _ _ _ _ | exact Kd.gJ _ _ _ _ _ | exact Kd.gB _ _ _ _ _ | exact Kd.gG _ _ _ _ _⟩, ⟨by repeat (first | (with_reducible first | exact HB.out | apply ak | apply au | apply aC) | exact HB.out)⟩⟩
 case round =>
  clear H'
  try clear c1
  obtain ⟨bF, fH, bI, rfl, HA, jf, HO_5, HO_6, HB⟩ := hrel
  cases gk with
  | zero => exact absurd HA.out (by simp [pairs_Unzip_int64.l0])
  | succ k1 =>
   have H := HA.out
   clear HA
   simp only [pairs_Unzip_int64.l0] at H
   by_cases c2 : bI < (l0.length : Int)
   ·rw [if_pos c2] at H
    have c2b0 : decide (bI < (l0.length : Int)) = true := aiJ c2
    clear c2
    by_cases c3 : 0 ≤ bI
    ·rw [if_pos c3] at H
     have c3b0 : decide (0 ≤ bI) = true := aiJ c3
     clear c3
     by_cases c4 : bI < (l0.length : Int)
     ·rw [if_pos c4] at H
      have c4b0 : decide (bI < (l0.length : Int)) = true := aiJ c4
      clear c4
      obtain ⟨gV, kM⟩ : ∃ y_ : List Int, y_ = (([(aZ l0 bI).f0] : List Int)) := ⟨_, rfl⟩
      replace H : (if bF.length + gV.length < 17592186044416 then ((some (([(aZ l0 bI).f1] : List Int) : List Int)).bind fun mG => (if fH.length + mG.length < 17592186044416 then (pairs_Unzip_int64.l0 k1 (bF ++ gV) (fH ++ mG) l0 (l0.length : Int) (wrap64 (bI + 1))) else (none))) else (none)) = some (r1, r2, r3) := by first | (rw [kM]; with_reducible exact H) | (have jm := (Option.bind_some _ _).symm.trans H; rw [kM]; with_reducible exact jm) | (have jm := (Option.bind_some _ _).symm.trans H; with_reducible exact jm) | with_reducible exact H | (rw [kM]; exact H) | exact H
      have su := ah kM
      clear kM
      by_cases c5 : bF.length + gV.length < 17592186044416
      ·rw [if_pos c5] at H
       have Fq := ah c5
       clear c5
       obtain ⟨yL, sF⟩ : ∃ y_ : List Int, y_ = (bF ++ gV) := ⟨_, rfl⟩
       replace H : ((some (([(aZ l0 bI).f1] : List Int) : List Int)).bind fun mG => (if fH.length + mG.length < 17592186044416 then (pairs_Unzip_int64.l0 k1 yL (fH ++ mG) l0 (l0.length : Int) (wrap64 (bI + 1))) else (none))) = some (r1, r2, r3) := by first | (rw [sF]; with_reducible exact H) | (have jm := (Option.bind_some _ _).symm.trans H; rw [sF]; with_reducible exact jm) | (have jm := (Option.bind_some _ _).symm.trans H; with_reducible exact jm) | with_reducible exact H | (rw [sF]; exact H) | exact H
       have BN := ah sF
       clear sF
       obtain ⟨mG, nX⟩ : ∃ y_ : List Int, y_ = (([(aZ l0 bI).f1] : List Int)) := ⟨_, rfl⟩
       replace H : (if fH.length + mG.length < 17592186044416 then (pairs_Unzip_int64.l0 k1 yL (fH ++ mG) l0 (l0.length : Int) (wrap64 (bI + 1))) else (none)) = some (r1, r2, r3) := by first | (rw [nX]; with_reducible exact H) | (have jm := (Option.bind_some _ _).symm.trans H; rw [nX]; with_reducible exact jm) | (have jm := (Option.bind_some _ _).symm.trans H; with_reducible exact jm) | with_reducible exact H | (rw [nX]; exact H) | exact H
       have pz := ah nX
       clear nX
       by_cases c6 : fH.length + mG.length < 17592186044416
       ·rw [if_pos c6] at H
        have TD := ah c6
        clear c6
        obtain ⟨y112, hy112⟩ : ∃ y_ : List Int, y_ = (fH ++ mG) := ⟨_, rfl⟩
        replace H : (pairs_Unzip_int64.l0 k1 yL y112 l0 (l0.length : Int) (wrap64 (bI + 1))) = some (r1, r2, r3) := by first | (rw [hy112]; with_reducible exact H) | (have jm := (Option.bind_some _ _).symm.trans H; rw [hy112]; with_reducible exact jm) | (have jm := (Option.bind_some _ _).symm.trans H; with_reducible exact jm) | with_reducible exact H | (rw [hy112]; exact H) | exact H
        have Lh := ah hy112
        clear hy112
        have H' := ah H
        clear H
        have eX : 0 ≤ (bI : Int) := aiI (by assumption)
        have eY : bI < (l0.length : Int) := aiI (by assumption)
        obtain ⟨jU, jK, bP, dS⟩ := qA HR0.out bI eX eY
        cases jK
        replace bP := (HB.out.cell (World.block_lt_of_cell? w _ bP)).trans bP
        replace dS := (HB.out.cell (World.block_lt_of_cell? w _ dS)).trans dS
        replace eX := eq_true eX
        replace eY := eq_true eY
        try go_wp2_with (first | ((with_reducible refine fJ (N := 8) rfl ?_); refine eU ?hg (N := 8) ?hd (cs := #[.int .i64 0, .int .i64 0]) (t := 173) ?hr ?_; (case hd => rfl); (case hg => rfl); (case hr => first | (go_simp; done) | (go_simp; rfl)); intro aJ hg w7 hbox hb; have aN := ah (hbox); have oM := ah ((by rw [hg]; exact (aI (aX HB.out)) : w.heap.size ≤ aJ)); have bT := ah ((by rw [hg]; exact (aI (aX HB.out)) : w.heap.size ≤ aJ)); replace HO_5 := ah (Kd.kE HO_5.out hb); replace HO_6 := ah (Kd.kE HO_6.out hb); replace HB := ah (aW (aX HB.out) hb); clear hb hbox hg; have TF := ay aN.out; have TG := aG aN.out; obtain ⟨LM, KO, VD⟩ := Kd.bY HO_5.out; subst VD; obtain ⟨tX, tY, LP⟩ := Kd.bY HO_6.out; subst LP))
        have gZ : aj (Kd.R (Kd.int .i64) 3 ((w7.setCell ⟨aJ, 0, none⟩ (.int .i64 ((aZ l0 bI).f0))).setCell ⟨aJ, 1, none⟩ (.int .i64 ((aZ l0 bI).f1))) w.heap.size (fun _ => True) (.slice LM bF.length KO) bF) := ⟨by (repeat with_reducible refine Kd.kJ ?_); exact Kd.cu (Kd.cZ (p := ⟨aJ, 1, none⟩) (Kd.cZ (p := ⟨aJ, 0, none⟩) (Kd.gY HO_5.out aN.out (by decide)) (fun _ hk => hk.2) (.int .i64 ((aZ l0 bI).f0))) (fun _ hk => hk.2) (.int .i64 ((aZ l0 bI).f1))) (fun _ hk => trivial)⟩
        have iL : aj (Kd.R (Kd.int .i64) 2 ((w7.setCell ⟨aJ, 0, none⟩ (.int .i64 ((aZ l0 bI).f0))).setCell ⟨aJ, 1, none⟩ (.int .i64 ((aZ l0 bI).f1))) w.heap.size (fun _ => True) (.slice tX fH.length tY) fH) := ⟨by (repeat with_reducible refine Kd.kJ ?_); exact Kd.cu (Kd.cZ (p := ⟨aJ, 1, none⟩) (Kd.cZ (p := ⟨aJ, 0, none⟩) (Kd.gY HO_6.out aN.out (by decide)) (fun _ hk => hk.2) (.int .i64 ((aZ l0 bI).f0))) (fun _ hk => hk.2) (.int .i64 ((aZ l0 bI).f1))) (fun _ hk => trivial)⟩
        have jC : aj (((w7.setCell ⟨aJ, 0, none⟩ (.int .i64 ((aZ l0 bI).f0))).setCell ⟨aJ, 1, none⟩ (.int .i64 ((aZ l0 bI).f1))).heap[aJ]? = some (.cells #[.int .i64 ((aZ l0 bI).f0), .int .i64 ((aZ l0 bI).f1)] 173 (0, 0))) := ⟨by (repeat with_reducible refine bQ ?_); refine bC (cs := #[.int .i64 ((aZ l0 bI).f0), .int .i64 0]) ?_ 1 _ rfl; (repeat with_reducible refine bQ ?_); refine bC (cs := #[.int .i64 0, .int .i64 0]) ?_ 0 _ rfl; (repeat with_reducible refine bQ ?_); exact aN.out⟩
        have jZ : aj (Below w.heap.size w ((w7.setCell ⟨aJ, 0, none⟩ (.int .i64 ((aZ l0 bI).f0))).setCell ⟨aJ, 1, none⟩ (.int .i64 ((aZ l0 bI).f1)))) := ⟨by repeat (first | (with_reducible first | exact HB.out | apply ak | apply au | apply aC | refine aA ?_ bT.out) | exact HB.out)⟩
        (try clear HO_5)
        (try clear HO_6)
        (try clear aN)
        (try clear HB)
        generalize ((w7.setCell ⟨aJ, 0, none⟩ (.int .i64 ((aZ l0 bI).f0))).setCell ⟨aJ, 1, none⟩ (.int .i64 ((aZ l0 bI).f1))) = VE at gZ iL jC jZ ⊢
        have HO_5 := gZ
        have HO_6 := iL
        have aN := jC
        have HB := jZ
        clear gZ iL jC jZ
        have gZ := ah (Kd.yF HO_5.out)
        have iL := ah (Kd.yF HO_6.out)
        have jC := ah (rY aN.out)
        have jZ := ah (aC HB.out)
        clear HO_5
        clear HO_6
        clear aN
        clear HB
        have HO_5 := gZ
        have HO_6 := iL
        have aN := jC
        have HB := jZ
        clear gZ iL jC jZ
        refine Dj (n := 12) (S := fun w' => w'.cell? ⟨aJ, 0, none⟩ = some (.int .i64 ((aZ l0 bI).f0)) ∧ w'.cell? ⟨aJ, 1, none⟩ = some (.int .i64 ((aZ l0 bI).f1))) (ds := []) #[false, false, false, false, false, false, false, false, false, false, false, false] (by kernel_rfl) rfl rfl ⟨(ay aN.out 0).trans rfl, (ay aN.out 1).trans rfl⟩ (fun hHeld => ?_); refine uf pairs_Unzip_int64.tab6 pairs_Unzip_int64.TB (fun HT_ HW_ => ?_)
        generalize VE.drew = w12 at HO_5 HO_6 aN HB hHeld ⊢
        refine iH (i := 0) (N := some 17) (v := ?_) (a' := ?_) #[true, false, false, false, false, false, false, false, false, false, false, false] rfl rfl (gu HT_.out (by kernel_rfl)) (fun _ _ _ h => h) (Or.inl ⟨by rfl, ?_⟩) ?_ ?_
        rotate_left
        ·intro w'
         go_simp
         with_reducible rfl
        rotate_left
        ·simp only [Act.put, List.setIfInBounds_toArray, List.set_cons_zero, List.set_cons_succ, dh, dF]
         rfl
        refine iH (i := 1) (N := some 18) (v := ?_) (a' := ?_) #[true, true, false, false, false, false, false, false, false, false, false, false] rfl rfl (gu HT_.out (by kernel_rfl)) (fun _ _ _ h => h) (Or.inl ⟨by rfl, ?_⟩) ?_ ?_
        rotate_left
        ·intro w'
         go_simp
         with_reducible rfl
        rotate_left
        ·simp only [Act.put, List.setIfInBounds_toArray, List.set_cons_zero, List.set_cons_succ, dh, dF]
         rfl
        refine iH (i := 5) (N := some 22) (v := ?_) (a' := ?_) #[true, true, false, false, false, true, false, false, false, false, false, false] rfl rfl (gu HT_.out (by kernel_rfl)) (fun _ _ _ h => h) (Or.inl ⟨by rfl, ?_⟩) ?_ ?_
        rotate_left
        ·intro w'
         go_simp
         with_reducible rfl
        rotate_left
        ·simp only [Act.put, List.setIfInBounds_toArray, List.set_cons_zero, List.set_cons_succ, dh, dF]
         rfl
        refine iH (i := 6) (N := some 23) (v := ?_) (a' := ?_) #[true, true, false, false, false, true, true, false, false, false, false, false] rfl rfl (gu HT_.out (by kernel_rfl)) (fun _ _ _ h => h) (Or.inl ⟨by rfl, ?_⟩) ?_ ?_
        rotate_left
        ·intro w'
         go_simp
         with_reducible rfl
        rotate_left
        ·simp only [Act.put, List.setIfInBounds_toArray, List.set_cons_zero, List.set_cons_succ, dh, dF]
         rfl
        refine mP (i := 2) (N := some 19) (v := ?_) (a' := ?_) #[true, true, true, false, false, true, true, false, false, false, false, false] rfl rfl (iQ HT_.out HW_.out (by kernel_rfl)) (fun _ _ _ h => h) (Or.inl ⟨by rfl, ?_⟩) hHeld ?_ ?_
        rotate_left
        ·rintro w' ⟨s0, s1⟩
         go_simp
         with_reducible rfl
        rotate_left
        ·simp only [Act.put, List.setIfInBounds_toArray, List.set_cons_zero, List.set_cons_succ, dh, dF]
         rfl
        refine mP (i := 7) (N := some 24) (v := ?_) (a' := ?_) #[true, true, true, false, false, true, true, true, false, false, false, false] rfl rfl (iQ HT_.out HW_.out (by kernel_rfl)) (fun _ _ _ h => h) (Or.inl ⟨by rfl, ?_⟩) hHeld ?_ ?_
        rotate_left
        ·rintro w' ⟨s0, s1⟩
         go_simp
         with_reducible rfl
        rotate_left
        ·simp only [Act.put, List.setIfInBounds_toArray, List.set_cons_zero, List.set_cons_succ, dh, dF]
         rfl
        refine WO (σ := Value × Value × Value) 3 #[true, true, true, true, true, true, true, true, true, false, false, false] (fun s_ => [(20, s_.1), (21, s_.2.1), (25, s_.2.2)]) (fun s_ w' => (w'.cell? ⟨aJ, 0, none⟩ = some (.int .i64 ((aZ l0 bI).f0)) ∧ w'.cell? ⟨aJ, 1, none⟩ = some (.int .i64 ((aZ l0 bI).f1))) ∧ (Kd.R (Kd.int .i64) 3 w' w.heap.size (fun k_ => some k_ ≠ (s_.2.1 : Value).ownBlock) s_.1 gV) ∧ (Kd.R (Kd.int .i64) 3 w' w.heap.size (fun k_ => some k_ ≠ (s_.1 : Value).ownBlock) s_.2.1 yL) ∧ (Kd.R (Kd.int .i64) 2 w' w.heap.size (fun k_ => some k_ ≠ (.slice tX fH.length tY : Value).ownBlock) s_.2.2 mG) ∧ (Kd.R (Kd.int .i64) 2 w' w.heap.size (fun k_ => some k_ ≠ (s_.2.2 : Value).ownBlock) (.slice tX fH.length tY) fH) ∧ (w'.heap[aJ]? = some (.cells #[.int .i64 ((aZ l0 bI).f0), .int .i64 ((aZ l0 bI).f1)] 173 (0, 0))) ∧ (Below w.heap.size w w')) ?_ ?_
        rotate_left
        ·intro hCont
         refine U6 (i := 3) (j := 8) (Ni := some 20) (Nj := some 25) #[true, true, true, true, false, true, true, true, false, false, false, false] #[true, true, true, false, false, true, true, true, true, false, false, false] rfl rfl rfl rfl (Jr HT_.out (by kernel_rfl)) (by decide) (by decide) (fun K hK => ?_) (fun K hK => ?_)
         ·skip
          refine Kd.lU (Kd.int .i64) _ 3 ?hg (N := 20) ?hd (xs := ([(aZ l0 bI).f0] : List Int)) (inner := [.int .i64 ((aZ l0 bI).f0)]) (ok := fun _ => True) (okp := fun _ => True) ?hr ?hp (fun _ hk => hk) trivial (Below.refl _ _) (Nat.le_refl _) (by simp) ?_; (case hd => rfl); (case hg => rfl); (case hr => first | (go_simp; done) | (go_simp; rfl)); (case hp => exact (jA.one (show Kd.M (Kd.int .i64) _ _ _ ((aZ l0 bI).f0) [.int .i64 ((aZ l0 bI).f0)] from rfl) (jA.none _ _)))
          intro yJ QA rG hb hg_ hnew_
          clear hg_ hnew_
          (first | rw [← su.out] at rG | (simp only [Int.reduceToNat] at rG; rw [← su.out] at rG))
          have gZ := ah (Kd.dW (Kd.fB HO_5.out) (Kd.fP rG) hb)
          have iL := ah (Kd.kE HO_6.out hb)
          have jC := ah (Kd.bV (Kd.gq rG (Kd.jH (Kd.fB HO_5.out))) (aI (by repeat (first | (with_reducible first | exact HB.out | refine bJ ?_ | refine aA ?_ bT.out) | exact HB.out))))
          have jZ := ah (dX aN.out hb)
          have mQ := ah (aW (by repeat (first | (with_reducible first | exact HB.out | refine bJ ?_ | refine aA ?_ bT.out) | exact HB.out)) hb)
          clear HO_5
          clear HO_6
          clear aN
          clear HB
          have HO_5 := gZ
          have HO_6 := iL
          have eF := jC
          have aN := jZ
          have HB := mQ
          clear gZ iL jC jZ mQ
          clear hb rG
          obtain ⟨Hw, Fv, Fz⟩ := Kd.bY eF.out
          (first | subst Fz | (injection Fz with sG yM sH; have yN := sG.symm; have yO := sH.symm; clear sG yM sH; subst yN; subst yO))
          refine hK.out _ _ ⟨(ay aN.out 0).trans rfl, (ay aN.out 1).trans rfl⟩ (fun hHeld => ?_)
          clear hK K
          refine kC (a' := ?_) ?_ ?_
          rotate_left
          ·show Act.put _ (some 20) _ = _
           simp only [Act.put, List.setIfInBounds_toArray, List.set_cons_zero, List.set_cons_succ, dh, dF]
           rfl
          refine U6 (i := 4) (j := 8) (Ni := some 21) (Nj := some 25) #[true, true, true, true, true, true, true, true, false, false, false, false] #[true, true, true, true, false, true, true, true, true, false, false, false] rfl rfl rfl rfl (Jr HT_.out (by kernel_rfl)) (by decide) (by decide) (fun K hK => ?_) (fun K hK => ?_)
          ·skip
           refine Kd.jg (Kd.int .i64) (w0 := w) w.heap.size (by rfl) (.tmp 17) (.tmp 20) 30 3 (.int .i64 0) 8 rfl Try.underlying30 info3 rfl (by decide) (by omega) (.slice LM bF.length KO) bF gV _ _ _ (fun k_ => some k_ ≠ (.slice Hw gV.length Fv : Value).ownBlock) (fun _ => False) rfl rfl ?aO ?aR (fun _ _ h => h) (fun _ h => h.elim) ?aF ?aB ?aS ?aL ?_
           (case aR => exact Kd.jT (Kd.bD eF.out).2.2)
           (case aB => exact (by repeat (first | (with_reducible first | exact HB.out | refine bJ ?_ | refine aA ?_ bT.out) | exact HB.out)))
           (case aF => exact (fun k_ hk => Kd.fresh' (Kd.jH (Kd.fB eF.out)) k_ hk))
           (case aO => exact (Kd.fB (Kd.cu HO_5.out (fun _ hk => hk.2))))
           (case aS => exact (aI (by repeat (first | (with_reducible first | exact HB.out | refine bJ ?_ | refine aA ?_ bT.out) | exact HB.out))))
           (case aL => have := Fq.out; omega)
           intro v107 X6 ho hb hg hat
           rw [← BN.out] at ho
           have gZ := ah (Kd.jM (Kd.fB HO_6.out) (Kd.je (Kd.fB HO_5.out)) (by decide) hg)
           have iL := ah (iZ (g := aJ) (o := .cells #[.int .i64 ((aZ l0 bI).f0), .int .i64 ((aZ l0 bI).f1)] 173 (0, 0)) (jP aN.out) hg (Kd.Dh HO_5.out aN.out (by decide)))
           have jC := ah (Kd.qp (ok := (fun _ => True)) (Kd.fB eF.out) hg hat)
           have jZ := ah (hb)
           have mQ := ah (ho)
           clear HO_6
           clear aN
           clear eF
           clear HB
           clear HO_5
           have HO_6 := gZ
           have aN := iL
           have eF := jC
           have HB := jZ
           have fK := mQ
           clear gZ iL jC jZ mQ
           clear ho hb hg hat
           refine hK.out _ _ ⟨(ay aN.out 0).trans rfl, (ay aN.out 1).trans rfl⟩ (fun hHeld => ?_)
           clear hK K
           refine kC (a' := ?_) ?_ ?_
           rotate_left
           ·show Act.put _ (some 21) _ = _
            simp only [Act.put, List.setIfInBounds_toArray, List.set_cons_zero, List.set_cons_succ, dh, dF]
            rfl
           refine tH (i := 8) (N := some 25) #[true, true, true, true, true, true, true, true, true, false, false, false] rfl rfl (kZ HT_.out (by kernel_rfl)) (by decide) (fun K hK => ?_)
           refine Kd.lU (Kd.int .i64) _ 2 ?hg (N := 25) ?hd (xs := ([(aZ l0 bI).f1] : List Int)) (inner := [.int .i64 ((aZ l0 bI).f1)]) (ok := fun _ => True) (okp := fun _ => True) ?hr ?hp (fun _ hk => hk) trivial (Below.refl _ _) (Nat.le_refl _) (by simp) ?_; (case hd => rfl); (case hg => rfl); (case hr => first | (go_simp; done) | (go_simp; rfl)); (case hp => exact (jA.one (show Kd.M (Kd.int .i64) _ _ _ ((aZ l0 bI).f1) [.int .i64 ((aZ l0 bI).f1)] from rfl) (jA.none _ _)))
           intro sJ Xf Du hb hg_ hnew_
           clear hg_ hnew_
           (first | rw [← pz.out] at Du | (simp only [Int.reduceToNat] at Du; rw [← pz.out] at Du))
           have gZ := ah (Kd.dW (Kd.fB HO_6.out) (Kd.fP Du) hb)
           have iL := ah (Kd.kE eF.out hb)
           have jC := ah (Kd.kE fK.out hb)
           have jZ := ah (Kd.bV (Kd.gq Du (Kd.jH (Kd.fB HO_6.out))) (aI (by repeat (first | (with_reducible first | exact HB.out | refine bJ ?_ | refine aA ?_ bT.out) | exact HB.out))))
           have mQ := ah (dX aN.out hb)
           have qY := ah (aW (by repeat (first | (with_reducible first | exact HB.out | refine bJ ?_ | refine aA ?_ bT.out) | exact HB.out)) hb)
           clear HO_6
           clear eF
           clear fK
           clear aN
           clear HB
           have HO_6 := gZ
           have eF := iL
           have fK := jC
           have gX := jZ
           have aN := mQ
           have HB := qY
           clear gZ iL jC jZ mQ qY
           clear hb Du
           refine hK.out _ _ ⟨(ay aN.out 0).trans rfl, (ay aN.out 1).trans rfl⟩ (fun hHeld => ?_)
           clear hK K
           refine kC (a' := ?_) ?_ ?_
           rotate_left
           ·show Act.put _ (some 25) _ = _
            simp only [Act.put, List.setIfInBounds_toArray, List.set_cons_zero, List.set_cons_succ, dh, dF]
            rfl
           exact kC (by simp only [uh, Act.put, List.setIfInBounds_toArray, List.set_cons_zero, List.set_cons_succ]) (hCont (.slice Hw gV.length Fv, v107, sJ) _ ⟨hHeld, (Kd.fB (Kd.cu eF.out (fun _ hk => hk.2))), (Kd.fB fK.out), (Kd.fB (Kd.cu gX.out (fun _ hk => hk.2))), (Kd.fB (Kd.cu HO_6.out (fun _ hk => hk.2))), (jP aN.out), (by repeat (first | (with_reducible first | exact HB.out | refine bJ ?_ | refine aA ?_ bT.out) | exact HB.out))⟩)
          skip
          refine Kd.lU (Kd.int .i64) _ 2 ?hg (N := 25) ?hd (xs := ([(aZ l0 bI).f1] : List Int)) (inner := [.int .i64 ((aZ l0 bI).f1)]) (ok := fun _ => True) (okp := fun _ => True) ?hr ?hp (fun _ hk => hk) trivial (Below.refl _ _) (Nat.le_refl _) (by simp) ?_; (case hd => rfl); (case hg => rfl); (case hr => first | (go_simp; done) | (go_simp; rfl)); (case hp => exact (jA.one (show Kd.M (Kd.int .i64) _ _ _ ((aZ l0 bI).f1) [.int .i64 ((aZ l0 bI).f1)] from rfl) (jA.none _ _)))
          intro sJ X6 rH hb hg_ hnew_
          clear hg_ hnew_
          (first | rw [← pz.out] at rH | (simp only [Int.reduceToNat] at rH; rw [← pz.out] at rH))
          have gZ := ah (Kd.kE HO_5.out hb)
          have iL := ah (Kd.dW (Kd.fB HO_6.out) (Kd.fP rH) hb)
          have jC := ah (Kd.kE eF.out hb)
          have jZ := ah (Kd.bV (Kd.gq rH (Kd.jH (Kd.fB HO_6.out))) (aI (by repeat (first | (with_reducible first | exact HB.out | refine bJ ?_ | refine aA ?_ bT.out) | exact HB.out))))
          have mQ := ah (dX aN.out hb)
          have qY := ah (aW (by repeat (first | (with_reducible first | exact HB.out | refine bJ ?_ | refine aA ?_ bT.out) | exact HB.out)) hb)
          clear HO_5
          clear HO_6
          clear eF
          clear aN
          clear HB
          have HO_5 := gZ
          have HO_6 := iL
          have eF := jC
          have gX := jZ
          have aN := mQ
          have HB := qY
          clear gZ iL jC jZ mQ qY
          clear hb rH
          obtain ⟨FB, FC, FD⟩ := Kd.bY eF.out
          (first | subst FD | (injection FD with sG yM sH; have yN := sG.symm; have yO := sH.symm; clear sG yM sH; subst yN; subst yO))
          refine hK.out _ _ ⟨(ay aN.out 0).trans rfl, (ay aN.out 1).trans rfl⟩ (fun hHeld => ?_)
          clear hK K
          refine kC (a' := ?_) ?_ ?_
          rotate_left
          ·show Act.put _ (some 25) _ = _
           simp only [Act.put, List.setIfInBounds_toArray, List.set_cons_zero, List.set_cons_succ, dh, dF]
           rfl
          refine tH (i := 4) (N := some 21) #[true, true, true, true, true, true, true, true, true, false, false, false] rfl rfl (kZ HT_.out (by kernel_rfl)) (by decide) (fun K hK => ?_)
          refine Kd.jg (Kd.int .i64) (w0 := w) w.heap.size (by rfl) (.tmp 17) (.tmp 20) 30 3 (.int .i64 0) 8 rfl Try.underlying30 info3 rfl (by decide) (by omega) (.slice LM bF.length KO) bF gV _ _ _ (fun k_ => some k_ ≠ (.slice FB gV.length FC : Value).ownBlock) (fun _ => False) rfl rfl ?aO ?aR (fun _ _ h => h) (fun _ h => h.elim) ?aF ?aB ?aS ?aL ?_
          (case aR => exact Kd.jT (Kd.bD eF.out).2.2)
          (case aB => exact (by repeat (first | (with_reducible first | exact HB.out | refine bJ ?_ | refine aA ?_ bT.out) | exact HB.out)))
          (case aF => exact (fun k_ hk => Kd.fresh' (Kd.jH (Kd.fB eF.out)) k_ hk))
          (case aO => exact (Kd.fB (Kd.cu HO_5.out (fun _ hk => hk.2))))
          (case aS => exact (aI (by repeat (first | (with_reducible first | exact HB.out | refine bJ ?_ | refine aA ?_ bT.out) | exact HB.out))))
          (case aL => have := Fq.out; omega)
          intro v107 Xf ho hb hg hat
          rw [← BN.out] at ho
          have gZ := ah (Kd.jM (Kd.fB HO_6.out) (Kd.je (Kd.fB HO_5.out)) (by decide) hg)
          have iL := ah (iZ (g := aJ) (o := .cells #[.int .i64 ((aZ l0 bI).f0), .int .i64 ((aZ l0 bI).f1)] 173 (0, 0)) (jP aN.out) hg (Kd.Dh HO_5.out aN.out (by decide)))
          have jC := ah (Kd.qp (ok := (fun _ => True)) (Kd.fB eF.out) hg hat)
          have jZ := ah (Kd.jM (Kd.fB gX.out) (Kd.je (Kd.fB HO_5.out)) (by decide) hg)
          have mQ := ah (hb)
          have qY := ah (ho)
          clear HO_6
          clear aN
          clear eF
          clear gX
          clear HB
          clear HO_5
          have HO_6 := gZ
          have aN := iL
          have eF := jC
          have gX := jZ
          have HB := mQ
          have fK := qY
          clear gZ iL jC jZ mQ qY
          clear ho hb hg hat
          refine hK.out _ _ ⟨(ay aN.out 0).trans rfl, (ay aN.out 1).trans rfl⟩ (fun hHeld => ?_)
          clear hK K
          refine kC (a' := ?_) ?_ ?_
          rotate_left
          ·show Act.put _ (some 21) _ = _
           simp only [Act.put, List.setIfInBounds_toArray, List.set_cons_zero, List.set_cons_succ, dh, dF]
           rfl
          exact kC (by simp only [uh, Act.put, List.setIfInBounds_toArray, List.set_cons_zero, List.set_cons_succ]) (hCont (.slice FB gV.length FC, v107, sJ) _ ⟨hHeld, (Kd.fB (Kd.cu eF.out (fun _ hk => hk.2))), (Kd.fB fK.out), (Kd.fB (Kd.cu gX.out (fun _ hk => hk.2))), (Kd.fB (Kd.cu HO_6.out (fun _ hk => hk.2))), (jP aN.out), (by repeat (first | (with_reducible first | exact HB.out | refine bJ ?_ | refine aA ?_ bT.out) | exact HB.out))⟩)
         skip
         refine Kd.lU (Kd.int .i64) _ 2 ?hg (N := 25) ?hd (xs := ([(aZ l0 bI).f1] : List Int)) (inner := [.int .i64 ((aZ l0 bI).f1)]) (ok := fun _ => True) (okp := fun _ => True) ?hr ?hp (fun _ hk => hk) trivial (Below.refl _ _) (Nat.le_refl _) (by simp) ?_; (case hd => rfl); (case hg => rfl); (case hr => first | (go_simp; done) | (go_simp; rfl)); (case hp => exact (jA.one (show Kd.M (Kd.int .i64) _ _ _ ((aZ l0 bI).f1) [.int .i64 ((aZ l0 bI).f1)] from rfl) (jA.none _ _)))
         intro sJ QA rG hb hg_ hnew_
         clear hg_ hnew_
         (first | rw [← pz.out] at rG | (simp only [Int.reduceToNat] at rG; rw [← pz.out] at rG))
         have gZ := ah (Kd.kE HO_5.out hb)
         have iL := ah (Kd.dW (Kd.fB HO_6.out) (Kd.fP rG) hb)
         have jC := ah (Kd.bV (Kd.gq rG (Kd.jH (Kd.fB HO_6.out))) (aI (by repeat (first | (with_reducible first | exact HB.out | refine bJ ?_ | refine aA ?_ bT.out) | exact HB.out))))
         have jZ := ah (dX aN.out hb)
         have mQ := ah (aW (by repeat (first | (with_reducible first | exact HB.out | refine bJ ?_ | refine aA ?_ bT.out) | exact HB.out)) hb)
         clear HO_5
         clear HO_6
         clear aN
         clear HB
         have HO_5 := gZ
         have HO_6 := iL
         have gX := jC
         have aN := jZ
         have HB := mQ
         clear gZ iL jC jZ mQ
         clear hb rG
         refine hK.out _ _ ⟨(ay aN.out 0).trans rfl, (ay aN.out 1).trans rfl⟩ (fun hHeld => ?_)
         clear hK K
         refine kC (a' := ?_) ?_ ?_
         rotate_left
         ·show Act.put _ (some 25) _ = _
          simp only [Act.put, List.setIfInBounds_toArray, List.set_cons_zero, List.set_cons_succ, dh, dF]
          rfl
         refine tH (i := 3) (N := some 20) #[true, true, true, true, false, true, true, true, true, false, false, false] rfl rfl (kZ HT_.out (by kernel_rfl)) (by decide) (fun K hK => ?_)
         refine Kd.lU (Kd.int .i64) _ 3 ?hg (N := 20) ?hd (xs := ([(aZ l0 bI).f0] : List Int)) (inner := [.int .i64 ((aZ l0 bI).f0)]) (ok := fun _ => True) (okp := fun _ => True) ?hr ?hp (fun _ hk => hk) trivial (Below.refl _ _) (Nat.le_refl _) (by simp) ?_; (case hd => rfl); (case hg => rfl); (case hr => first | (go_simp; done) | (go_simp; rfl)); (case hp => exact (jA.one (show Kd.M (Kd.int .i64) _ _ _ ((aZ l0 bI).f0) [.int .i64 ((aZ l0 bI).f0)] from rfl) (jA.none _ _)))
         intro yJ X6 rH hb hg_ hnew_
         clear hg_ hnew_
         (first | rw [← su.out] at rH | (simp only [Int.reduceToNat] at rH; rw [← su.out] at rH))
         have gZ := ah (Kd.dW (Kd.fB HO_5.out) (Kd.fP rH) hb)
         have iL := ah (Kd.kE HO_6.out hb)
         have jC := ah (Kd.kE gX.out hb)
         have jZ := ah (Kd.bV (Kd.gq rH (Kd.jH (Kd.fB HO_5.out))) (aI (by repeat (first | (with_reducible first | exact HB.out | refine bJ ?_ | refine aA ?_ bT.out) | exact HB.out))))
         have mQ := ah (dX aN.out hb)
         have qY := ah (aW (by repeat (first | (with_reducible first | exact HB.out | refine bJ ?_ | refine aA ?_ bT.out) | exact HB.out)) hb)
         clear HO_5
         clear HO_6
         clear gX
         clear aN
         clear HB
         have HO_5 := gZ
         have HO_6 := iL
         have gX := jC
         have eF := jZ
         have aN := mQ
         have HB := qY
         clear gZ iL jC jZ mQ qY
         clear hb rH
         obtain ⟨FB, FC, FD⟩ := Kd.bY eF.out
         (first | subst FD | (injection FD with sG yM sH; have yN := sG.symm; have yO := sH.symm; clear sG yM sH; subst yN; subst yO))
         refine hK.out _ _ ⟨(ay aN.out 0).trans rfl, (ay aN.out 1).trans rfl⟩ (fun hHeld => ?_)
         clear hK K
         refine kC (a' := ?_) ?_ ?_
         rotate_left
         ·show Act.put _ (some 20) _ = _
          simp only [Act.put, List.setIfInBounds_toArray, List.set_cons_zero, List.set_cons_succ, dh, dF]
          rfl
         refine tH (i := 4) (N := some 21) #[true, true, true, true, true, true, true, true, true, false, false, false] rfl rfl (kZ HT_.out (by kernel_rfl)) (by decide) (fun K hK => ?_)
         refine Kd.jg (Kd.int .i64) (w0 := w) w.heap.size (by rfl) (.tmp 17) (.tmp 20) 30 3 (.int .i64 0) 8 rfl Try.underlying30 info3 rfl (by decide) (by omega) (.slice LM bF.length KO) bF gV _ _ _ (fun k_ => some k_ ≠ (.slice FB gV.length FC : Value).ownBlock) (fun _ => False) rfl rfl ?aO ?aR (fun _ _ h => h) (fun _ h => h.elim) ?aF ?aB ?aS ?aL ?_
         (case aR => exact Kd.jT (Kd.bD eF.out).2.2)
         (case aB => exact (by repeat (first | (with_reducible first | exact HB.out | refine bJ ?_ | refine aA ?_ bT.out) | exact HB.out)))
         (case aF => exact (fun k_ hk => Kd.fresh' (Kd.jH (Kd.fB eF.out)) k_ hk))
         (case aO => exact (Kd.fB (Kd.cu HO_5.out (fun _ hk => hk.2))))
         (case aS => exact (aI (by repeat (first | (with_reducible first | exact HB.out | refine bJ ?_ | refine aA ?_ bT.out) | exact HB.out))))
         (case aL => have := Fq.out; omega)
         intro v107 Xf ho hb hg hat
         rw [← BN.out] at ho
         have gZ := ah (Kd.jM (Kd.fB HO_6.out) (Kd.je (Kd.fB HO_5.out)) (by decide) hg)
         have iL := ah (iZ (g := aJ) (o := .cells #[.int .i64 ((aZ l0 bI).f0), .int .i64 ((aZ l0 bI).f1)] 173 (0, 0)) (jP aN.out) hg (Kd.Dh HO_5.out aN.out (by decide)))
         have jC := ah (Kd.jM (Kd.fB gX.out) (Kd.je (Kd.fB HO_5.out)) (by decide) hg)
         have jZ := ah (Kd.qp (ok := (fun _ => True)) (Kd.fB eF.out) hg hat)
         have mQ := ah (hb)
         have qY := ah (ho)
         clear HO_6
         clear aN
         clear gX
         clear eF
         clear HB
         clear HO_5
         have HO_6 := gZ
         have aN := iL
         have gX := jC
         have eF := jZ
         have HB := mQ
         have fK := qY
         clear gZ iL jC jZ mQ qY
         clear ho hb hg hat
         refine hK.out _ _ ⟨(ay aN.out 0).trans rfl, (ay aN.out 1).trans rfl⟩ (fun hHeld => ?_)
         clear hK K
         refine kC (a' := ?_) ?_ ?_
         rotate_left
         ·show Act.put _ (some 21) _ = _
          simp only [Act.put, List.setIfInBounds_toArray, List.set_cons_zero, List.set_cons_succ, dh, dF]
          rfl
         exact kC (by simp only [uh, Act.put, List.setIfInBounds_toArray, List.set_cons_zero, List.set_cons_succ]) (hCont (.slice FB gV.length FC, v107, sJ) _ ⟨hHeld, (Kd.fB (Kd.cu eF.out (fun _ hk => hk.2))), (Kd.fB fK.out), (Kd.fB (Kd.cu gX.out (fun _ hk => hk.2))), (Kd.fB (Kd.cu HO_6.out (fun _ hk => hk.2))), (jP aN.out), (by repeat (first | (with_reducible first | exact HB.out | refine bJ ?_ | refine aA ?_ bT.out) | exact HB.out))⟩)
        rintro ⟨yJ, v107, sJ⟩ Ak ⟨hS_, h0_, h1_, h2_, h3_, h4_, h5_⟩
        have gZ : aj (Kd.R (Kd.int .i64) 3 Ak w.heap.size (fun k_ => some k_ ≠ (v107 : Value).ownBlock) yJ gV) := ⟨h0_⟩
        have iL : aj (Kd.R (Kd.int .i64) 3 Ak w.heap.size (fun k_ => some k_ ≠ (yJ : Value).ownBlock) v107 yL) := ⟨h1_⟩
        have jC : aj (Kd.R (Kd.int .i64) 2 Ak w.heap.size (fun k_ => some k_ ≠ (.slice tX fH.length tY : Value).ownBlock) sJ mG) := ⟨h2_⟩
        have jZ : aj (Kd.R (Kd.int .i64) 2 Ak w.heap.size (fun k_ => some k_ ≠ (sJ : Value).ownBlock) (.slice tX fH.length tY) fH) := ⟨h3_⟩
        have mQ : aj (Ak.heap[aJ]? = some (.cells #[.int .i64 ((aZ l0 bI).f0), .int .i64 ((aZ l0 bI).f1)] 173 (0, 0))) := ⟨h4_⟩
        have qY : aj (Below w.heap.size w Ak) := ⟨h5_⟩
        clear HO_5
        clear HO_6
        clear aN
        clear HB
        clear h0_ h1_ h2_ h3_ h4_ h5_
        have eF := gZ
        have fK := iL
        have gX := jC
        have HO_6 := jZ
        have aN := mQ
        have HB := qY
        clear gZ iL jC jZ mQ qY
        have hHeld : Ak.cell? ⟨aJ, 0, none⟩ = some (.int .i64 ((aZ l0 bI).f0)) ∧ Ak.cell? ⟨aJ, 1, none⟩ = some (.int .i64 ((aZ l0 bI).f1)) := hS_
        obtain ⟨FH, FM, Hy⟩ := Kd.bY gX.out
        (first | subst Hy | (injection Hy with sG yM sH; have yN := sG.symm; have yO := sH.symm; clear sG yM sH; subst yN; subst yO))
        refine kC (a' := ?_) ?_ ?_
        rotate_left
        ·simp only [uh, Act.put, List.setIfInBounds_toArray, List.set_cons_zero, List.set_cons_succ]
         rfl
        refine tH (i := 9) (N := some 26) #[true, true, true, true, true, true, true, true, true, true, false, false] rfl rfl (kZ HT_.out (by kernel_rfl)) (by decide) (fun K hK => ?_)
        refine Kd.jg (Kd.int .i64) (w0 := w) w.heap.size (by rfl) (.tmp 22) (.tmp 25) 27 2 (.int .i64 0) 8 rfl Try.underlying27 DK rfl (by decide) (by omega) (.slice tX fH.length tY) fH mG _ _ _ (fun k_ => some k_ ≠ (.slice FH mG.length FM : Value).ownBlock) (fun _ => False) rfl rfl ?aO ?aR (fun _ _ h => h) (fun _ h => h.elim) ?aF ?aB ?aS ?aL ?_
        (case aR => exact Kd.jT (Kd.bD gX.out).2.2)
        (case aB => exact (by repeat (first | (with_reducible first | exact HB.out | refine bJ ?_ | refine aA ?_ bT.out) | exact HB.out)))
        (case aF => exact (fun k_ hk => Kd.fresh' (Kd.jH (Kd.fB gX.out)) k_ hk))
        (case aO => exact (Kd.fB HO_6.out))
        (case aS => exact (aI (by repeat (first | (with_reducible first | exact HB.out | refine bJ ?_ | refine aA ?_ bT.out) | exact HB.out))))
        (case aL => have := TD.out; omega)
        intro VF w20 ho hb hg hat
        rw [← Lh.out] at ho
        have gZ := ah (iZ (g := aJ) (o := .cells #[.int .i64 ((aZ l0 bI).f0), .int .i64 ((aZ l0 bI).f1)] 173 (0, 0)) (jP aN.out) hg (Kd.Dh HO_6.out aN.out (by decide)))
        have iL := ah (Kd.jM (Kd.fB eF.out) (Kd.je (Kd.fB HO_6.out)) (by decide) hg)
        have jC := ah (Kd.jM (Kd.fB fK.out) (Kd.je (Kd.fB HO_6.out)) (by decide) hg)
        have jZ := ah (Kd.qp (ok := (fun _ => True)) (Kd.fB (Kd.cu gX.out (fun _ hk => ⟨trivial, hk⟩))) hg hat)
        have mQ := ah (hb)
        have qY := ah (ho)
        clear aN
        clear eF
        clear fK
        clear gX
        clear HB
        clear HO_6
        have aN := gZ
        have eF := iL
        have fK := jC
        have gX := jZ
        have HB := mQ
        have tu := qY
        clear gZ iL jC jZ mQ qY
        clear ho hb hg hat
        refine hK.out _ _ ⟨(ay aN.out 0).trans rfl, (ay aN.out 1).trans rfl⟩ (fun hHeld => ?_)
        clear hK K
        refine kC (a' := ?_) ?_ ?_
        rotate_left
        ·show Act.put _ (some 26) _ = _
         simp only [Act.put, List.setIfInBounds_toArray, List.set_cons_zero, List.set_cons_succ, dh, dF]
         rfl
        refine iH (i := 10) (N := some 5) (v := ?_) (a' := ?_) #[true, true, true, true, true, true, true, true, true, true, true, false] rfl rfl (gu HT_.out (by kernel_rfl)) (fun _ _ _ h => h) (Or.inl ⟨by rfl, ?_⟩) ?_ ?_
        rotate_left
        ·intro w'
         go_simp
         with_reducible rfl
        rotate_left
        ·simp only [Act.put, List.setIfInBounds_toArray, List.set_cons_zero, List.set_cons_succ, dh, dF]
         rfl
        refine iH (i := 11) (N := some 6) (v := ?_) (a' := ?_) #[true, true, true, true, true, true, true, true, true, true, true, true] rfl rfl (gu HT_.out (by kernel_rfl)) (fun _ _ _ h => h) (Or.inl ⟨by rfl, ?_⟩) ?_ ?_
        rotate_left
        ·intro w'
         go_simp
         with_reducible rfl
        rotate_left
        ·simp only [Act.put, List.setIfInBounds_toArray, List.set_cons_zero, List.set_cons_succ, dh, dF]
         rfl
        refine Iu (zJ HT_.out (by kernel_rfl)) ?_
        try go_wp2
        go_roundg k1
        case measure => have := jf.out; omega
        case rel => exact ⟨(yL), (y112), (wrap64 (bI + 1)), (by first | rfl | (simp; done) | (simp [*]; done)), H', ⟨by have := jf.out; omega⟩, ⟨by (repeat with_reducible refine Kd.kJ ?_); exact Kd.cu fK.out (fun _ hk => trivial)⟩, ⟨by (repeat with_reducible refine Kd.kJ ?_); exact Kd.cu tu.out (fun _ hk => trivial)⟩, ⟨by repeat (first | (with_reducible first | exact HB.out | apply ak | apply au | apply aC | refine aA ?_ bT.out) | exact HB.out)⟩⟩
       rw [if_neg c6] at H
       exact absurd H (by simp)
      rw [if_neg c5] at H
      exact absurd H (by simp)
     rw [if_neg c4] at H
     exact absurd H (by simp)
    rw [if_neg c3] at H
    exact absurd H (by simp)
   rw [if_neg c2] at H
   have c2b0 : decide (bI < (l0.length : Int)) = false := aiK c2
   clear c2
   replace H := Option.bind_eq_some_iff.mp H
   obtain ⟨⟨qc, t116⟩, TI, H⟩ := H
   replace H : (if t116 = 0 then (some (qc, fH, 0)) else (some (([] : List (dP)), ([] : List Int), t116))) = some (r1, r2, r3) := H
   have VG := ah TI
   clear TI
   by_cases c23 : t116 = 0
   ·rw [if_pos c23] at H
    have c23b0 : (t116 == 0) = true := beq_iff_eq.mpr c23
    have c23b1 : (t116 != 0) = false := bne_eq_false_iff_eq.mpr c23
    clear c23
    simp only [Option.some.injEq, Prod.mk.injEq] at H
    obtain ⟨rfl, rfl, rfl⟩ := H
    obtain ⟨X7, X8, X9⟩ := Kd.bY HO_5.out
    subst X9
    go_wp2_with (first | ((with_reducible refine bH (f := 172) rfl ?_); refine eH (some 30) Try.func172 #[.slice X7 bF.length X8] ?_; (with_reducible refine (span_From.calls k1 _ _ bF qc t116 _ ?dw ?dA VG.out).mono ?_); (case dw => exact Kd.jT (Kd.bD HO_5.out).2.2); (case dA => exact (Kd.bD HO_5.out).2.1); rintro e DV ⟨v117, rfl, ho0, hb⟩; refine ⟨_, rfl, ?_⟩; have LQ := ah (Kd.bV ho0 (aI (aX HB.out))); replace HO_5 := ah (Kd.kE HO_5.out hb); replace HO_6 := ah (Kd.kE HO_6.out hb); replace HB := ah (aW (aX HB.out) hb); (try clear hb); (try clear hb2); (try clear hk); (try clear hi); (try clear ho0); clear VG))
    go_ret3
    exact ⟨_, _, by first | rfl | (simp [aT, aU] <;> rfl) | (simp [*, aT, aU] <;> rfl), by (repeat with_reducible refine Kd.kJ ?_); exact LQ.out, by (repeat with_reducible refine Kd.kJ ?_); exact HO_6.out, by repeat (first | (with_reducible first | exact HB.out | apply ak | apply au | apply aC) | exact HB.out)⟩
   rw [if_neg c23] at H
   have c23b0 : (t116 == 0) = false := beq_eq_false_iff_ne.mpr c23
   have c23b1 : (t116 != 0) = true := bne_iff_ne.mpr c23
   simp only [Option.some.injEq, Prod.mk.injEq] at H
   obtain ⟨rfl, rfl, rfl⟩ := H
   obtain ⟨Ya, Yb, Yc⟩ := Kd.bY HO_5.out
   subst Yc
   go_wp2_with (first | ((with_reducible refine bH (f := 172) rfl ?_); refine eH (some 30) Try.func172 #[.slice Ya bF.length Yb] ?_; (with_reducible refine (span_From.calls k1 _ _ bF qc t116 _ ?dw ?dA VG.out).mono ?_); (case dw => exact Kd.jT (Kd.bD HO_5.out).2.2); (case dA => exact (Kd.bD HO_5.out).2.1); rintro e w27 ⟨v117, rfl, ho0, hb⟩; refine ⟨_, rfl, ?_⟩; have LQ := ah (Kd.bV ho0 (aI (aX HB.out))); replace HO_5 := ah (Kd.kE HO_5.out hb); replace HO_6 := ah (Kd.kE HO_6.out hb); replace HB := ah (aW (aX HB.out) hb); (try clear hb); (try clear hb2); (try clear hk); (try clear hi); (try clear ho0); clear VG))
   go_ret3
   exact ⟨_, _, by first | rfl | (simp [aT, aU] <;> rfl) | (simp [*, aT, aU] <;> rfl), by first | exact Kd.dY _ _ _ _ _ | exact Kd.gI _ _ _ _ _ | exact Kd.gJ _ _ _ _ _ | exact Kd.gB _ _ _ _ _ | exact Kd.gG _ _ _ _ _, by first | exact Kd.dY _ _ _ _ _ | exact Kd.gI _ _ _ _ _ | exact Kd.gJ _ _ _ _ _ | exact Kd.gB _ _ _ _ _ | exact Kd.gG _ _ _ _ _, by repeat (first | (with_reducible first | exact HB.out | apply ak | apply au | apply aC) | exact HB.out)⟩
def pairs_less.f (a0 : Int) (a1 : Int) : Option (Int × Bool) := some (wrap64 (a0 - a1), ((decide ((wrap64 (a0 - a1)) < a0)) == (decide (a1 > 0))))
set_option maxHeartbeats 8000000 in
set_option maxRecDepth 100000 in
theorem pairs_less.calls (a0 : Int) (a1 : Int) (r1 : Int) (r2 : Bool) (w : World) (h : pairs_less.f a0 a1 = some (r1, r2)) :
  Calls Try.prog 177 #[.int .i64 a0, .int .i64 a1] w fun e w' => e = .returned (.tuple #[.int .i64 r1, .bool r2]) ∧ bW w w' := by
 have H : (some (wrap64 (a0 - a1), ((decide ((wrap64 (a0 - a1)) < a0)) == (decide (a1 > 0))))) = some (r1, r2) := h
 clear h
 simp only [Option.some.injEq, Prod.mk.injEq] at H
 obtain ⟨rfl, rfl⟩ := H
 go_enter Try.func177, Try.ntmps177
 go_wp2
 go_ret2
 exact ⟨by first | rfl | (simp; done) | (simp [*]; done), by repeat (first | exact bW.refl _ | apply bW.step)⟩
def pairs_Deltas.l0 : Nat → List Int → Int → List Int → Int → Int → Option (List Int × Int)
 | 0, _, _, _, _, _ => none
 | k + 1, x4, x5, x10, x11, x12 => if x12 < x11 then (if 0 ≤ x12 then (if x12 < (x10.length : Int) then ((pairs_less.f (rd x10 x12) x5).bind fun lX => (if lX.2 = true then (if x4.length < 17592186044416 then (pairs_Deltas.l0 k (x4 ++ [lX.1]) (rd x10 x12) x10 x11 (wrap64 (x12 + 1))) else (none)) else (some (([] : List Int), 28)))) else (none)) else (none)) else (some (x4, 0))
def pairs_Deltas.f (k : Nat) (l0 : List Int) : Option (List Int × Int) := pairs_Deltas.l0 k ([] : List Int) 0 l0 (l0.length : Int) 0
set_option maxHeartbeats 8000000 in
set_option maxRecDepth 100000 in
theorem pairs_Deltas.calls (k : Nat) (A0 : Option Addr) (c0 : Nat) (l0 : List Int) (r1 : List Int) (r2 : Int) (w : World) (hr0 : Kd.C (Kd.int .i64) w A0 l0.length l0) (hc0 : l0.length ≤ c0) (h : pairs_Deltas.f k l0 = some (r1, r2)) :
  Calls Try.prog 163 #[.slice A0 l0.length c0] w fun e w' => ∃ lY : Value, e = .returned (.tuple #[lY, .int .i64 r2]) ∧ Kd.R (Kd.int .i64) 2 w' w.heap.size (fun _ => True) lY r1 ∧ Below w.heap.size w w' := by
 have HR0 := ah hr0
 have tK := ah hc0
 clear hr0 hc0
 have HB := ah (Below.refl w.heap.size w)
 have H : (pairs_Deltas.l0 k ([] : List Int) 0 l0 (l0.length : Int) 0) = some (r1, r2) := h
 clear h
 have H' := ah H
 clear H
 go_enter Try.func163, Try.ntmps163
 go_wp2
 go_loopg [4, 5, 12] k (fun kq v4 v5 v12 w' => ∃ (dM : List Int) (bF : Int) (dB : Int), v5 = .int .i64 bF ∧ v12 = .int .i64 dB ∧ aj (pairs_Deltas.l0 kq dM bF l0 (l0.length : Int) dB = some (r1, r2)) ∧ aj (kq ≤ k) ∧ aj (Kd.R (Kd.int .i64) 2 w' w.heap.size (fun _ => True) v4 dM) ∧ aj (Below w.heap.size w w'))
 case atStart => exact ⟨(([] : List Int)), (0), (0), (by first | rfl | (simp; done) | (simp [*]; done)), (by first | rfl | (simp; done) | (simp [*]; done)), H', ⟨Nat.le_refl _⟩, ⟨by first | exact Kd.dY _ _ _ _ _ | exact Kd.gI _ _ _ _ _ | exact Kd.gJ _ _ _ _ _ | exact Kd.gB _ _ _ _ _ | exact Kd.gG _ _ _ _ _⟩, ⟨by repeat (first | (with_reducible first | exact HB.out | apply ak | apply au | apply aC) | exact HB.out)⟩⟩
 case round =>
  clear H'
  try clear c1
  obtain ⟨dM, bF, dB, rfl, rfl, HA, jf, HO_4, HB⟩ := hrel
  cases gk with
  | zero => exact absurd HA.out (by simp [pairs_Deltas.l0])
  | succ k1 =>
   have H := HA.out
   clear HA
   simp only [pairs_Deltas.l0] at H
   by_cases c2 : dB < (l0.length : Int)
   ·rw [if_pos c2] at H
    have c2b0 : decide (dB < (l0.length : Int)) = true := aiJ c2
    clear c2
    by_cases c3 : 0 ≤ dB
    ·rw [if_pos c3] at H
     have c3b0 : decide (0 ≤ dB) = true := aiJ c3
     clear c3
     by_cases c4 : dB < (l0.length : Int)
     ·rw [if_pos c4] at H
      have c4b0 : decide (dB < (l0.length : Int)) = true := aiJ c4
      clear c4
      replace H := Option.bind_eq_some_iff.mp H
      obtain ⟨⟨eP, eG⟩, JR, H⟩ := H
      replace H : (if eG = true then (if dM.length < 17592186044416 then (pairs_Deltas.l0 k1 (dM ++ [eP]) (rd l0 dB) l0 (l0.length : Int) (wrap64 (dB + 1))) else (none)) else (some (([] : List Int), 28))) = some (r1, r2) := H
      have A5 := ah JR
      clear JR
      by_cases c6 : eG = true
      ·subst c6
       have H1 : (if dM.length < 17592186044416 then (pairs_Deltas.l0 k1 (dM ++ [eP]) (rd l0 dB) l0 (l0.length : Int) (wrap64 (dB + 1))) else (none)) = some (r1, r2) := by rw [if_pos rfl] at H; exact H
       clear H
       have H := H1
       clear H1
       by_cases c7 : dM.length < 17592186044416
       ·rw [if_pos c7] at H
        have NK := ah c7
        clear c7
        obtain ⟨y104, hy104⟩ : ∃ y_ : List Int, y_ = (dM ++ [eP]) := ⟨_, rfl⟩
        replace H : (pairs_Deltas.l0 k1 y104 (rd l0 dB) l0 (l0.length : Int) (wrap64 (dB + 1))) = some (r1, r2) := by first | (rw [hy104]; with_reducible exact H) | (have jm := (Option.bind_some _ _).symm.trans H; rw [hy104]; with_reducible exact jm) | (have jm := (Option.bind_some _ _).symm.trans H; with_reducible exact jm) | with_reducible exact H | (rw [hy104]; exact H) | exact H
        have LJ := ah hy104
        clear hy104
        have H' := ah H
        clear H
        have eX : 0 ≤ (dB : Int) := aiI (by assumption)
        have eY : dB < (l0.length : Int) := aiI (by assumption)
        obtain ⟨jU, jK, bP⟩ := Kd.fA HR0.out dB eX eY
        cases jK
        replace bP := (HB.out.cell (World.block_lt_of_cell? w _ bP)).trans bP
        replace eX := eq_true eX
        replace eY := eq_true eY
        go_wp2_with (first | ((with_reducible refine bH (f := 177) rfl ?_); refine eH (some 19) Try.func177 #[.int .i64 (rd l0 dB), .int .i64 bF] ?_; (with_reducible refine (pairs_less.calls (rd l0 dB) bF eP true _ A5.out).mono ?_); rintro e w' ⟨rfl, ⟨nd, rfl⟩⟩; refine ⟨_, rfl, ?_⟩; clear A5) | ((with_reducible refine dZ (b := .append) (xs := #[.tmp 24, .tmp 26]) rfl ?_); at_builtin; refine Kd.iP (Kd.int .i64) (w0 := w) w.heap.size rfl (.tmp 24) (.tmp 26) 27 2 (.int .i64 0) 8 rfl Try.underlying27 DK rfl (by decide) (by omega) u4 dM eP [.int .i64 eP] (fun _ => True) (fun _ => False) rfl rfl ?aP (fun _ hk => hk.elim) ?aF ?aO ?aB ?aS ?aL ?_; (case aP => exact rfl); (case aB => exact (aX HB.out)); (case aF => exact (fun _ _ => trivial)); (case aO => exact (Kd.fB HO_4.out)); (case aS => exact (aI (aX HB.out))); (case aL => have := NK.out; omega); intro v105 w8 ho hb hg hat; rw [← LJ.out] at ho; have LK := ah (ho); replace HB := ah (hb); clear HO_4 ho hb hg hat))
        go_roundg k1
        case measure => have := jf.out; omega
        case rel => exact ⟨(y104), (rd l0 dB), (wrap64 (dB + 1)), (by first | rfl | (simp; done) | (simp [*]; done)), (by first | rfl | (simp; done) | (simp [*]; done)), H', ⟨by have := jf.out; omega⟩, ⟨by (repeat with_reducible refine Kd.kJ ?_); exact LK.out⟩, ⟨by repeat (first | (with_reducible first | exact HB.out | apply ak | apply au | apply aC) | exact HB.out)⟩⟩
       rw [if_neg c7] at H
       exact absurd H (by simp)
      replace c6 := Bool.eq_false_iff.mpr c6
      subst c6
      have H1 : (some (([] : List Int), 28)) = some (r1, r2) := by rw [if_neg (show ¬ (false = true) by decide)] at H; exact H
      clear H
      have H := H1
      clear H1
      simp only [Option.some.injEq, Prod.mk.injEq] at H
      obtain ⟨rfl, rfl⟩ := H
      have eX : 0 ≤ (dB : Int) := aiI (by assumption)
      have eY : dB < (l0.length : Int) := aiI (by assumption)
      obtain ⟨jU, jK, bP⟩ := Kd.fA HR0.out dB eX eY
      cases jK
      replace bP := (HB.out.cell (World.block_lt_of_cell? w _ bP)).trans bP
      replace eX := eq_true eX
      replace eY := eq_true eY
      go_wp2_with (first | ((with_reducible refine bH (f := 177) rfl ?_); refine eH (some 19) Try.func177 #[.int .i64 (rd l0 dB), .int .i64 bF] ?_; (with_reducible refine (pairs_less.calls (rd l0 dB) bF eP false _ A5.out).mono ?_); rintro e w' ⟨rfl, ⟨nd, rfl⟩⟩; refine ⟨_, rfl, ?_⟩; clear A5))
      go_ret2
      exact ⟨_, by first | rfl | (simp [aT, aU] <;> rfl) | (simp [*, aT, aU] <;> rfl), by first | exact Kd.dY _ _ _ _ _ | exact Kd.gI _ _ _ _ _ | exact Kd.gJ _ _ _ _ _ | exact Kd.gB _ _ _ _ _ | exact Kd.gG _ _ _ _ _, by repeat (first | (with_reducible first | exact HB.out | apply ak | apply au | apply aC) | exact HB.out)⟩
     rw [if_neg c4] at H
     exact absurd H (by simp)
    rw [if_neg c3] at H
    exact absurd H (by simp)
   rw [if_neg c2] at H
   have c2b0 : decide (dB < (l0.length : Int)) = false := aiK c2
   clear c2
   simp only [Option.some.injEq, Prod.mk.injEq] at H
   obtain ⟨rfl, rfl⟩ := H
   go_wp2
   go_ret2
   exact ⟨_, by first | rfl | (simp [aT, aU] <;> rfl) | (simp [*, aT, aU] <;> rfl), by (repeat with_reducible refine Kd.kJ ?_); exact HO_4.out, by repeat (first | (with_reducible first | exact HB.out | apply ak | apply au | apply aC) | exact HB.out)⟩
end Go.Proofs.Ytooiccpmngmapaa.P
namespace Go.Proofs.Ytooiccpmngmapaa.P
open Go.RowKit Go.Proofs.YtooiccpmngmapaaW.PrintWords Go.Proofs.YtooiccpmngmapaaW.PrintLast Go.Proofs.YtooiccpmngmapaaW.PrintMore
abbrev Pr := gy
instance : DecidableEq Pr := fun a b => if h : a.f0 = b.f0 ∧ a.f1 = b.f1 then isTrue (by cases a; cases b; simp only at h; rw [h.1, h.2]) else isFalse (by rintro rfl; exact h ⟨rfl, rfl⟩)
theorem BO {l : List Pr} {i : Nat} (h : i < l.length) : aZ l (i : Int) = l[i] := by unfold aZ; simp [List.getD, h]
def TJ (l : List Pr) : Prop := ∀ s ∈ l, i64 s.f0 ∧ i64 s.f1
theorem FN {l : List Int} (h : (jO l).2 = 0) : rises (-1048576) l = true ∧ l.length ≤ 4096 ∧ (spansOf l).length ≤ 1024 ∧ (jO l).1 = spansOf l := by
 unfold jO at h ⊢
 split at h
 ·rename_i hr
  split at h
  ·cases h
  ·split at h
   ·cases h
   ·refine ⟨hr, by omega, by omega, ?_⟩
    rw [if_pos hr, if_neg (by omega), if_neg (by omega)]
 ·cases h
def kH (l : List Pr) : List Sp × List Int × Int := if (jO (l.map (·.f0))).2 = 0 then ((jO (l.map (·.f0))).1, l.map (·.f1), 0) else ([], [], (jO (l.map (·.f0))).2)
theorem NT (l : List Pr) (hw : TJ l) (hm : l.length < 4398046511104) : ∀ (d k i : Nat), l.length - i = d → d + 2 * l.length + 1 < k → i ≤ l.length →
    pairs_Unzip_int64.l0 k ((l.take i).map (·.f0)) ((l.take i).map (·.f1)) l (l.length : Int) (i : Int) = some (kH l) := by
  intro d
  induction d with
  | zero =>
    intro k i hd hk hi
    obtain ⟨k, rfl⟩ : ∃ m, k = m + 1 := ⟨k - 1, by omega⟩
    simp only [pairs_Unzip_int64.l0]
    rw [if_neg (by omega), List.take_of_length_le (by omega), PE _ (by intro x hx; obtain ⟨s, hs, rfl⟩ := List.mem_map.1 hx; exact (hw s hs).1) (by simpa using hm) k (by simp; omega)]
    simp only [Option.bind_some]
    unfold kH
    split <;> rfl
  | succ d ih =>
    intro k i hd hk hi
    obtain ⟨k, rfl⟩ : ∃ m, k = m + 1 := ⟨k - 1, by omega⟩
    have hlt : i < l.length := by omega
    have hl1 : ((l.take i).map (·.f0)).length = i := by simp; omega
    have hl2 : ((l.take i).map (·.f1)).length = i := by simp; omega
    simp only [pairs_Unzip_int64.l0, Option.bind_some]
    rw [if_pos (by omega), if_pos (by omega), if_pos (by omega), hl1, hl2, BO hlt, if_pos (by simp; omega), if_pos (by simp; omega), wrap_succ (by omega), ← ih k (i + 1) (by omega) (by omega) (by omega), take_at hlt]
    simp only [List.map_append, List.map_cons, List.map_nil]
theorem TK (l : List Pr) (hw : TJ l) (hm : l.length < 4398046511104) (k : Nat) (hk : 3 * l.length + 1 < k) : pairs_Unzip_int64.f k l = some (kH l) := by
 unfold pairs_Unzip_int64.f
 exact NT l hw hm l.length k 0 (by omega) (by omega) (by omega)
def NU (l : List Sp) (v : List Int) : List Pr × Int := if fZ l = 0 then (if (uP 0 l).length = v.length then (List.zipWith (fun p x => (⟨p, x⟩ : Pr)) (uP 0 l) v, 0) else ([], 10)) else ([], fZ l)
theorem TL (ps v : List Int) (hl : ps.length = v.length) (hm : ps.length < 8796093022208) : ∀ (d k i : Nat), ps.length - i = d → d < k → i ≤ ps.length →
    pairs_Zip_int64.l0 k v (List.zipWith (fun p x => (⟨p, x⟩ : Pr)) (ps.take i) (v.take i)) ps (ps.length : Int) (i : Int) = some (List.zipWith (fun p x => (⟨p, x⟩ : Pr)) ps v, 0) := by
  intro d
  induction d with
  | zero =>
    intro k i hd hk hi
    obtain ⟨k, rfl⟩ : ∃ m, k = m + 1 := ⟨k - 1, by omega⟩
    simp only [pairs_Zip_int64.l0]
    rw [if_neg (by omega), List.take_of_length_le (by omega), List.take_of_length_le (by omega)]
  | succ d ih =>
    intro k i hd hk hi
    obtain ⟨k, rfl⟩ : ∃ m, k = m + 1 := ⟨k - 1, by omega⟩
    have hlt : i < ps.length := by omega
    have hlv : i < v.length := by omega
    have hl1 : (List.zipWith (fun p x => (⟨p, x⟩ : Pr)) (ps.take i) (v.take i)).length = i := by simp; omega
    simp only [pairs_Zip_int64.l0]
    rw [if_pos (by omega), if_pos (by omega), if_pos (by omega), if_pos (by omega), hl1, qC hlt, qC hlv, if_pos (by omega), wrap_succ (by omega), ← ih k (i + 1) (by omega) (by omega) (by omega), take_at hlt, take_at hlv, List.zipWith_append (by simp; omega)]
    rfl
theorem Yd (l : List Sp) (v : List Int) (hw : lK l) (k : Nat) (hk : 4100 < k) : pairs_Zip_int64.f k l v = some (NU l v) := by
 unfold pairs_Zip_int64.f NU
 rw [IK l hw k (by omega)]
 simp only [Option.bind_some, zT]
 by_cases h : fZ l = 0
 ·have hl := pW h
  rw [if_pos h, if_pos h]
  simp only [if_true]
  by_cases h1 : (uP 0 l).length = v.length
  ·rw [if_pos (by omega), if_pos h1]
   exact TL (uP 0 l) v h1 (by omega) (uP 0 l).length k 0 (by omega) (by omega) (by omega)
  ·rw [if_neg (by omega), if_neg h1]
 ·rw [if_neg h, if_neg h]
  simp only
  rw [if_neg h]
theorem wu {l : List Int} (hr : rises (-1048576) l = true) (h1 : l.length ≤ 4096) (h2 : (spansOf l).length ≤ 1024) : fZ (spansOf l) = 0 := by
 have h := nV l hr
 unfold fZ
 rw [if_neg (by omega), if_pos (h.right (by omega))]
theorem FP {l : List Int} (hr : rises (-1048576) l = true) (h1 : l.length ≤ 4096) : lK (spansOf l) := by
 have h := nV l hr
 intro s hs
 have := h.pos s hs
 exact ⟨⟨by omega, by omega⟩, ⟨by omega, by omega⟩⟩
attribute [local go_sem] jh ji jR jS iI iJ jk jl
def tidepoleref07_Fits.f (a0 : Int) (a1 : Int) : Option (Bool) := if a1 ≥ 0 then (some (decide (a0 ≤ (wrap64 (9223372036854775807 - a1))))) else (some (decide (a0 ≥ (wrap64 ((-9223372036854775808) - a1)))))
set_option maxHeartbeats 8000000 in
set_option maxRecDepth 100000 in
theorem tidepoleref07_Fits.calls (a0 : Int) (a1 : Int) (r : Bool) (w : World) (h : tidepoleref07_Fits.f a0 a1 = some r) :
  Calls Try.prog 171 #[.int .i64 a0, .int .i64 a1] w fun e w' => e = .returned (.bool r) ∧ bW w w' := by
 have H : (if a1 ≥ 0 then (some (decide (a0 ≤ (wrap64 (9223372036854775807 - a1))))) else (some (decide (a0 ≥ (wrap64 ((-9223372036854775808) - a1)))))) = some r := h
 clear h
 by_cases c3 : a1 ≥ 0
 ·rw [if_pos c3] at H
  have c3b0 : decide (0 ≤ a1) = true := aiJ c3
  clear c3
  obtain rfl := Option.some.inj H
  go_enter Try.func171, Try.ntmps171
  go_wp2
  go_ret
  exact ⟨by first | rfl | (simp; done) | (simp [*]; done), by repeat (first | exact bW.refl _ | apply bW.step)⟩
 rw [if_neg c3] at H
 have c3b0 : decide (0 ≤ a1) = false := aiK c3
 clear c3
 obtain rfl := Option.some.inj H
 go_enter Try.func171, Try.ntmps171
 go_wp2
 go_ret
 exact ⟨by first | rfl | (simp; done) | (simp [*]; done), by repeat (first | exact bW.refl _ | apply bW.step)⟩
def tidepoleref07_Absolute.l0 : Nat → List Int → List Int → Int → Int → Option (List Int × Int)
 | 0, _, _, _, _ => none
 | k + 1, x0, x4, x5, x6 => if x6 < (x0.length : Int) then (if 0 ≤ x6 then ((tidepoleref07_Fits.f x5 (rd x0 x6)).bind fun eP => (if eP = true then (if x4.length < 17592186044416 then (tidepoleref07_Absolute.l0 k x0 (x4 ++ [wrap64 (x5 + (rd x0 x6))]) (wrap64 (x5 + (rd x0 x6))) (wrap64 (x6 + 1))) else (none)) else (some (([] : List Int), 1)))) else (none)) else (some (x4, 0))
def tidepoleref07_Absolute.f (k : Nat) (l0 : List Int) : Option (List Int × Int) := tidepoleref07_Absolute.l0 k l0 ([] : List Int) 0 0
set_option maxHeartbeats 8000000 in
set_option maxRecDepth 100000 in
theorem tidepoleref07_Absolute.calls (k : Nat) (A0 : Option Addr) (c0 : Nat) (l0 : List Int) (r1 : List Int) (r2 : Int) (w : World) (hr0 : Kd.C (Kd.int .i64) w A0 l0.length l0) (hc0 : l0.length ≤ c0) (h : tidepoleref07_Absolute.f k l0 = some (r1, r2)) :
  Calls Try.prog 143 #[.slice A0 l0.length c0] w fun e w' => ∃ lY : Value, e = .returned (.tuple #[lY, .int .i64 r2]) ∧ Kd.R (Kd.int .i64) 2 w' w.heap.size (fun _ => True) lY r1 ∧ Below w.heap.size w w' := by
 have HR0 := ah hr0
 have tK := ah hc0
 clear hr0 hc0
 have HB := ah (Below.refl w.heap.size w)
 have H : (tidepoleref07_Absolute.l0 k l0 ([] : List Int) 0 0) = some (r1, r2) := h
 clear h
 have H' := ah H
 clear H
 go_enter Try.func143, Try.ntmps143
 go_wp2
 go_loopg [4, 5, 6] k (fun kq v4 v5 v6 w' => ∃ (dM : List Int) (bF : Int) (fH : Int), v5 = .int .i64 bF ∧ v6 = .int .i64 fH ∧ aj (tidepoleref07_Absolute.l0 kq l0 dM bF fH = some (r1, r2)) ∧ aj (kq ≤ k) ∧ aj (Kd.R (Kd.int .i64) 2 w' w.heap.size (fun _ => True) v4 dM) ∧ aj (Below w.heap.size w w'))
 case atStart => exact ⟨(([] : List Int)), (0), (0), (by first | rfl | (simp; done) | (simp [*]; done)), (by first | rfl | (simp; done) | (simp [*]; done)), H', ⟨Nat.le_refl _⟩, ⟨by first | exact Kd.dY _ _ _ _ _ | exact Kd.gI _ _ _ _ _ | exact Kd.gJ _ _ _ _ _ | exact Kd.gB _ _ _ _ _ | exact Kd.gG _ _ _ _ _⟩, ⟨by repeat (first | (with_reducible first | exact HB.out | apply ak | apply au | apply aC) | exact HB.out)⟩⟩
 case round =>
  clear H'
  try clear c1
  obtain ⟨dM, bF, fH, rfl, rfl, HA, jf, HO_4, HB⟩ := hrel
  cases gk with
  | zero => exact absurd HA.out (by simp [tidepoleref07_Absolute.l0])
  | succ k1 =>
   have H := HA.out
   clear HA
   simp only [tidepoleref07_Absolute.l0] at H
   by_cases c2 : fH < (l0.length : Int)
   ·rw [if_pos c2] at H
    have c2b0 : decide (fH < (l0.length : Int)) = true := aiJ c2
    clear c2
    by_cases c3 : 0 ≤ fH
    ·rw [if_pos c3] at H
     have c3b0 : decide (0 ≤ fH) = true := aiJ c3
     clear c3
     replace H := Option.bind_eq_some_iff.mp H
     obtain ⟨eP, PG, H⟩ := H
     replace H : (if eP = true then (if dM.length < 17592186044416 then (tidepoleref07_Absolute.l0 k1 l0 (dM ++ [wrap64 (bF + (rd l0 fH))]) (wrap64 (bF + (rd l0 fH))) (wrap64 (fH + 1))) else (none)) else (some (([] : List Int), 1))) = some (r1, r2) := H
     have A4 := ah PG
     clear PG
     by_cases c5 : eP = true
     ·subst c5
      have H1 : (if dM.length < 17592186044416 then (tidepoleref07_Absolute.l0 k1 l0 (dM ++ [wrap64 (bF + (rd l0 fH))]) (wrap64 (bF + (rd l0 fH))) (wrap64 (fH + 1))) else (none)) = some (r1, r2) := by rw [if_pos rfl] at H; exact H
      clear H
      have H := H1
      clear H1
      by_cases c6 : dM.length < 17592186044416
      ·rw [if_pos c6] at H
       have TD := ah c6
       clear c6
       obtain ⟨y104, hy104⟩ : ∃ y_ : List Int, y_ = (dM ++ [wrap64 (bF + (rd l0 fH))]) := ⟨_, rfl⟩
       replace H : (tidepoleref07_Absolute.l0 k1 l0 y104 (wrap64 (bF + (rd l0 fH))) (wrap64 (fH + 1))) = some (r1, r2) := by first | (rw [hy104]; with_reducible exact H) | (have jm := (Option.bind_some _ _).symm.trans H; rw [hy104]; with_reducible exact jm) | (have jm := (Option.bind_some _ _).symm.trans H; with_reducible exact jm) | with_reducible exact H | (rw [hy104]; exact H) | exact H
       have LJ := ah hy104
       clear hy104
       have H' := ah H
       clear H
       have eX : 0 ≤ (fH : Int) := aiI (by assumption)
       have eY : fH < (l0.length : Int) := aiI (by assumption)
       obtain ⟨jU, jK, bP⟩ := Kd.fA HR0.out fH eX eY
       cases jK
       replace bP := (HB.out.cell (World.block_lt_of_cell? w _ bP)).trans bP
       replace eX := eq_true eX
       replace eY := eq_true eY
       go_wp2_with (first | ((with_reducible refine bH (f := 171) rfl ?_); refine eH (some 18) Try.func171 #[.int .i64 bF, .int .i64 (rd l0 fH)] ?_; (with_reducible refine (tidepoleref07_Fits.calls bF (rd l0 fH) true _ A4.out).mono ?_); rintro e w' ⟨rfl, ⟨nd, rfl⟩⟩; refine ⟨_, rfl, ?_⟩; clear A4; have FQ : 0 ≤ (fH : Int) := aiI (by assumption); have FT : fH < (l0.length : Int) := aiI (by assumption); obtain ⟨LU, TM, BP⟩ := Kd.fA HR0.out fH FQ FT; obtain rfl : jU = LU := (by injection TM); replace BP := (HB.out.cell (World.block_lt_of_cell? w _ BP)).trans BP; replace FQ := eq_true FQ; replace FT := eq_true FT) | ((with_reducible refine dZ (b := .append) (xs := #[.tmp 26, .tmp 28]) rfl ?_); at_builtin; refine Kd.iP (Kd.int .i64) (w0 := w) w.heap.size rfl (.tmp 26) (.tmp 28) 27 2 (.int .i64 0) 8 rfl Try.underlying27 DK rfl (by decide) (by omega) u4 dM (wrap64 (bF + (rd l0 fH))) [.int .i64 (wrap64 (bF + (rd l0 fH)))] (fun _ => True) (fun _ => False) rfl rfl ?aP (fun _ hk => hk.elim) ?aF ?aO ?aB ?aS ?aL ?_; (case aP => exact rfl); (case aB => exact (aX HB.out)); (case aF => exact (fun _ _ => trivial)); (case aO => exact (Kd.fB HO_4.out)); (case aS => exact (aI (aX HB.out))); (case aL => have := TD.out; omega); intro v105 w7 ho hb hg hat; rw [← LJ.out] at ho; have LK := ah (ho); replace HB := ah (hb); clear HO_4 ho hb hg hat))
       go_roundg k1
       case measure => have := jf.out; omega
       case rel => exact ⟨(y104), (wrap64 (bF + (rd l0 fH))), (wrap64 (fH + 1)), (by first | rfl | (simp; done) | (simp [*]; done)), (by first | rfl | (simp; done) | (simp [*]; done)), H', ⟨by have := jf.out; omega⟩, ⟨by (repeat with_reducible refine Kd.kJ ?_); exact LK.out⟩, ⟨by repeat (first | (with_reducible first | exact HB.out | apply ak | apply au | apply aC) | exact HB.out)⟩⟩
      rw [if_neg c6] at H
      exact absurd H (by simp)
     replace c5 := Bool.eq_false_iff.mpr c5
     subst c5
     have H1 : (some (([] : List Int), 1)) = some (r1, r2) := by rw [if_neg (show ¬ (false = true) by decide)] at H; exact H
     clear H
     have H := H1
     clear H1
     simp only [Option.some.injEq, Prod.mk.injEq] at H
     obtain ⟨rfl, rfl⟩ := H
     have eX : 0 ≤ (fH : Int) := aiI (by assumption)
     have eY : fH < (l0.length : Int) := aiI (by assumption)
     obtain ⟨jU, jK, bP⟩ := Kd.fA HR0.out fH eX eY
     cases jK
     replace bP := (HB.out.cell (World.block_lt_of_cell? w _ bP)).trans bP
     replace eX := eq_true eX
     replace eY := eq_true eY
     go_wp2_with (first | ((with_reducible refine bH (f := 171) rfl ?_); refine eH (some 18) Try.func171 #[.int .i64 bF, .int .i64 (rd l0 fH)] ?_; (with_reducible refine (tidepoleref07_Fits.calls bF (rd l0 fH) false _ A4.out).mono ?_); rintro e w' ⟨rfl, ⟨nd, rfl⟩⟩; refine ⟨_, rfl, ?_⟩; clear A4))
     go_ret2
     exact ⟨_, by first | rfl | (simp [aT, aU] <;> rfl) | (simp [*, aT, aU] <;> rfl), by first | exact Kd.dY _ _ _ _ _ | exact Kd.gI _ _ _ _ _ | exact Kd.gJ _ _ _ _ _ | exact Kd.gB _ _ _ _ _ | exact Kd.gG _ _ _ _ _, by repeat (first | (with_reducible first | exact HB.out | apply ak | apply au | apply aC) | exact HB.out)⟩
    rw [if_neg c3] at H
    exact absurd H (by simp)
   rw [if_neg c2] at H
   have c2b0 : decide (fH < (l0.length : Int)) = false := aiK c2
   clear c2
   simp only [Option.some.injEq, Prod.mk.injEq] at H
   obtain ⟨rfl, rfl⟩ := H
   go_wp2
   go_ret2
   exact ⟨_, by first | rfl | (simp [aT, aU] <;> rfl) | (simp [*, aT, aU] <;> rfl), by (repeat with_reducible refine Kd.kJ ?_); exact HO_4.out, by repeat (first | (with_reducible first | exact HB.out | apply ak | apply au | apply aC) | exact HB.out)⟩
end Go.Proofs.Ytooiccpmngmapaa.P
namespace Go.Proofs.Ytooiccpmngmapaa.P
open Go.RowKit Go.Proofs.YtooiccpmngmapaaW.PrintWords Go.Proofs.YtooiccpmngmapaaW.PrintLast Go.Proofs.YtooiccpmngmapaaW.PrintMore
def fF : Int → List Int → Option (List Int)
 | _, [] => some []
 | a, d :: r => if i64 (a + d) then (fF (a + d) r).map (fun o => (a + d) :: o) else none
def jc : Int → List Int → Option (List Int)
 | _, [] => some []
 | a, v :: r => if i64 (v - a) then (jc v r).map (fun o => (v - a) :: o) else none
theorem TN {a d : Int} (ha : i64 a) (hd : i64 d) : ((decide ((wrap64 (a + d)) > a)) == (decide (d > 0))) = decide (i64 (a + d)) := by
 unfold i64 at *
 by_cases h : -9223372036854775808 ≤ a + d ∧ a + d ≤ 9223372036854775807
 ·rw [aiJ h, eu h.1 h.2]
  by_cases hp : d > 0
  ·have : a + d > a := by omega
   simp [hp, this]
  ·have : ¬ a + d > a := by omega
   simp [hp, this]
 ·rw [aiK h]
  by_cases hp : d > 0
  ·have : ¬ wrap64 (a + d) > a := by unfold wrap64; omega
   simp [hp, this]
  ·have : wrap64 (a + d) > a := by unfold wrap64; omega
   simp [hp, this]
theorem QB {a d : Int} (ha : i64 a) (hd : i64 d) : ((decide ((wrap64 (a - d)) < a)) == (decide (d > 0))) = decide (i64 (a - d)) := by
 unfold i64 at *
 by_cases h : -9223372036854775808 ≤ a - d ∧ a - d ≤ 9223372036854775807
 ·rw [aiJ h, eu h.1 h.2]
  by_cases hp : d > 0
  ·have : a - d < a := by omega
   simp [hp, this]
  ·have : ¬ a - d < a := by omega
   simp [hp, this]
 ·rw [aiK h]
  by_cases hp : d > 0
  ·have : ¬ wrap64 (a - d) < a := by unfold wrap64; omega
   simp [hp, this]
  ·have : wrap64 (a - d) < a := by unfold wrap64; omega
   simp [hp, this]
theorem Hz (l : List Int) (hw : ∀ x ∈ l, i64 x) (hl : l.length < 17592186044416) : ∀ (d k i : Nat) (acc : List Int) (a : Int), l.length - i = d → d < k → i ≤ l.length → acc.length = i → i64 a →
    pairs_Absolute.l0 k acc a l (l.length : Int) (i : Int) = some (match fF a (l.drop i) with | some o => (acc ++ o, 0) | none => ([], 28)) := by
  intro d
  induction d with
  | zero =>
    intro k i acc a hd hk hi ha hwa
    obtain ⟨k, rfl⟩ : ∃ m, k = m + 1 := ⟨k - 1, by omega⟩
    simp only [pairs_Absolute.l0]
    rw [if_neg (by omega), drop_end (by omega)]
    simp [fF]
  | succ d ih =>
    intro k i acc a hd hk hi ha hwa
    obtain ⟨k, rfl⟩ : ∃ m, k = m + 1 := ⟨k - 1, by omega⟩
    have hlt : i < l.length := by omega
    have hwd : i64 l[i] := hw _ (List.getElem_mem hlt)
    simp only [pairs_Absolute.l0]
    rw [if_pos (by omega), if_pos (by omega), if_pos (by omega), qC hlt, drop_at hlt]
    simp only [pairs_add.f, Option.bind_some]
    rw [TN hwa hwd]
    by_cases hs : i64 (a + l[i])
    · rw [if_pos (by simpa using hs), if_pos (by omega), uZ hs, wrap_succ (by omega), ih k (i + 1) _ _ (by omega) (by omega) (by omega) (by simp [ha]) hs]
      simp only [fF, if_pos hs]
      cases fF (a + l[i]) (l.drop (i + 1)) <;> simp
    · rw [if_neg (by simpa using hs)]
      simp only [fF, if_neg hs]
theorem DW (l : List Int) (hw : ∀ x ∈ l, i64 x) (hl : l.length < 17592186044416) (k : Nat) (hk : l.length < k) :
  pairs_Absolute.f k l = some (match fF 0 l with | some o => (o, 0) | none => ([], 28)) := by
 unfold pairs_Absolute.f
 have h := Hz l hw hl l.length k 0 [] 0 (by omega) hk (by omega) rfl (by unfold i64; omega)
 rw [List.drop_zero] at h
 exact h
theorem LV (l : List Int) (hw : ∀ x ∈ l, i64 x) (hl : l.length < 17592186044416) : ∀ (d k i : Nat) (acc : List Int) (a : Int), l.length - i = d → d < k → i ≤ l.length → acc.length = i → i64 a →
    pairs_Deltas.l0 k acc a l (l.length : Int) (i : Int) = some (match jc a (l.drop i) with | some o => (acc ++ o, 0) | none => ([], 28)) := by
  intro d
  induction d with
  | zero =>
    intro k i acc a hd hk hi ha hwa
    obtain ⟨k, rfl⟩ : ∃ m, k = m + 1 := ⟨k - 1, by omega⟩
    simp only [pairs_Deltas.l0]
    rw [if_neg (by omega), drop_end (by omega)]
    simp [jc]
  | succ d ih =>
    intro k i acc a hd hk hi ha hwa
    obtain ⟨k, rfl⟩ : ∃ m, k = m + 1 := ⟨k - 1, by omega⟩
    have hlt : i < l.length := by omega
    have hwd : i64 l[i] := hw _ (List.getElem_mem hlt)
    simp only [pairs_Deltas.l0]
    rw [if_pos (by omega), if_pos (by omega), if_pos (by omega), qC hlt, drop_at hlt]
    simp only [pairs_less.f, Option.bind_some]
    rw [QB hwd hwa]
    by_cases hs : i64 (l[i] - a)
    · rw [if_pos (by simpa using hs), if_pos (by omega), uZ hs, wrap_succ (by omega), ih k (i + 1) _ _ (by omega) (by omega) (by omega) (by simp [ha]) hwd]
      simp only [jc, if_pos hs]
      cases jc l[i] (l.drop (i + 1)) <;> simp
    · rw [if_neg (by simpa using hs)]
      simp only [jc, if_neg hs]
theorem QC (l : List Int) (hw : ∀ x ∈ l, i64 x) (hl : l.length < 17592186044416) (k : Nat) (hk : l.length < k) :
  pairs_Deltas.f k l = some (match jc 0 l with | some o => (o, 0) | none => ([], 28)) := by
 unfold pairs_Deltas.f
 have h := LV l hw hl l.length k 0 [] 0 (by omega) hk (by omega) rfl (by unfold i64; omega)
 rw [List.drop_zero] at h
 exact h
theorem kW : ∀ (l : List Int) (a : Int) (o : List Int), fF a l = some o → o.length = l.length
  | [], a, o, h => by simp [fF] at h; subst h; rfl
  | d :: r, a, o, h => by
    simp only [fF] at h
    split at h
    · cases h2 : fF (a + d) r with
      | none => rw [h2] at h; cases h
      | some o2 => rw [h2] at h; simp at h; subst h; simp [kW r _ _ h2]
    · cases h
theorem BQ : ∀ (l : List Int) (a : Int) (o : List Int), fF a l = some o → ∀ x ∈ o, i64 x
  | [], a, o, h => by simp [fF] at h; subst h; simp
  | d :: r, a, o, h => by
    simp only [fF] at h
    split at h
    · rename_i hs
      cases h2 : fF (a + d) r with
      | none => rw [h2] at h; cases h
      | some o2 =>
        rw [h2] at h; simp at h; subst h
        intro x hx
        rcases List.mem_cons.1 hx with rfl | hx
        · exact hs
        · exact BQ r _ _ h2 x hx
    · cases h
theorem VH {a d : Int} (ha : i64 a) (hd : i64 d) : tidepoleref07_Fits.f a d = some (decide (i64 (a + d))) := by
 unfold tidepoleref07_Fits.f
 unfold i64 at ha hd
 by_cases h : d ≥ 0
 ·rw [if_pos h, eu (by omega) (by omega)]
  congr 1
  rw [decide_eq_decide]; unfold i64; omega
 ·rw [if_neg h, eu (by omega) (by omega)]
  congr 1
  rw [decide_eq_decide]; unfold i64; omega
theorem Dv (l : List Int) (hw : ∀ x ∈ l, i64 x) (hl : l.length < 17592186044416) : ∀ (d k i : Nat) (acc : List Int) (a : Int), l.length - i = d → d < k → i ≤ l.length → acc.length = i → i64 a →
    tidepoleref07_Absolute.l0 k l acc a (i : Int) = some (match fF a (l.drop i) with | some o => (acc ++ o, 0) | none => ([], 1)) := by
  intro d
  induction d with
  | zero =>
    intro k i acc a hd hk hi ha hwa
    obtain ⟨k, rfl⟩ : ∃ m, k = m + 1 := ⟨k - 1, by omega⟩
    simp only [tidepoleref07_Absolute.l0]
    rw [if_neg (by omega), drop_end (by omega)]
    simp [fF]
  | succ d ih =>
    intro k i acc a hd hk hi ha hwa
    obtain ⟨k, rfl⟩ : ∃ m, k = m + 1 := ⟨k - 1, by omega⟩
    have hlt : i < l.length := by omega
    have hwd : i64 l[i] := hw _ (List.getElem_mem hlt)
    simp only [tidepoleref07_Absolute.l0]
    rw [if_pos (by omega), if_pos (by omega), qC hlt, drop_at hlt, VH hwa hwd]
    simp only [Option.bind_some]
    by_cases hs : i64 (a + l[i])
    · rw [if_pos (by simpa using hs), if_pos (by omega), uZ hs, wrap_succ (by omega), ih k (i + 1) _ _ (by omega) (by omega) (by omega) (by simp [ha]) hs]
      simp only [fF, if_pos hs]
      cases fF (a + l[i]) (l.drop (i + 1)) <;> simp
    · rw [if_neg (by simpa using hs)]
      simp only [fF, if_neg hs]
theorem FU (l : List Int) (hw : ∀ x ∈ l, i64 x) (hl : l.length < 17592186044416) (k : Nat) (hk : l.length < k) :
  tidepoleref07_Absolute.f k l = some (match fF 0 l with | some o => (o, 0) | none => ([], 1)) := by
 unfold tidepoleref07_Absolute.f
 have h := Dv l hw hl l.length k 0 [] 0 (by omega) hk (by omega) rfl (by unfold i64; omega)
 rw [List.drop_zero] at h
 exact h
open Go.Shelf
def DX (g : Nat) (cap : Array Value) (p : Int → Bool) (w : World) : Prop :=
 ∀ (W : World) (x : Int), Below w.heap.size w W → Calls Try.prog g (#[.int .i64 x] ++ cap) W fun e w' => e = .returned (.bool (p x)) ∧ Below W.heap.size W w'
set_option maxHeartbeats 2000000 in
theorem Ad (g : Nat) (cap : Array Value) (p : Int → Bool) (A : Option Addr) (c : Nat) (l : List Int) (w : World)
    (hr : Kd.C (Kd.int .i64) w A l.length l) (hc : l.length ≤ c) (hm : l.length ≤ 9223372036854775807) (hp : DX g cap p w) (eg : ∀ args w, (callFunc g args).run Try.prog w = .ok (.enter g args) w) :
    Calls Try.prog 180 #[.slice A l.length c, .func (.func g) #[] cap] w fun e w' => e = .returned (.int .i64 (wH p l)) ∧ Below w.heap.size w w' := by
  have HR := ah hr
  have HP := ah hp
  clear hr hp
  go_enter Try.func180, Try.ntmps180
  go_wp2
  go_loopg [5, 8] l.length (fun gg _ s8 wr => ∃ kk : Nat, kk ≤ l.length ∧ l.length - kk ≤ gg ∧ s8 = .int .i64 kk ∧ aj (Below w.heap.size w wr) ∧ aj (∀ j (hj : j < kk) (hj2 : j < l.length), p l[j] = false))
  case atStart => exact ⟨0, Nat.zero_le _, by omega, rfl, ⟨Below.refl _ w⟩, ⟨fun j hj => absurd hj (Nat.not_lt_zero _)⟩⟩
  case round =>
    obtain ⟨kk, hkk, hg, rfl, HB, HA⟩ := hrel
    by_cases hlt : kk < l.length
    · have hlti : (kk : Int) < (l.length : Int) := by omega
      obtain ⟨ad, e1, hx0⟩ := Kd.fA HR.out kk (by omega) (by omega)
      cases e1
      replace hx0 := (HB.out.cell (World.block_lt_of_cell? w _ hx0)).trans hx0
      have hrd : rd l (kk : Int) = l[kk] := by unfold rd; simp [List.getD, hlt]
      rw [hrd, Int.toNat_natCast] at hx0
      have hcall := HP.out wr l[kk] HB.out
      generalize hy : l[kk] = y at hx0 hcall
      have HY := ah hy
      clear hy hrd
      cases hq : p y with
      | true =>
        rw [hq] at hcall
        have HQ := ah hq
        clear hq
        have HC := ah hcall
        clear hcall
        go_wp2_with (go_at_fn g; refine HC.out.mono ?_; rintro e w' ⟨rfl, hb'⟩)
        go_ret
        refine ⟨?_, HB.out.trans (hb'.mono HB.out.size)⟩
        rw [Bv p l kk hlt (by rw [HY.out]; exact HQ.out) (fun j hj => HA.out j hj (by omega))]; rfl
      | false =>
        rw [hq] at hcall
        have HQ := ah hq
        clear hq
        have HC := ah hcall
        clear hcall
        go_wp2_with (go_at_fn g; refine HC.out.mono ?_; rintro e w' ⟨rfl, hb'⟩)
        go_roundg (l.length - (kk + 1))
        case measure => omega
        case rel =>
          refine ⟨kk + 1, by omega, by omega, by go_num, ⟨HB.out.trans (hb'.mono HB.out.size)⟩, ⟨fun j hj hj2 => ?_⟩⟩
          by_cases e : j = kk
          · subst e
            rw [HY.out]; exact HQ.out
          · exact HA.out j (by omega) hj2
    · have hlti : ¬ (kk : Int) < (l.length : Int) := by omega
      have hk : kk = l.length := by omega
      go_wp2
      go_ret
      refine ⟨?_, HB.out⟩
      rw [zK p l (fun j hj => HA.out j (by omega) hj)]; rfl
theorem FV (p : Int → Bool) (l : List Int) : decide (wH p l ≥ 0) = l.any p := by
 rcases KX p l with ⟨h1, h2⟩ | ⟨i, h, h1, h2⟩
 ·rw [h1, Bool.eq_iff_iff, decide_eq_true_iff]
  constructor
  ·intro h; omega
  ·intro h
   obtain ⟨x, hx, hp⟩ := List.any_eq_true.1 h
   rw [List.find?_eq_none] at h2
   exact absurd hp (h2 x hx)
 ·rw [h1, Bool.eq_iff_iff, decide_eq_true_iff]
  constructor
  ·intro _; exact List.any_eq_true.2 ⟨_, List.getElem_mem h, by have := List.find?_some h2; exact this⟩
  ·intro _; omega
set_option maxHeartbeats 2000000 in
theorem qG (g : Nat) (cap : Array Value) (p : Int → Bool) (A : Option Addr) (c : Nat) (l : List Int) (w : World)
  (hr : Kd.C (Kd.int .i64) w A l.length l) (hc : l.length ≤ c) (hm : l.length ≤ 9223372036854775807) (hp : DX g cap p w) (eg : ∀ args w, (callFunc g args).run Try.prog w = .ok (.enter g args) w) :
  Calls Try.prog 167 #[.slice A l.length c, .func (.func g) #[] cap] w fun e w' => e = .returned (.bool (l.any p)) ∧ Below w.heap.size w w' := by
 have H := ah (Ad g cap p A c l w hr hc hm hp eg)
 have HE := ah (FV p l)
 clear hr hp
 generalize wH p l = ix at H HE
 go_enter Try.func167, Try.ntmps167
 go_wp2_with (go_at_call 180; refine H.out.mono ?_; rintro e w' ⟨rfl, hb'⟩)
 go_ret
 exact ⟨by rw [← HE.out]; rfl, hb'⟩
theorem NV (l : List Sp) (hm : l.length ≤ 1024) (hp : ∀ s ∈ l, 0 ≤ s.f1 ∧ s.f1 ≤ 4096) : ∀ (d k i : Nat), l.length - i = d → d < k → i ≤ l.length → 0 ≤ nT (l.take i) → nT (l.take i) ≤ 4096 * i →
    span_Count.l0 k (nT (l.take i)) l (l.length : Int) (i : Int) = some (nT l) := by
  intro d
  induction d with
  | zero =>
    intro k i hd hk hi h0 h1
    obtain ⟨k, rfl⟩ : ∃ m, k = m + 1 := ⟨k - 1, by omega⟩
    rw [span_Count.l0, if_neg (by omega), List.take_of_length_le (by omega)]
  | succ d ih =>
    intro k i hd hk hi h0 h1
    obtain ⟨k, rfl⟩ : ∃ m, k = m + 1 := ⟨k - 1, by omega⟩
    have hlt : i < l.length := by omega
    have hs := hp _ (List.getElem_mem hlt)
    have e : nT (l.take (i + 1)) = nT (l.take i) + l[i].f1 := by rw [take_at hlt, wJ]
    rw [span_Count.l0, if_pos (by omega), if_pos (by omega), if_pos (by omega), BH hlt, wrap_succ (by omega), eu (by omega) (by omega), ← e]
    exact ih k (i + 1) (by omega) (by omega) (by omega) (by omega) (by omega)
theorem count_eq (l : List Sp) (hw : lK l) (k : Nat) (hk : 2048 < k) : span_Count.f k l = some (if fZ l = 0 then nT l else 0) := by
 unfold span_Count.f
 rw [BI l hw k hk, Option.bind_some]
 by_cases h : fZ l = 0
 ·have h0 := jW h
  rw [if_pos h, if_pos h]
  exact NV l h0.1 (fun s hs => nU l _ _ _ h0.2 s hs) l.length k 0 (by omega) (by omega) (by omega) (by simp [nT]) (by simp [nT])
 ·rw [if_neg h, if_neg h]
def dU (l : List Sp) (d : List Int) : List Pr × Int :=
 if fZ l = 0 then (if nT l = d.length then (match fF 0 d with | none => ([], 28) | some c => if c.any (fun x => decide (x < 0)) = true then ([], 22) else (List.zipWith (fun p x => (⟨p, x⟩ : Pr)) (uP 0 l) c, 0)) else ([], 23)) else ([], fZ l)
instance (l : List Sp) : Decidable (lK l) := by unfold lK aaf; exact inferInstance
def FW (l : List Int) : Prop := ∀ x ∈ l, i64 x
instance (l : List Int) : Decidable (FW l) := by unfold FW; exact inferInstance
def hist_side.f (l0 : List Sp) (l1 : List Int) : Option (List Pr × Int) := if lK l0 ∧ FW l1 ∧ l1.length < 4398046511104 then some (dU l0 l1) else none
set_option maxRecDepth 100000 in
theorem PI (W : World) (x : Int) :
  Calls Try.prog 168 (#[.int .i64 x] ++ #[]) W fun e w' => e = .returned (.bool (decide (x < 0))) ∧ Below W.heap.size W w' := by
 show Calls Try.prog 168 #[.int .i64 x] W _
 go_enter Try.func168, Try.ntmps168
 go_wp2
 go_ret
 exact ⟨rfl, Below.refl _ _⟩
set_option maxHeartbeats 8000000 in
set_option maxRecDepth 100000 in
theorem hist_side.calls (A0 : Option Addr) (c0 : Nat) (l0 : List Sp) (A1 : Option Addr) (c1 : Nat) (l1 : List Int) (r1 : List Pr) (r2 : Int) (w : World) (hr0 : Kd.C jE w A0 l0.length l0) (hc0 : l0.length ≤ c0) (hr1 : Kd.C (Kd.int .i64) w A1 l1.length l1) (hc1 : l1.length ≤ c1) (h : hist_side.f l0 l1 = some (r1, r2)) :
    Calls Try.prog 132 #[.slice A0 l0.length c0, .slice A1 l1.length c1] w fun e w' => ∃ lY : Value, e = .returned (.tuple #[lY, .int .i64 r2]) ∧ Kd.R jI 173 w' w.heap.size (fun _ => True) lY r1 ∧ Below w.heap.size w w' := by
  obtain ⟨⟨hw, hi, hm⟩, h2⟩ := lN h
  clear h
  obtain ⟨K, hK⟩ : ∃ K, K = l1.length + 5200 := ⟨_, rfl⟩
  have HRA := ah (And.intro hr0 hr1)
  have HCA := ah (And.intro hc0 hc1)
  have HCk := ah (BI l0 hw K (by omega))
  have HCt := ah (count_eq l0 hw K (by omega))
  have HAb := ah (DW l1 hi (by omega) K (by omega))
  have HW := ah hw
  have HM := ah (And.intro hm hK)
  have H := ah h2
  clear hr0 hr1 hc0 hc1 hw hi h2 hm hK
  unfold dU at H
  by_cases he : fZ l0 = 0
  rotate_left
  · have H := H.out
    rw [if_neg he] at H
    injection H with h4 h5
    subst h4; subst h5
    have he1 : (fZ l0 == 0) = false := beq_eq_false_iff_ne.2 he
    have he2 : (fZ l0 != 0) = true := bne_iff_ne.2 he
    clear he
    generalize fZ l0 = e0 at *
    go_enter Try.func132, Try.ntmps132
    go_wp2_with (go_at_call 164; (with_reducible refine (span_Check.calls K _ _ l0 e0 _ HRA.out.1 HCA.out.1 HCk.out).mono ?_); rintro e w1 ⟨rfl, hb⟩; have HB := ah hb; clear hb)
    go_ret2
    exact ⟨_, rfl, Kd.dY _ _ _ _ _, HB.out⟩
  · rw [if_pos he] at H
    rw [he] at HCk
    rw [if_pos he] at HCt
    have HP := ah he
    clear he
    generalize hn : nT l0 = n at H HCt
    have HN := ah hn
    clear hn
    by_cases hc : n = (l1.length : Int)
    rotate_left
    · have H := H.out
      rw [if_neg hc] at H
      injection H with h4 h5
      subst h4; subst h5
      have hc1 : (n == (l1.length : Int)) = false := beq_eq_false_iff_ne.2 hc
      have hc2 : (n != (l1.length : Int)) = true := bne_iff_ne.2 hc
      clear hc
      go_enter Try.func132, Try.ntmps132
      go_wp2_with (first | (go_at_call 164; (with_reducible refine (span_Check.calls K _ _ l0 0 _ HRA.out.1 HCA.out.1 HCk.out).mono ?_); rintro e w1 ⟨rfl, hb⟩; have HB := ah hb; clear hb) | (go_at_call 165; (with_reducible refine (span_Count.calls K _ _ l0 n _ (Kd.bM HRA.out.1 HB.out) HCA.out.1 HCt.out).mono ?_); rintro e w2 ⟨rfl, hb⟩; have HB2 := ah (aH HB.out HB.out.size hb); clear hb))
      go_ret2
      exact ⟨_, rfl, Kd.dY _ _ _ _ _, HB2.out⟩
    · rw [if_pos hc] at H
      have hc1 : (n == (l1.length : Int)) = true := beq_iff_eq.2 hc
      have hc2 : (n != (l1.length : Int)) = false := by rw [bne, hc1]; rfl
      have HNL := ah hc
      clear hc
      have HSL := ah (kW l1 0)
      cases hs : fF 0 l1 with
      | none =>
        rw [hs] at H HAb
        have H := H.out
        injection H with h4 h5
        subst h4; subst h5
        clear hs
        obtain ⟨cs, hcs⟩ : ∃ cs : List Int, cs = [] := ⟨_, rfl⟩
        obtain ⟨e3, he3⟩ : ∃ e : Int, e = 28 := ⟨_, rfl⟩
        replace HAb := ah (show pairs_Absolute.f K l1 = some (cs, e3) by rw [hcs, he3]; exact HAb.out)
        subst he3
        clear hcs
        go_enter Try.func132, Try.ntmps132
        go_wp2_with (first | (go_at_call 164; (with_reducible refine (span_Check.calls K _ _ l0 0 _ HRA.out.1 HCA.out.1 HCk.out).mono ?_); rintro e w1 ⟨rfl, hb⟩; have HB := ah hb; clear hb) | (go_at_call 165; (with_reducible refine (span_Count.calls K _ _ l0 n _ (Kd.bM HRA.out.1 HB.out) HCA.out.1 HCt.out).mono ?_); rintro e w2 ⟨rfl, hb⟩; have HB2 := ah (aH HB.out HB.out.size hb); clear hb) | (go_at_call 166; (with_reducible refine (pairs_Absolute.calls K _ _ l1 cs _ _ (Kd.bM HRA.out.2 HB2.out) HCA.out.2 HAb.out).mono ?_); rintro e w3 ⟨v3, rfl, ho3, hb⟩; have HB3 := ah (aH HB2.out HB2.out.size hb); obtain ⟨A3, c3, rfl, hc3, Xg⟩ := Kd.qo ho3; have Eo := ah (And.intro hc3 Xg); clear ho3 Xg hc3 hb))
        go_ret2
        exact ⟨_, rfl, Kd.dY _ _ _ _ _, HB3.out⟩
      | some cs =>
        rw [hs] at H HAb
        have hlen := HSL.out cs hs
        have HL := ah hlen
        have HL3 := ah (show cs.length ≤ 9223372036854775807 by have := HM.out.1; omega)
        clear hs hlen
        obtain ⟨e3, he3⟩ : ∃ e : Int, e = 0 := ⟨_, rfl⟩
        replace HAb := ah (show pairs_Absolute.f K l1 = some (cs, e3) by rw [he3]; exact HAb.out)
        subst he3
        cases hany : cs.any (fun x => decide (x < 0)) with
        | true =>
          have H := H.out
          simp only [hany, if_true] at H
          injection H with h4 h5
          subst h4; subst h5
          go_enter Try.func132, Try.ntmps132
          go_wp2_with (first | (go_at_call 164; (with_reducible refine (span_Check.calls K _ _ l0 0 _ HRA.out.1 HCA.out.1 HCk.out).mono ?_); rintro e w1 ⟨rfl, hb⟩; have HB := ah hb; clear hb) | (go_at_call 165; (with_reducible refine (span_Count.calls K _ _ l0 n _ (Kd.bM HRA.out.1 HB.out) HCA.out.1 HCt.out).mono ?_); rintro e w2 ⟨rfl, hb⟩; have HB2 := ah (aH HB.out HB.out.size hb); clear hb) | (go_at_call 166; (with_reducible refine (pairs_Absolute.calls K _ _ l1 cs _ _ (Kd.bM HRA.out.2 HB2.out) HCA.out.2 HAb.out).mono ?_); rintro e w3 ⟨v3, rfl, ho3, hb⟩; have HB3 := ah (aH HB2.out HB2.out.size hb); obtain ⟨A3, c3, rfl, hc3, Xg⟩ := Kd.qo ho3; have Eo := ah (And.intro hc3 Xg); clear ho3 Xg hc3 hb) | (go_at_call 167; (refine (qG 168 #[] (fun x => decide (x < 0)) _ _ cs _ Eo.out.2 Eo.out.1 HL3.out (fun W x _ => PI W x) (enters_of Try.func168 (by kernel_rfl) rfl)).mono ?_); rintro e w4 ⟨rfl, hb⟩; rw [hany]; have HB4 := ah (aH HB3.out HB3.out.size hb); have HC4 := ah (Kd.bM Eo.out.2 hb); clear hb))
          go_ret2
          exact ⟨_, rfl, Kd.dY _ _ _ _ _, HB4.out⟩
        | false =>
          have H := H.out
          simp only [hany, Bool.false_eq_true, if_false] at H
          injection H with h4 h5
          obtain ⟨zs, hz⟩ : ∃ zs, zs = List.zipWith (fun p x => (⟨p, x⟩ : Pr)) (uP 0 l0) cs := ⟨_, rfl⟩
          have HZ := ah (show pairs_Zip_int64.f K l0 cs = some (zs, 0) by
            rw [Yd l0 cs HW.out K (by have := HM.out.2; omega)]
            unfold NU
            have hpl : (uP 0 l0).length = cs.length := by
              have h1 := rD l0 0 (fun s hs => (nU l0 _ _ _ (jW HP.out).2 s hs).1)
              have := HN.out; have := HNL.out; have := HL.out
              omega
            rw [if_pos HP.out, if_pos hpl, hz])
          rw [← hz] at h4
          subst h4; subst h5
          clear hz
          go_enter Try.func132, Try.ntmps132
          go_wp2_with (first | (go_at_call 164; (with_reducible refine (span_Check.calls K _ _ l0 0 _ HRA.out.1 HCA.out.1 HCk.out).mono ?_); rintro e w1 ⟨rfl, hb⟩; have HB := ah hb; clear hb) | (go_at_call 165; (with_reducible refine (span_Count.calls K _ _ l0 n _ (Kd.bM HRA.out.1 HB.out) HCA.out.1 HCt.out).mono ?_); rintro e w2 ⟨rfl, hb⟩; have HB2 := ah (aH HB.out HB.out.size hb); clear hb) | (go_at_call 166; (with_reducible refine (pairs_Absolute.calls K _ _ l1 cs _ _ (Kd.bM HRA.out.2 HB2.out) HCA.out.2 HAb.out).mono ?_); rintro e w3 ⟨v3, rfl, ho3, hb⟩; have HB3 := ah (aH HB2.out HB2.out.size hb); obtain ⟨A3, c3, rfl, hc3, Xg⟩ := Kd.qo ho3; have Eo := ah (And.intro hc3 Xg); clear ho3 Xg hc3 hb) | (go_at_call 167; (refine (qG 168 #[] (fun x => decide (x < 0)) _ _ cs _ Eo.out.2 Eo.out.1 HL3.out (fun W x _ => PI W x) (enters_of Try.func168 (by kernel_rfl) rfl)).mono ?_); rintro e w4 ⟨rfl, hb⟩; rw [hany]; have HB4 := ah (aH HB3.out HB3.out.size hb); have HC4 := ah (Kd.bM Eo.out.2 hb); clear hb) | (go_at_call 169; (with_reducible refine (pairs_Zip_int64.calls K _ _ l0 _ _ cs zs 0 _ (Kd.bM HRA.out.1 HB4.out) HCA.out.1 HC4.out Eo.out.1 HZ.out).mono ?_); rintro e w5 ⟨v5, rfl, Xh, hb⟩; have LW := ah (aH HB4.out HB4.out.size hb); have Ye := ah (Kd.bV Xh HB4.out.size); clear Xh hb))
          go_ret2
          exact ⟨_, rfl, Ye.out, LW.out⟩
theorem QD (x y : Int) (hx : 0 ≤ x) (hy : 0 ≤ y) (w : World) : (callFunc 122 #[.int .u64 x, .int .u64 y, .int .u64 0]).run Try.prog w =
  .ok (.value (.tuple #[.int .u64 ((x + y) % 18446744073709551616), .int .u64 ((x + y) / 18446744073709551616)])) w := by
 rw [run_callFunc_extern Try.func122 (by kernel_rfl) (by kernel_rfl) (by kernel_rfl) (e := add64Entry) (by kernel_rfl), run_add64 x y 0 hx hy (by decide) (by decide)]
 simp only [Result.andThen, Int.add_zero]
def kF (l : List Pr) : Int := (l.map (·.f1)).sum
def sK (rs : List (List Pr)) : Int := (rs.map kF).sum
theorem QE {l : List Pr} {i : Nat} (h : i < l.length) : kF (l.take (i + 1)) = kF (l.take i) + l[i].f1 := by
 unfold kF; rw [take_at h, List.map_append, List.sum_append]; simp only [List.map_cons, List.map_nil, List.sum_cons, List.sum_nil, Int.add_zero]
theorem QF {l : List (List Pr)} {i : Nat} (h : i < l.length) : sK (l.take (i + 1)) = sK (l.take i) + kF l[i] := by
 unfold sK; rw [take_at h, List.map_append, List.sum_append]; simp only [List.map_cons, List.map_nil, List.sum_cons, List.sum_nil, Int.add_zero]
theorem FX {l : List Int} (h : ∀ x ∈ l, 0 ≤ x) : 0 ≤ l.sum := by
 induction l with
 | nil => simp
 | cons x l ih => have := ih (fun y hy => h y (List.mem_cons_of_mem _ hy)); have := h x (List.mem_cons_self ..); simp; omega
theorem qh {l : List Pr} (h : ∀ p ∈ l, 0 ≤ p.f1) : 0 ≤ kF l := FX (by intro x hx; obtain ⟨p, hp, rfl⟩ := List.mem_map.1 hx; exact h p hp)
theorem BR {l : List Pr} (h : ∀ p ∈ l, 0 ≤ p.f1) (i : Nat) : 0 ≤ kF (l.take i) ∧ kF (l.take i) ≤ kF l := by
 have e : kF l = kF (l.take i) + kF (l.drop i) := by
  have : l = l.take i ++ l.drop i := (List.take_append_drop i l).symm
  conv => lhs; rw [this]
  unfold kF; rw [List.map_append, List.sum_append]
 have h1 := qh (l := l.take i) (fun p hp => h p (List.mem_of_mem_take hp))
 have h2 := qh (l := l.drop i) (fun p hp => h p (List.mem_of_mem_drop hp))
 omega
theorem JU {l : List (List Pr)} (h : ∀ r ∈ l, ∀ p ∈ r, 0 ≤ p.f1) (i : Nat) : 0 ≤ sK (l.take i) ∧ sK (l.take i) ≤ sK l := by
 have hn : ∀ (l : List (List Pr)), (∀ r ∈ l, ∀ p ∈ r, 0 ≤ p.f1) → 0 ≤ sK l := fun l h => FX (by intro x hx; obtain ⟨p, hp, rfl⟩ := List.mem_map.1 hx; exact qh (h p hp))
 have e : sK l = sK (l.take i) + sK (l.drop i) := by
  have : l = l.take i ++ l.drop i := (List.take_append_drop i l).symm
  conv => lhs; rw [this]
  unfold sK; rw [List.map_append, List.sum_append]
 have h1 := hn (l.take i) (fun p hp => h p (List.mem_of_mem_take hp))
 have h2 := hn (l.drop i) (fun p hp => h p (List.mem_of_mem_drop hp))
 omega
def nC (zc : Int) (rows : List (List Pr)) : Int × Bool := if zc + sK rows ≤ 18446744073709551615 then (zc + sK rows, true) else (0, false)
def TP (w : World) (B : Nat) (rows : List (List Pr)) : Prop :=
 ∀ i (h : i < rows.length), ∃ A c, w.cell? ⟨B, i, none⟩ = some (.slice A rows[i].length c) ∧ rows[i].length ≤ c ∧ Kd.C jI w A rows[i].length rows[i]
set_option maxHeartbeats 8000000 in
set_option maxRecDepth 100000 in
theorem uz (s z zc ct sm : Int) (a5 a6 a7 a8 : Option Addr) (n5 n6 n7 n8 c5 c6 c7 c8 : Nat) (B cp : Nat) (rows : List (List Pr)) (w : World)
  (hzc : u64 zc) (hp : ∀ r ∈ rows, ∀ p ∈ r, 0 ≤ p.f1 ∧ p.f1 ≤ 9223372036854775807) (hl : ∀ r ∈ rows, r.length ≤ 4611686018427387904) (hl2 : rows.length ≤ 4611686018427387904) (hcp : rows.length ≤ cp) (hr : TP w B rows) :
  Calls Try.prog 133 #[.agg #[.int .i64 s, .int .u64 z, .int .u64 zc, .int .u64 ct, .int .u64 sm, .slice a5 n5 c5, .slice a6 n6 c6, .slice a7 n7 c7, .slice a8 n8 c8], .slice (some ⟨B, 0, none⟩) rows.length cp] w fun e w' => e = .returned (.tuple #[.int .u64 (nC zc rows).1, .bool (nC zc rows).2]) ∧ Below w.heap.size w w' := by
 have hu := Try.underlying29
 have hpu := Try.underlying173
 have HZ := ah hzc
 have HP := ah hp
 have HL := ah hl
 have HL2 := ah (And.intro hl2 hcp)
 have HR := ah hr
 have HT := ah (fun i => JU (l := rows) (fun r hr p hp2 => (hp r hr p hp2).1) i)
 clear hzc hp hl hl2 hcp hr
 go_enter Try.func133, Try.ntmps133
 go_wp2
 go_loopg [6, 16] rows.length (fun gg v6 v16 wr => ∃ i : Nat, v6 = .int .u64 (zc + sK (rows.take i)) ∧ v16 = .int .i64 (i : Int) ∧ aj (i + gg = rows.length) ∧ aj (Below w.heap.size w wr) ∧ aj (zc + sK (rows.take i) ≤ 18446744073709551615))
 case atStart => exact ⟨0, by simp [sK], rfl, ⟨by omega⟩, ⟨ak (Below.refl _ _) _⟩, ⟨by have := HZ.out.2; simpa [sK] using this⟩⟩
 case round =>
  obtain ⟨i, rfl, rfl, HI, HB, HS⟩ := hrel
  by_cases hlt : i < rows.length
  ·have hlti : (i : Int) < (rows.length : Int) := by omega
   have hi0 : (0 : Int) ≤ (i : Int) := by omega
   obtain ⟨A, c, hc, hcl, hC⟩ := HR.out i hlt
   replace hc := (HB.out.cell (World.block_lt_of_cell? w _ hc)).trans hc
   have HC := ah (And.intro hcl hC)
   have hmem : rows[i] ∈ rows := List.getElem_mem hlt
   have HP2 := ah (And.intro (HP.out _ hmem) (HL.out _ hmem))
   have HSR := ah (QF hlt)
   generalize rows[i] = row at hc HC HP2 HSR
   clear hmem hcl hC
   obtain ⟨ko, rfl⟩ : ∃ ko, gk = ko + 1 := ⟨gk - 1, by have := HI.out; omega⟩
   go_wp2
   go_loopg [6, 22] row.length (fun gj v6 v22 wj => ∃ j : Nat, v6 = .int .u64 (zc + sK (rows.take i) + kF (row.take j)) ∧ v22 = .int .i64 (j : Int) ∧ aj (j + gj = row.length) ∧ aj (Below w.heap.size w wj) ∧ aj (zc + sK (rows.take i) + kF (row.take j) ≤ 18446744073709551615))
   case atStart => exact ⟨0, by simp [kF], rfl, ⟨by omega⟩, HB, ⟨by have := HS.out; simpa [kF] using this⟩⟩
   case round =>
    obtain ⟨j, rfl, rfl, HJ, HBj, HSj⟩ := hrel
    by_cases hltj : j < row.length
    ·have hltji : (j : Int) < (row.length : Int) := by omega
     have hj0 : (0 : Int) ≤ (j : Int) := by omega
     obtain ⟨k1, rfl⟩ : ∃ k1, gk = k1 + 1 := ⟨gk - 1, by have := HJ.out; omega⟩
     obtain ⟨ad, e1, hx0, hx1⟩ := qA (Kd.bM HC.out.2 HBj.out) (j : Int) hj0 hltji
     cases e1
     rw [BO hltj, Int.toNat_natCast] at hx0 hx1
     have hq := HP2.out.1 _ (List.getElem_mem hltj)
     have HV := ah (QE hltj)
     have hT := HT.out (i + 1)
     have hTi := HT.out i
     have hV := BR (l := row) (fun p hp => (HP2.out.1 p hp).1) (j + 1)
     have hV0 := BR (l := row) (fun p hp => (HP2.out.1 p hp).1) j
     have hz := HZ.out
     generalize row[j] = x at hx0 hx1 HV hq
     have hcv : IntKind.u64.wrap x.f1 = x.f1 := by
      have : IntKind.u64.wrap x.f1 = x.f1 % 18446744073709551616 := rfl
      rw [this]; omega
     obtain ⟨acc, hacc⟩ : ∃ acc, acc = zc + sK (rows.take i) + kF (row.take j) := ⟨_, rfl⟩
     rw [← hacc]
     have hs := HSj.out
     rw [← hacc] at hs
     have ha0 : 0 ≤ acc := by have := hz.1; omega
     have hadd := fun w => QD acc x.f1 ha0 hq.1 w
     by_cases hov : acc + x.f1 ≤ 18446744073709551615
     ·have e1 : (acc + x.f1) % 18446744073709551616 = acc + x.f1 := by omega
      have e2 : (acc + x.f1) / 18446744073709551616 = 0 := by omega
      simp only [e1, e2] at hadd
      have HA := ah (And.intro hacc hov)
      clear e1 e2 hacc hov ha0 hs hz hV hV0 hT hTi hq
      go_wp2_with (simp only [hcv, hadd])
      go_roundg k1
      case measure => omega
      case rel =>
       refine ⟨j + 1, ?_, by rw [wrap_succ (by have := HP2.out.2; omega)], ⟨by have := HJ.out; omega⟩, ⟨ak HBj.out _⟩, ⟨?_⟩⟩
       ·rw [HV.out, HA.out.1]; congr 1; omega
       ·have h1 := HA.out.1; have h2 := HA.out.2; have h3 := HV.out; omega
     ·have e1 : (acc + x.f1) / 18446744073709551616 = 1 := by omega
      simp only [e1] at hadd
      have HF := ah (show nC zc rows = (0, false) by
       unfold nC
       rw [if_neg]
       have h3 := HV.out
       have h4 := HSR.out
       omega)
      clear e1 hacc hov ha0 hs hz hV hV0 hT hTi hq
      go_wp2_with (simp only [hcv, hadd])
      go_ret2
      exact ⟨by rw [HF.out]; rfl, ak HBj.out _⟩
    ·have hltji : ¬ (j : Int) < (row.length : Int) := by omega
     have HE := ah (show zc + sK (rows.take i) + kF (row.take j) = zc + sK (rows.take (i + 1)) by rw [HSR.out, List.take_of_length_le (l := row) (i := j) (by omega)]; omega)
     go_wp2
     go_roundg ko
     case measure => omega
     case rel =>
      refine ⟨i + 1, by rw [HE.out], by rw [wrap_succ (by have := HL2.out.1; omega)], ⟨by have := HI.out; omega⟩, ⟨HBj.out⟩, ⟨by rw [← HE.out]; exact HSj.out⟩⟩
  ·have hlti : ¬ (i : Int) < (rows.length : Int) := by omega
   have HF := ah (show nC zc rows = (zc + sK (rows.take i), true) by
    unfold nC
    have := HS.out
    rw [List.take_of_length_le (l := rows) (i := i) (by omega)] at this ⊢
    rw [if_pos this])
   go_wp2
   go_ret2
   exact ⟨by rw [HF.out]; rfl, HB.out⟩
attribute [local go_sem] jh ji jR jS iI iJ jk jl
def hist_NaN.f (a0 : Int) : Option (Bool) := some (decide ((Go.bits .andNot .u64 a0 9223372036854775808) > 9218868437227405312))
set_option maxHeartbeats 8000000 in
set_option maxRecDepth 100000 in
theorem hist_NaN.calls (a0 : Int) (r : Bool) (w : World) (h : hist_NaN.f a0 = some r) :
  Calls Try.prog 130 #[.int .u64 a0] w fun e w' => e = .returned (.bool r) ∧ bW w w' := by
 have H : (some (decide ((Go.bits .andNot .u64 a0 9223372036854775808) > 9218868437227405312))) = some r := h
 clear h
 obtain rfl := Option.some.inj H
 go_enter Try.func130, Try.ntmps130
 go_wp2
 go_ret
 exact ⟨by first | rfl | (simp; done) | (simp [*]; done), by repeat (first | exact bW.refl _ | apply bW.step)⟩
def hist_Threshold.f (a0 : Int) : Option (Bool) := some (decide (a0 < 9218868437227405312))
set_option maxHeartbeats 8000000 in
set_option maxRecDepth 100000 in
theorem hist_Threshold.calls (a0 : Int) (r : Bool) (w : World) (h : hist_Threshold.f a0 = some r) :
  Calls Try.prog 131 #[.int .u64 a0] w fun e w' => e = .returned (.bool r) ∧ bW w w' := by
 have H : (some (decide (a0 < 9218868437227405312))) = some r := h
 clear h
 obtain rfl := Option.some.inj H
 go_enter Try.func131, Try.ntmps131
 go_wp2
 go_ret
 exact ⟨by first | rfl | (simp; done) | (simp [*]; done), by repeat (first | exact bW.refl _ | apply bW.step)⟩
def hist_lay.f (k : Nat) (l0 : List (gy)) : Option ((List (dP)) × List Int × Int) := (pairs_Unzip_int64.f k l0).bind fun kY => (if kY.2.2 = 0 then ((pairs_Deltas.f k kY.2.1).bind fun yP => (if yP.2 = 0 then (some (kY.1, yP.1, 0)) else (some (([] : List (dP)), ([] : List Int), yP.2)))) else (some (([] : List (dP)), ([] : List Int), kY.2.2)))
set_option maxHeartbeats 8000000 in
set_option maxRecDepth 100000 in
theorem hist_lay.calls (k : Nat) (A0 : Option Addr) (c0 : Nat) (l0 : List (gy)) (r1 : List (dP)) (r2 : List Int) (r3 : Int) (w : World) (hr0 : Kd.C jI w A0 l0.length l0) (hc0 : l0.length ≤ c0) (h : hist_lay.f k l0 = some (r1, r2, r3)) :
  Calls Try.prog 125 #[.slice A0 l0.length c0] w fun e w' => ∃ lY KL : Value, e = .returned (.tuple #[lY, KL, .int .i64 r3]) ∧ Kd.R jE 113 w' w.heap.size (fun _ => True) lY r1 ∧ Kd.R (Kd.int .i64) 2 w' w.heap.size (fun _ => True) KL r2 ∧ Below w.heap.size w w' := by
 have HR0 := ah hr0
 have tK := ah hc0
 clear hr0 hc0
 have HB := ah (Below.refl w.heap.size w)
 have H : ((pairs_Unzip_int64.f k l0).bind fun kY => (if kY.2.2 = 0 then ((pairs_Deltas.f k kY.2.1).bind fun yP => (if yP.2 = 0 then (some (kY.1, yP.1, 0)) else (some (([] : List (dP)), ([] : List Int), yP.2)))) else (some (([] : List (dP)), ([] : List Int), kY.2.2)))) = some (r1, r2, r3) := h
 clear h
 replace H := Option.bind_eq_some_iff.mp H
 obtain ⟨⟨dV, eP, eG⟩, sV, H⟩ := H
 replace H : (if eG = 0 then ((pairs_Deltas.f k eP).bind fun yP => (if yP.2 = 0 then (some (dV, yP.1, 0)) else (some (([] : List (dP)), ([] : List Int), yP.2)))) else (some (([] : List (dP)), ([] : List Int), eG))) = some (r1, r2, r3) := H
 have A2 := ah sV
 clear sV
 by_cases c3 : eG = 0
 ·rw [if_pos c3] at H
  have c3b0 : (eG == 0) = true := beq_iff_eq.mpr c3
  have c3b1 : (eG != 0) = false := bne_eq_false_iff_eq.mpr c3
  clear c3
  replace H := Option.bind_eq_some_iff.mp H
  obtain ⟨⟨FY, t109⟩, PG, H⟩ := H
  replace H : (if t109 = 0 then (some (dV, FY, 0)) else (some (([] : List (dP)), ([] : List Int), t109))) = some (r1, r2, r3) := H
  have A4 := ah PG
  clear PG
  by_cases c5 : t109 = 0
  ·rw [if_pos c5] at H
   have c5b0 : (t109 == 0) = true := beq_iff_eq.mpr c5
   have c5b1 : (t109 != 0) = false := bne_eq_false_iff_eq.mpr c5
   clear c5
   simp only [Option.some.injEq, Prod.mk.injEq] at H
   obtain ⟨rfl, rfl, rfl⟩ := H
   go_enter Try.func125, Try.ntmps125
   go_wp2_with (first | ((with_reducible refine bH (f := 162) rfl ?_); refine eH (some 11) Try.func162 #[.slice A0 l0.length c0] ?_; (with_reducible refine (pairs_Unzip_int64.calls k _ _ l0 dV eP eG _ ?dw ?dA A2.out).mono ?_); (case dw => exact Kd.jT HR0.out); (case dA => exact tK.out); rintro e w6 ⟨yJ, Ep, rfl, ho0, ho1, hb⟩; refine ⟨_, rfl, ?_⟩; have eF := ah (Kd.bV ho0 (aI (aX HB.out))); have jo := ah (Kd.bV ho1 (aI (aX HB.out))); replace HB := ah (aW (aX HB.out) hb); (try clear hb); (try clear hb2); (try clear hk); (try clear hi); (try clear ho0); (try clear ho1); clear A2; obtain ⟨NR, KJ, VB⟩ := Kd.bY jo.out; subst VB) | ((with_reducible refine bH (f := 163) rfl ?_); refine eH (some 20) Try.func163 #[.slice NR eP.length KJ] ?_; (with_reducible refine (pairs_Deltas.calls k _ _ eP FY t109 _ ?dw ?dA A4.out).mono ?_); (case dw => exact Kd.jT (Kd.bD jo.out).2.2); (case dA => exact (Kd.bD jo.out).2.1); rintro e w8 ⟨sJ, rfl, ho0, hb⟩; refine ⟨_, rfl, ?_⟩; have gX := ah (Kd.bV (Kd.gq ho0 (Kd.jH (Kd.fB jo.out))) (aI (aX HB.out))); replace eF := ah (Kd.kE eF.out hb); replace jo := ah (Kd.dW (Kd.fB jo.out) (Kd.fP ho0) hb); replace HB := ah (aW (aX HB.out) hb); (try clear hb); (try clear hb2); (try clear hk); (try clear hi); (try clear ho0); clear A4))
   go_ret3
   exact ⟨_, _, by first | rfl | (simp [aT, aU] <;> rfl) | (simp [*, aT, aU] <;> rfl), by (repeat with_reducible refine Kd.kJ ?_); exact eF.out, by (repeat with_reducible refine Kd.kJ ?_); exact Kd.cu gX.out (fun _ hk => trivial), by repeat (first | (with_reducible first | exact HB.out | apply ak | apply au | apply aC) | exact HB.out)⟩
  rw [if_neg c5] at H
  have c5b0 : (t109 == 0) = false := beq_eq_false_iff_ne.mpr c5
  have c5b1 : (t109 != 0) = true := bne_iff_ne.mpr c5
  simp only [Option.some.injEq, Prod.mk.injEq] at H
  obtain ⟨rfl, rfl, rfl⟩ := H
  go_enter Try.func125, Try.ntmps125
  go_wp2_with (first | ((with_reducible refine bH (f := 162) rfl ?_); refine eH (some 11) Try.func162 #[.slice A0 l0.length c0] ?_; (with_reducible refine (pairs_Unzip_int64.calls k _ _ l0 dV eP eG _ ?dw ?dA A2.out).mono ?_); (case dw => exact Kd.jT HR0.out); (case dA => exact tK.out); rintro e w9 ⟨yJ, Ep, rfl, ho0, ho1, hb⟩; refine ⟨_, rfl, ?_⟩; have eF := ah (Kd.bV ho0 (aI (aX HB.out))); have jo := ah (Kd.bV ho1 (aI (aX HB.out))); replace HB := ah (aW (aX HB.out) hb); (try clear hb); (try clear hb2); (try clear hk); (try clear hi); (try clear ho0); (try clear ho1); clear A2; obtain ⟨tX, tY, LP⟩ := Kd.bY jo.out; subst LP) | ((with_reducible refine bH (f := 163) rfl ?_); refine eH (some 20) Try.func163 #[.slice tX eP.length tY] ?_; (with_reducible refine (pairs_Deltas.calls k _ _ eP FY t109 _ ?dw ?dA A4.out).mono ?_); (case dw => exact Kd.jT (Kd.bD jo.out).2.2); (case dA => exact (Kd.bD jo.out).2.1); rintro e VE ⟨sJ, rfl, ho0, hb⟩; refine ⟨_, rfl, ?_⟩; have gX := ah (Kd.bV (Kd.gq ho0 (Kd.jH (Kd.fB jo.out))) (aI (aX HB.out))); replace eF := ah (Kd.kE eF.out hb); replace jo := ah (Kd.dW (Kd.fB jo.out) (Kd.fP ho0) hb); replace HB := ah (aW (aX HB.out) hb); (try clear hb); (try clear hb2); (try clear hk); (try clear hi); (try clear ho0); clear A4))
  go_ret3
  exact ⟨_, _, by first | rfl | (simp [aT, aU] <;> rfl) | (simp [*, aT, aU] <;> rfl), by first | exact Kd.dY _ _ _ _ _ | exact Kd.gI _ _ _ _ _ | exact Kd.gJ _ _ _ _ _ | exact Kd.gB _ _ _ _ _ | exact Kd.gG _ _ _ _ _, by first | exact Kd.dY _ _ _ _ _ | exact Kd.gI _ _ _ _ _ | exact Kd.gJ _ _ _ _ _ | exact Kd.gB _ _ _ _ _ | exact Kd.gG _ _ _ _ _, by repeat (first | (with_reducible first | exact HB.out | apply ak | apply au | apply aC) | exact HB.out)⟩
 rw [if_neg c3] at H
 have c3b0 : (eG == 0) = false := beq_eq_false_iff_ne.mpr c3
 have c3b1 : (eG != 0) = true := bne_iff_ne.mpr c3
 simp only [Option.some.injEq, Prod.mk.injEq] at H
 obtain ⟨rfl, rfl, rfl⟩ := H
 go_enter Try.func125, Try.ntmps125
 go_wp2_with (first | ((with_reducible refine bH (f := 162) rfl ?_); refine eH (some 11) Try.func162 #[.slice A0 l0.length c0] ?_; (with_reducible refine (pairs_Unzip_int64.calls k _ _ l0 dV eP eG _ ?dw ?dA A2.out).mono ?_); (case dw => exact Kd.jT HR0.out); (case dA => exact tK.out); rintro e w12 ⟨yJ, Ep, rfl, ho0, ho1, hb⟩; refine ⟨_, rfl, ?_⟩; have eF := ah (Kd.bV ho0 (aI (aX HB.out))); have jo := ah (Kd.bV ho1 (aI (aX HB.out))); replace HB := ah (aW (aX HB.out) hb); (try clear hb); (try clear hb2); (try clear hk); (try clear hi); (try clear ho0); (try clear ho1); clear A2))
 go_ret3
 exact ⟨_, _, by first | rfl | (simp [aT, aU] <;> rfl) | (simp [*, aT, aU] <;> rfl), by first | exact Kd.dY _ _ _ _ _ | exact Kd.gI _ _ _ _ _ | exact Kd.gJ _ _ _ _ _ | exact Kd.gB _ _ _ _ _ | exact Kd.gG _ _ _ _ _, by first | exact Kd.dY _ _ _ _ _ | exact Kd.gI _ _ _ _ _ | exact Kd.gJ _ _ _ _ _ | exact Kd.gB _ _ _ _ _ | exact Kd.gG _ _ _ _ _, by repeat (first | (with_reducible first | exact HB.out | apply ak | apply au | apply aC) | exact HB.out)⟩
end Go.Proofs.Ytooiccpmngmapaa.P