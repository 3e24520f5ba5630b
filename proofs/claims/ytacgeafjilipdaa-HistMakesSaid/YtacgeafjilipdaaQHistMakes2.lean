/- HistMakes: the part that this text bears of the proof that the statement answers true for every input. No condition. -/
import Derived.Test.YtacgeafjilipdaaProg
import Derived.Below
import Derived.Deep.Draws
import Derived.Deep.AppendLies
import Derived.Maps.AppendAt
import Derived.OwnWalk
import Derived.Laws.BytesArg
import Derived.Laws.MakeOwn
import Derived.Laws.OwnMore
import Derived.Deep.OwnRows
import Derived.Tactics
import Derived.Lib.ConvBytes
import Derived.Laws.Slices
import Derived.WalkKit
import Derived.KernelRfl
import Derived.RowKit3
import Derived.Deep.LoopGhost
import Derived.Deep.QuietTactic
import Derived.BigQuiet
import Derived.WideLaws
import Derived.Deep.DeepCutAuto
import Derived.Deep.CutBlock
import Derived.Deep.RegionHeld3
import Derived.Laws.Rows
import Derived.Lib.AppendStr
import Derived.ArgAppend
import Derived.Laws.IdiomCopy
import Derived.OrdersHeld
import Derived.Laws.BitsLemmas
import Derived.RowKit
import Derived.Deep.Slices
import Derived.ChangeArms
import Derived.Shelf.Abstract
import Derived.WalkSpells
import Derived.RangeFuncNested
import Derived.RangeFuncBound
import Derived.RangeFuncCalls
import Derived.RangeFuncLeaves
import Derived.RangeFuncBox
import Derived.OwnWalkIn
import Derived.TacticsInMore
import Derived.LoopNIn
import Derived.LoopIn
import Derived.Laws.Externs
import Derived.Shelf.Spec.BitsCarry
import Derived.RegionIn
import Derived.Sort.QuietTacIn
import Derived.Deep.RegionWith
import Derived.Laws.BitsAllLaws
import Derived.ProofKit
import Derived.JoinedOf
import Derived.OpenShut
import Derived.ShutString
import Derived.ChangeOld
import Derived.SizedLaws
import Derived.Test.YtacgeafjilipdaaWWords
import Derived.Test.YtacgeafjilipdaaWLast
import Derived.Test.YtacgeafjilipdaaWTab
import Derived.Test.YtacgeafjilipdaaWQPut
import Derived.Test.YtacgeafjilipdaaWApart
import Derived.Test.YtacgeafjilipdaaWArr
import Derived.Test.YtacgeafjilipdaaWZeros
import Derived.Test.YtacgeafjilipdaaWFoot
import Derived.Test.YtacgeafjilipdaaWKept
import Derived.Test.YtacgeafjilipdaaWShare
import Derived.Test.YtacgeafjilipdaaWN
import Derived.Test.YtacgeafjilipdaaWEqStruct
import Derived.Test.YtacgeafjilipdaaWRepsOne
import Derived.Test.YtacgeafjilipdaaWInv
import Derived.Test.YtacgeafjilipdaaWGuard
import Derived.Test.YtacgeafjilipdaaWNEv
import Derived.Test.YtacgeafjilipdaaWMore
import Derived.Test.YtacgeafjilipdaaRows
import Derived.Test.YtacgeafjilipdaaQHistMakes0
import Derived.Test.YtacgeafjilipdaaQHistMakes1
namespace Go.Proofs.Ytacgeafjilipdaa.P
open Go.RowKit Go.Shelf Go.Proofs.YtacgeafjilipdaaW.PrintWords Go.Proofs.YtacgeafjilipdaaW.PrintLast Go.Proofs.YtacgeafjilipdaaW.PrintMore
set_option linter.unusedVariables false
set_option linter.unusedSimpArgs false
attribute [local go_sem] Oper.semAt_some
def spStep (l : List Pr) (s : List Int × Int × Nat) (p : Int) : List Int × Int × Nat :=
  if h : s.2.2 < l.length ∧ (l.getD s.2.2 ⟨0, 0⟩).f0 = p then (s.1 ++ [(l.getD s.2.2 ⟨0, 0⟩).f1 - s.2.1], (l.getD s.2.2 ⟨0, 0⟩).f1, s.2.2 + 1) else (s.1 ++ [-s.2.1], 0, s.2.2)
def spSt (l : List Pr) (ps : List Int) : List Int × Int × Nat := ps.foldl (spStep l) ([], 0, 0)
theorem spSt_snoc (l : List Pr) (ps : List Int) (p : Int) : spSt l (ps ++ [p]) = spStep l (spSt l ps) p := by unfold spSt; rw [List.foldl_append]; rfl
def cnts (l : List Pr) : Prop := ∀ p ∈ l, i64 p.f0 ∧ 0 ≤ p.f1 ∧ p.f1 ≤ 9223372036854775807
instance (l : List Pr) : Decidable (cnts l) := by unfold cnts; exact inferInstance
theorem spSt_ok {l : List Pr} (hl : cnts l) (ps : List Int) : (spSt l ps).1.length = ps.length ∧ 0 ≤ (spSt l ps).2.1 ∧ (spSt l ps).2.1 ≤ 9223372036854775807 ∧ (spSt l ps).2.2 ≤ l.length := by
  have : ∀ (ps : List Int) (s : List Int × Int × Nat), 0 ≤ s.2.1 ∧ s.2.1 ≤ 9223372036854775807 ∧ s.2.2 ≤ l.length → (ps.foldl (spStep l) s).1.length = s.1.length + ps.length ∧ 0 ≤ (ps.foldl (spStep l) s).2.1 ∧ (ps.foldl (spStep l) s).2.1 ≤ 9223372036854775807 ∧ (ps.foldl (spStep l) s).2.2 ≤ l.length := by
    intro ps
    induction ps with
    | nil => intro s hs; exact ⟨rfl, hs⟩
    | cons p ps ih =>
      intro s hs
      rw [List.foldl_cons]
      have hst : (spStep l s p).1.length = s.1.length + 1 ∧ 0 ≤ (spStep l s p).2.1 ∧ (spStep l s p).2.1 ≤ 9223372036854775807 ∧ (spStep l s p).2.2 ≤ l.length := by
        unfold spStep
        split
        · rename_i h
          have hm : l.getD s.2.2 ⟨0, 0⟩ ∈ l := by rw [List.getD_eq_getElem?_getD, List.getElem?_eq_getElem h.1]; exact List.getElem_mem _
          have := hl _ hm
          exact ⟨by simp, this.2.1, this.2.2, h.1⟩
        · exact ⟨by simp, by simp, by simp, hs.2.2⟩
      have := ih _ hst.2
      rw [hst.1] at this
      refine ⟨by rw [this.1, List.length_cons]; omega, this.2⟩
  have := this ps ([], 0, 0) (by simp)
  simpa [spSt] using this
def spreadRes (l : List Pr) (on : List Sp) : List Int × Bool := ((spSt l (plN 0 on)).1, decide ((spSt l (plN 0 on)).2.2 = l.length))
def hist_spread.f (l : List Pr) (on : List Sp) : Option (List Int × Bool) := if wfSps on ∧ spCheck on = 0 ∧ cnts l ∧ l.length ≤ 4096 then some (spreadRes l on) else none
theorem row_box {W : World} {base size k B : Nat} {e : TypeId} {v : Value} {xs : List Value} (h : W.ownsRow base e size v k xs) (hB : B < base) (u : Value) : (W.setCell ⟨B, 0, none⟩ u).ownsRow base e size v k xs :=
  h.kept (grownBy_setCell' W B u) (.inr (fun e' => by have := own_base h B e'; omega))
theorem keepR_box {n0 n1 B : Nat} (W : World) (hB : B < n0) (u : Value) : KeepR n0 n1 W (W.setCell ⟨B, 0, none⟩ u) :=
  ⟨by simp [World.setCell], fun q h0 h1 => Below.heap_setCell W ⟨B, 0, none⟩ u q (by show q ≠ B; omega)⟩
theorem box_new {W : World} {b : Nat} (h : W.heap.size = b) (t : TypeId) (v : Value) : Boxed (W.alloc (.cells #[v] t)) b t v := h ▸ Boxed.new W t v
theorem boxed_below {W W' : World} {B : Nat} {t : TypeId} {v : Value} (h : Boxed W B t v) (hb : Below W.heap.size W W') : Boxed W' B t v := (hb.block _ h.lt).trans h
theorem four_boxes (w : World) (t0 t1 t2 t3 : TypeId) (v0 v1 v2 v3 : Value) :
    Boxed ((((w.alloc (.cells #[v0] t0)).alloc (.cells #[v1] t1)).alloc (.cells #[v2] t2)).alloc (.cells #[v3] t3)) w.heap.size t0 v0 ∧
    Boxed ((((w.alloc (.cells #[v0] t0)).alloc (.cells #[v1] t1)).alloc (.cells #[v2] t2)).alloc (.cells #[v3] t3)) (w.heap.size + 1) t1 v1 ∧
    Boxed ((((w.alloc (.cells #[v0] t0)).alloc (.cells #[v1] t1)).alloc (.cells #[v2] t2)).alloc (.cells #[v3] t3)) (w.heap.size + 2) t2 v2 ∧
    Boxed ((((w.alloc (.cells #[v0] t0)).alloc (.cells #[v1] t1)).alloc (.cells #[v2] t2)).alloc (.cells #[v3] t3)) (w.heap.size + 3) t3 v3 :=
  ⟨(((Boxed.new w _ _).alloc _).alloc _).alloc _, ((box_new (by simp) _ _).alloc _).alloc _, (box_new (by simp) _ _).alloc _, box_new (by simp) _ _⟩
theorem one_new {W : World} {b : Nat} (h : W.heap.size = b) (v : Value) (t : TypeId) : ∀ (j : Nat) (u : Value), [v][j]? = some u → (W.alloc (.cells #[v] t)).cell? ((⟨b, 0, none⟩ : Addr).add j) = some u := h ▸ cell_one_new W v t
theorem spread_end {W w1 : World} {b0 base : Nat} {T0 T1 : TypeId} {v v' u0 : Value} {x3 : Int} {k m : Nat} {xs ys : List Value} {tmp : Obj} (y : Int)
    (hB0 : Boxed W b0 T0 u0) (hB1 : Boxed W (b0 + 1) T1 v) (hL : ∃ u, Boxed W (b0 + 2) 2 u) (hB3 : Boxed W (b0 + 3) 3 (.int .i64 x3)) (ht1 : T1 ≠ 2) (hrow : W.ownsRow base 2 1 v k xs) (hb : b0 + 4 ≤ base) (hn : base ≤ W.heap.size)
    (hown' : w1.ownsRow base 2 1 v' m ys) (hgrow : (W.alloc tmp).grownBy w1 v.ownBlock) :
    (Boxed w1 (b0 + 1) T1 v ∧ (∃ u, Boxed w1 (b0 + 2) 2 u)) ∧ (∃ u, Boxed (w1.setCell ⟨b0 + 1, 0, none⟩ v') (b0 + 2) 2 u) ∧
    Boxed ((w1.setCell ⟨b0 + 1, 0, none⟩ v').setCell ⟨b0 + 2, 0, none⟩ (.int .i64 y)) b0 T0 u0 ∧
    Boxed ((w1.setCell ⟨b0 + 1, 0, none⟩ v').setCell ⟨b0 + 2, 0, none⟩ (.int .i64 y)) (b0 + 1) T1 v' ∧
    Boxed ((w1.setCell ⟨b0 + 1, 0, none⟩ v').setCell ⟨b0 + 2, 0, none⟩ (.int .i64 y)) (b0 + 2) 2 (.int .i64 y) ∧
    Boxed ((w1.setCell ⟨b0 + 1, 0, none⟩ v').setCell ⟨b0 + 2, 0, none⟩ (.int .i64 y)) (b0 + 3) 3 (.int .i64 x3) ∧
    ((w1.setCell ⟨b0 + 1, 0, none⟩ v').setCell ⟨b0 + 2, 0, none⟩ (.int .i64 y)).ownsRow base 2 1 v' m ys ∧
    KeepsOthers W ((w1.setCell ⟨b0 + 1, 0, none⟩ v').setCell ⟨b0 + 2, 0, none⟩ (.int .i64 y)) ∧
    Below b0 W ((w1.setCell ⟨b0 + 1, 0, none⟩ v').setCell ⟨b0 + 2, 0, none⟩ (.int .i64 y)) ∧
    KeepR (b0 + 4) base W ((w1.setCell ⟨b0 + 1, 0, none⟩ v').setCell ⟨b0 + 2, 0, none⟩ (.int .i64 y)) := by
  have hne : ∀ q, q < base → some q ≠ v.ownBlock := fun q hq e => by have := own_base hrow q e.symm; omega
  have keep : ∀ {q : Nat} {t : TypeId} {u : Value}, q < base → Boxed W q t u → Boxed w1 q t u := fun hq h => (h.alloc tmp).kept hgrow (hne _ hq)
  obtain ⟨h1, h2, h3, h4, h5⟩ := hB1.appended (n₀ := b0) ht1 (own_weaken hrow (by omega)) (by omega) (by omega) (own_weaken hown' (by omega)) hgrow
  obtain ⟨uL, hL⟩ := hL
  have hr2 := row_box hown' (B := b0 + 1) (by omega) v'
  have hL1 := keep (by omega) hL
  have hL2 := hL1.other (B' := b0 + 1) (by omega) v'
  refine ⟨⟨h1, _, hL1⟩, ⟨_, hL2⟩, ((keep (by omega) hB0).other (by omega) _).other (by omega) _, h2.other (by omega) _, hL2.set _, ((keep (by omega) hB3).other (by omega) _).other (by omega) _, row_box hr2 (by omega) _, h4.trans (KeepsOthers.setCell _ _ _), h5.setCell (p := ⟨b0 + 2, 0, none⟩) (by show b0 ≤ b0 + 2; omega) _, ?_⟩
  exact (keepR_appended (v' := v') (B := b0 + 1) (n0 := b0 + 4) (by omega) hn hrow hgrow).trans (keepR_box _ (by omega) _)
set_option maxRecDepth 100000 in
set_option maxHeartbeats 8000000 in
theorem hist_spread.calls (A0 : Option Addr) (c0 : Nat) (l : List Pr) (A1 : Option Addr) (c1 : Nat) (on : List Sp) (r1 : List Int) (r2 : Bool) (w : World) (hr0 : Kd.C k26 w A0 l.length l) (hc0 : l.length ≤ c0) (hr1 : Kd.C k144 w A1 on.length on) (hc1 : on.length ≤ c1) (h : hist_spread.f l on = some (r1, r2)) :
    Calls Try.prog 151 #[.slice A0 l.length c0, .slice A1 on.length c1] w fun e w' => ∃ v0_ : Value, e = .returned (.tuple #[v0_, .bool r2]) ∧ Kd.R (Kd.int .i64) 2 w' w.heap.size (fun _ => True) v0_ r1 ∧ Below w.heap.size w w' := by
  obtain ⟨⟨hw, hck, hcn, hm⟩, h2⟩ := of_ite_some h
  clear h
  injection h2 with h4 h5
  subst h4; subst h5
  have hlen := places_len hck
  have hpl : placesAt 0 on = plN 0 on := placesAt_plN on _ _ _ (spCheck_zero hck).2
  have hon : on.length ≤ 1024 := (spCheck_zero hck).1
  have HCk := check_eq on hw 3000 (by omega)
  rw [hck] at HCk
  refine (callsIn_wide (n := 5)).1 ?_
  have hf1 : Fence.wide.fn 173 := trivial
  have hpu := Try.underlying26
  have HR0 := Aside0.mk (And.intro hr0 hc0)
  have HR1 := Aside0.mk (And.intro hr1 hc1)
  have HM := Aside0.mk (And.intro hm (And.intro hon (And.intro hlen hpl)))
  have HOK := Aside0.mk (fun ps => spSt_ok hcn ps)
  have HCN := Aside0.mk hcn
  have HCK := Aside0.mk HCk
  obtain ⟨i0, hi, hz0, hz1, hz2⟩ := info_parts info2
  clear hr0 hr1 hc0 hc1 hm hon hlen hpl hcn HCk hw hck
  refine callsIn_of_wp_marks Try.func151 rfl trivial ?_ rfl
  simp only [Try.ntmps151, List.size_toArray, List.length_cons, List.length_nil, Nat.reduceAdd, Nat.reduceSub, Array.replicate_succ, Array.replicate_zero, List.push_toArray, List.append_toArray, List.nil_append, List.cons_append]
  gi_wp2_with (first | (gi_at_call 173; refine (all_in _ (by omega) A1 c1 on _ (Kd.C_below HR1.out.1 (below_alloc (below_alloc (below_alloc (below_alloc (Below.refl _ _) _) _) _) _)) HR1.out.2 (by have := HM.out.2.1; omega)).mono ?_; rintro e w2 ⟨Bn, v, rfl, hS, hb2⟩; have HS := Aside0.mk hS; have HB2 := Aside0.mk hb2; clear hS hb2))
  have hsz : w.heap.size + 4 ≤ w2.heap.size := by have := HB2.out.size; simpa using this
  have h40 : Below w.heap.size w ((((w.alloc (Obj.cells #[Value.slice A0 l.length c0] 22)).alloc (Obj.cells #[Value.slice none 0 0] 28)).alloc (Obj.cells #[Value.int IntKind.i64 0] 2)).alloc (Obj.cells #[Value.int IntKind.i64 0] 3)) := below_alloc (below_alloc (below_alloc (below_alloc (Below.refl _ _) _) _) _) _
  have hBW : Below w.heap.size w w2 := below_then h40 (by simp; omega) HB2.out
  obtain ⟨g0', g1', g2', g3'⟩ := four_boxes w 22 28 2 3 (.slice A0 l.length c0) (.slice none 0 0) (.int .i64 0) (.int .i64 0)
  have g0 := boxed_below g0' HB2.out
  have g1 := boxed_below g1' HB2.out
  have g2 := boxed_below g2' HB2.out
  have g3 := boxed_below g3' HB2.out
  clear g0' g1' g2' g3'
  have hS2 : HoldsSp (w.heap.size + 4) w2.heap.size Bn v on w2 := by simpa using HS.out
  clear h40 HS
  refine wpIn_rangeFunc_ownG rfl (by omega) (gf := 190) (lb := #[.pointer (some ⟨Bn, 0, none⟩)]) rfl trivial (enters_of Try.func190 (by kernel_rfl) rfl)
    (all_stops _ (by omega) (w.heap.size + 4) Bn v on 3000 HCK.out (by have := HM.out.2.2.1; rw [HM.out.2.2.2]; omega) w2 hS2) KeepR.trans (KeepR.put (Nat.le_refl _)) (Below.refl _ _) (fun _ => rfl)
    (fun pre W => ((∃ v, Boxed W (w.heap.size + 1) 28 v ∧ W.ownsRow w2.heap.size 2 1 v pre.length ((spSt l (pre.map (·.2))).1.map (Value.int .i64)) ∧ True) ∧ (Boxed W w.heap.size 22 (.slice A0 l.length c0) ∧ Boxed W (w.heap.size + 2) 2 (.int .i64 (spSt l (pre.map (·.2))).2.1) ∧ Boxed W (w.heap.size + 3) 3 (.int .i64 (spSt l (pre.map (·.2))).2.2))) ∧ (Below w.heap.size w W ∧ w2.heap.size ≤ W.heap.size))
    (fun _ _ _ => False)
    (OwnFrom.and (OwnFrom.and (Own.from (holdsRow_own w2.heap.size (w.heap.size + 1) 28 2 1 (fun pre : List (Int × Int) => pre.length) (fun pre => (spSt l (pre.map (·.2))).1.map (Value.int .i64)) (fun pre v => True)) _) (OwnFrom.and (Own.from (boxed_own _ _ _) _) (OwnFrom.and (Own.from (boxed_own _ _ _) _) (Own.from (boxed_own _ _ _) _)))) (OwnFrom.and (ownFrom_below (Nat.le_refl _) (by omega)) (fun s A B row hs hg hr => Nat.le_trans hs hg.size)))
    (fun _ _ _ _ _ hs _ _ => hs)
    ⟨⟨⟨_, g1, World.ownsRow_nil _ _ _ _, trivial⟩, g0, g2, g3⟩, hBW, Nat.le_refl _⟩
    (fun x => { tmps := #[.slice A0 l.length c0, .slice A1 on.length c1, .pointer (some ⟨w.heap.size, 0, none⟩), undef, .slice none 0 0, .bool false, .pointer (some ⟨w.heap.size + 1, 0, none⟩), .pointer (some ⟨w.heap.size + 1 + 1, 0, none⟩), .pointer (some ⟨w.heap.size + 1 + 1 + 1, 0, none⟩), undef, .int .i64 x.2, undef, .slice A1 on.length c1, .func (.func 190) #[] #[.pointer (some ⟨Bn, 0, none⟩)], .int .i64 x.1, .int .i64 x.2, undef, undef, undef, undef, undef, undef, undef, undef, undef, undef, undef, undef, undef, undef, undef, undef, undef, undef, undef, undef, undef, undef, undef, undef, undef, undef, undef, undef, undef, undef, undef, undef], defers := [] }) ?assign ?body ?done ?stop
  case assign =>
    intro l x W K hK
    gi_wp2
    exact hK
  case body =>
    rintro lo pre x W ⟨⟨⟨v, hv, hrow, _⟩, hb0, hb2, hb3⟩, hB, hW2⟩ hlt
    have hL : pre.length < 4096 := by have h1 := HM.out.2.2.1; rw [HM.out.2.2.2] at hlt; omega
    have HSN := Aside0.mk (spSt_snoc l (pre.map (·.2)) x.2)
    have hok := HOK.out (pre.map (·.2))
    generalize hs : spSt l (pre.map (·.2)) = s at hrow hb2 hb3 HSN hok
    clear hs
    obtain ⟨so, sl, sk⟩ := s
    simp only [List.length_map] at hrow hb2 hb3 HSN hok
    have HV := Aside0.mk (And.intro hv (And.intro hrow (And.intro hb0 (And.intro hb2 hb3))))
    have HBB := Aside0.mk (And.intro hB hW2)
    have hc0 := hb0.cell
    have hc1 := hv.cell
    have hc2 : W.cell? ⟨w.heap.size + 1 + 1, 0, none⟩ = some (.int .i64 sl) := hb2.cell
    have hc3 : W.cell? ⟨w.heap.size + 1 + 1 + 1, 0, none⟩ = some (.int .i64 sk) := hb3.cell
    have hf3 : W.frozen? ⟨w.heap.size + 1 + 1 + 1, 0, none⟩ = false := hb3.frozen
    clear hv hrow hb0 hb2 hb3 hB hW2 g0 g1 g2 g3 hBW hS2
    have hs0 : 0 ≤ sl := hok.2.1
    have hW2 := HBB.out.2
    have hs1 : sl ≤ 9223372036854775807 := hok.2.2.1
    have hmap : (pre ++ [x]).map (·.2) = pre.map (·.2) ++ [x.2] := by simp
    have hS : KeepR (w.heap.size + 4) w2.heap.size W W := KeepR.refl _ _ _
    by_cases hk : sk < l.length
    · have hlti : (sk : Int) < (l.length : Int) := by omega
      have hk0 : (0 : Int) ≤ (sk : Int) := by omega
      have hsk : (sk : Int) ≤ 4096 := by have := HM.out.1; omega
      obtain ⟨ad, e1, hx0, hx1⟩ := at_T26 (Kd.C_below HR0.out.1 HBB.out.1) (sk : Int) hk0 hlti
      rw [rdPr_at hk, Int.toNat_natCast] at hx0 hx1
      have hy := HCN.out _ (List.getElem_mem hk)
      have hy0 := hy.2.1
      have hy1 := hy.2.2
      have HG := Aside0.mk (show l.getD sk ⟨0, 0⟩ = l[sk] by simp [List.getD, hk])
      generalize l[sk] = y at hx0 hx1 hy hy0 hy1 HG
      clear hy hok
      by_cases hp : y.f0 = x.2
      · have HF := Aside0.mk (show spSt l ((pre ++ [x]).map (·.2)) = (so ++ [y.f1 - sl], y.f1, sk + 1) by rw [hmap, HSN.out]; unfold spStep; simp only [HG.out]; rw [dif_pos ⟨hk, hp⟩])
        have hpe : (y.f0 == x.2) = true := beq_iff_eq.2 hp
        clear hp hk hmap
        subst e1
        obtain ⟨hv, hrow, hb0, hb2, hb3⟩ := HV.out
        have hrow1 := row_box hrow (B := w.heap.size + 1 + 1 + 1) (by omega) (.int .i64 ((sk : Int) + 1))
        have hv1 := hv.other (B' := w.heap.size + 1 + 1 + 1) (by omega) (.int .i64 ((sk : Int) + 1))
        have HV1 := Aside0.mk (And.intro hv1 (And.intro (hb0.other (B' := w.heap.size + 1 + 1 + 1) (by omega) (.int .i64 ((sk : Int) + 1))) (And.intro (hb2.other (B' := w.heap.size + 1 + 1 + 1) (by omega) (.int .i64 ((sk : Int) + 1))) (hb3.set (.int .i64 ((sk : Int) + 1))))))
        have HR1 := Aside0.mk hrow1
        clear hv hrow hb0 hb2 hb3 hrow1 hv1
        gi_wp2_with (gi_at_builtin; refine wpListIn_append_own _ rfl _ _ 28 rfl w2.heap.size 2 i0 (.int .i64 0) 1 8 Try.underlying28 hi hz0 hz1 hz2 rfl (by decide) _ _ _ rfl (HR1.out.alloc _) ⟨W.heap.size, 0, none⟩ 1 1 [.int .i64 (y.f1 - sl)] rfl rfl (one_new (by simp [World.setCell]) _ _) (by simp [Value.oneCell']) (by unfold maxLen; omega) (by omega) (by simp; omega) ?_; intro v' w3 hown' hgrow _; obtain ⟨g', cap', rfl⟩ := ownsRow_succ hown'; obtain ⟨⟨q1, q2⟩, q3, qr⟩ := spread_end (y.f1) HV1.out.2.1 HV1.out.1 ⟨_, HV1.out.2.2.1⟩ HV1.out.2.2.2 (by decide) HR1.out hsz (by have := HBB.out.2; simpa using this) hown' hgrow; have HQ := Aside0.mk qr; obtain ⟨u2, q2⟩ := q2; obtain ⟨u3, q3⟩ := q3; have hc1' := q1.cell; have hf1' := q1.frozen; have hc2' : (w3.setCell ⟨w.heap.size + 1, 0, none⟩ (.slice (some ⟨g', 0, none⟩) (pre.length + 1) cap')).cell? ⟨w.heap.size + 1 + 1, 0, none⟩ = some u3 := q3.cell; have hf2' : (w3.setCell ⟨w.heap.size + 1, 0, none⟩ (.slice (some ⟨g', 0, none⟩) (pre.length + 1) cap')).frozen? ⟨w.heap.size + 1 + 1, 0, none⟩ = false := q3.frozen; clear q1 q2 q3 qr hown' hgrow)
        have hQ := HQ.out
        refine ⟨((KeepsOthers.setCell _ _ _).trans hQ.2.2.2.2.2.1).from _, (keepR_box _ (by omega) _).trans hQ.2.2.2.2.2.2.2, ?_⟩
        simp only [HF.out]
        refine ⟨⟨⟨_, hQ.2.1, by simpa using hQ.2.2.2.2.1, trivial⟩, hQ.1, hQ.2.2.1, by simpa using hQ.2.2.2.1⟩, ?_, ?_⟩
        · exact HBB.out.1.trans (((Below.refl _ _).setCell (p := ⟨w.heap.size + 1 + 1 + 1, 0, none⟩) (by show w.heap.size ≤ w.heap.size + 1 + 1 + 1; omega) _).trans hQ.2.2.2.2.2.2.1)
        · have h1 := hQ.2.2.2.2.2.2.2.1; have h2 := HBB.out.2; simp only [World.setCell, Array.size_modify] at h1 ⊢; omega
      · have HF := Aside0.mk (show spSt l ((pre ++ [x]).map (·.2)) = (so ++ [-sl], 0, sk) by rw [hmap, HSN.out]; unfold spStep; rw [dif_neg (by simp only [HG.out]; exact fun h => hp h.2)])
        have hpe : (y.f0 == x.2) = false := beq_eq_false_iff_ne.2 hp
        clear hp hk hmap
        subst e1
        gi_wp2_with (gi_at_builtin; refine wpListIn_append_own _ rfl _ _ 28 rfl w2.heap.size 2 i0 (.int .i64 0) 1 8 Try.underlying28 hi hz0 hz1 hz2 rfl (by decide) _ _ _ rfl (HV.out.2.1.alloc _) ⟨W.heap.size, 0, none⟩ 1 1 [.int .i64 (-sl)] rfl rfl (cell_one_new _ _ _) (by simp [Value.oneCell']) (by unfold maxLen; omega) (by omega) (by simp; omega) ?_; intro v' w3 hown' hgrow _; obtain ⟨g', cap', rfl⟩ := ownsRow_succ hown'; obtain ⟨⟨q1, q2⟩, q3, qr⟩ := spread_end (0) HV.out.2.2.1 HV.out.1 ⟨_, HV.out.2.2.2.1⟩ HV.out.2.2.2.2 (by decide) HV.out.2.1 hsz (by have := HBB.out.2; simpa using this) hown' hgrow; have HQ := Aside0.mk qr; obtain ⟨u2, q2⟩ := q2; obtain ⟨u3, q3⟩ := q3; have hc1' := q1.cell; have hf1' := q1.frozen; have hc2' : (w3.setCell ⟨w.heap.size + 1, 0, none⟩ (.slice (some ⟨g', 0, none⟩) (pre.length + 1) cap')).cell? ⟨w.heap.size + 1 + 1, 0, none⟩ = some u3 := q3.cell; have hf2' : (w3.setCell ⟨w.heap.size + 1, 0, none⟩ (.slice (some ⟨g', 0, none⟩) (pre.length + 1) cap')).frozen? ⟨w.heap.size + 1 + 1, 0, none⟩ = false := q3.frozen; clear q1 q2 q3 qr hown' hgrow)
        have hQ := HQ.out
        refine ⟨hQ.2.2.2.2.2.1.from _, hQ.2.2.2.2.2.2.2, ?_⟩
        simp only [HF.out]
        refine ⟨⟨⟨_, hQ.2.1, by simpa using hQ.2.2.2.2.1, trivial⟩, hQ.1, hQ.2.2.1, hQ.2.2.2.1⟩, ?_, ?_⟩
        · exact HBB.out.1.trans hQ.2.2.2.2.2.2.1
        · exact Nat.le_trans HBB.out.2 hQ.2.2.2.2.2.2.2.1
    · have HF := Aside0.mk (show spSt l ((pre ++ [x]).map (·.2)) = (so ++ [-sl], 0, sk) by rw [hmap, HSN.out]; unfold spStep; rw [dif_neg (fun h => hk h.1)])
      have hlti : ¬ (sk : Int) < (l.length : Int) := by omega
      clear hk hmap hok
      gi_wp2_with (gi_at_builtin; refine wpListIn_append_own _ rfl _ _ 28 rfl w2.heap.size 2 i0 (.int .i64 0) 1 8 Try.underlying28 hi hz0 hz1 hz2 rfl (by decide) _ _ _ rfl (HV.out.2.1.alloc _) ⟨W.heap.size, 0, none⟩ 1 1 [.int .i64 (-sl)] rfl rfl (cell_one_new _ _ _) (by simp [Value.oneCell']) (by unfold maxLen; omega) (by omega) (by simp; omega) ?_; intro v' w3 hown' hgrow _; obtain ⟨g', cap', rfl⟩ := ownsRow_succ hown'; obtain ⟨⟨q1, q2⟩, q3, qr⟩ := spread_end (0) HV.out.2.2.1 HV.out.1 ⟨_, HV.out.2.2.2.1⟩ HV.out.2.2.2.2 (by decide) HV.out.2.1 hsz (by have := HBB.out.2; simpa using this) hown' hgrow; have HQ := Aside0.mk qr; obtain ⟨u2, q2⟩ := q2; obtain ⟨u3, q3⟩ := q3; have hc1' := q1.cell; have hf1' := q1.frozen; have hc2' : (w3.setCell ⟨w.heap.size + 1, 0, none⟩ (.slice (some ⟨g', 0, none⟩) (pre.length + 1) cap')).cell? ⟨w.heap.size + 1 + 1, 0, none⟩ = some u3 := q3.cell; have hf2' : (w3.setCell ⟨w.heap.size + 1, 0, none⟩ (.slice (some ⟨g', 0, none⟩) (pre.length + 1) cap')).frozen? ⟨w.heap.size + 1 + 1, 0, none⟩ = false := q3.frozen; clear q1 q2 q3 qr hown' hgrow)
      have hQ := HQ.out
      refine ⟨hQ.2.2.2.2.2.1.from _, hQ.2.2.2.2.2.2.2, ?_⟩
      simp only [HF.out]
      have hrr := hQ.2.2.2.2.1
      refine ⟨⟨⟨_, hQ.2.1, by first | exact ⟨by simpa using hrr, trivial⟩ | exact (by simpa using hrr)⟩, hQ.1, hQ.2.2.1, hQ.2.2.2.1⟩, ?_, ?_⟩
      · exact HBB.out.1.trans hQ.2.2.2.2.2.2.1
      · exact Nat.le_trans HBB.out.2 hQ.2.2.2.2.2.2.2.1
  case done =>
    rintro D ys W hD rfl ⟨⟨⟨v, hv, hrow, _⟩, hb0, hb2, hb3⟩, hB, hW2⟩ hK
    have hl := HM.out.2.2.2
    rw [hl] at hrow hb2 hb3
    have hnm : (numd (plN 0 on)).map (·.2) = plN 0 on := by
      have := numd_map (plN 0 on)
      unfold numd
      rw [List.map_map]
      have : ∀ (ps : List Int) (i : Nat), (ps.zipIdx i).map ((fun x : Int × Int => x.2) ∘ fun p : Int × Nat => (((p.2 : Nat) : Int), p.1)) = ps := by
        intro ps
        induction ps with
        | nil => intro i; rfl
        | cons p ps ih => intro i; simp only [List.zipIdx_cons, List.map_cons, ih, Function.comp]
      exact this _ 0
    rw [hnm] at hrow hb2 hb3
    have hok := HOK.out (plN 0 on)
    have HOKL := Aside0.mk hok.1
    generalize hs : spSt l (plN 0 on) = s at hrow hb2 hb3 hok HOKL
    obtain ⟨so, sl, sk⟩ := s
    have HSE := Aside0.mk hs
    simp only at hrow hb2 hb3 hok HOKL
    have HP := Aside0.mk (And.intro hrow hB)
    have hc0 := hb0.cell
    have hc1 := hv.cell
    have hc3 : W.cell? ⟨w.heap.size + 1 + 1 + 1, 0, none⟩ = some (.int .i64 sk) := hb3.cell
    have HKK := Aside0.mk hK
    clear hv hrow hb0 hb2 hb3 hB hok hs hK hnm hl g0 g1 g2 g3 hBW hS2
    gi_wp2
    gi_quiet_th (fail)
    gi_wp2
    refine ⟨by simp, .inl ⟨_, _, rfl, run_takeDeferred (by simpa using HKK.out), ?_⟩⟩
    have hr2 := ownsRow_putObj (W := W.drewN nq) HP.out.1 (.deferred none) (show (W.drewN nq).heap[D]? = _ from HKK.out) rfl
    rw [numd_length, ← HOKL.out] at hr2
    have hbq : ((sk : Int) == (l.length : Int)) = decide (sk = l.length) := by
      rw [Bool.eq_iff_iff, beq_iff_eq, decide_eq_true_eq]; omega
    refine ⟨_, results_tmp2 rfl _ _ _, v, by rw [HSE.out, ← hbq]; rfl, ?_, ?_⟩
    · rw [HSE.out]
      exact Kd.R_lower (Kd.R_of_own (enc := Value.int .i64) (h1 := fun _ => rfl) hr2 (fun _ _ => trivial)) (by omega)
    · exact (pw_below_drewN HP.out.2 nq).trans (belowK_b (w := w2) (by omega) (W.drewN nq) D _ _ hD (show (W.drewN nq).heap[D]? = _ from HKK.out) rfl rfl)
  case stop =>
    rintro D c pre W _ _ h _
    exact h.elim
end Go.Proofs.Ytacgeafjilipdaa.P
namespace Go.Proofs.Ytacgeafjilipdaa.P
open Go.RowKit Go.Shelf Go.Proofs.YtacgeafjilipdaaW.PrintWords Go.Proofs.YtacgeafjilipdaaW.PrintLast Go.Proofs.YtacgeafjilipdaaW.PrintMore
set_option linter.unusedVariables false
set_option linter.unusedSimpArgs false
def PredP_int64 (g : Nat) (cap : Array Value) (p : S26 → Bool) (w : World) : Prop :=
  ∀ (W : World) (x : S26), Below w.heap.size w W → Calls Try.prog g (#[.agg #[.int .i64 x.f0, .int .i64 x.f1]] ++ cap) W fun e w' => e = .returned (.bool (p x)) ∧ Below W.heap.size W w'
theorem rd_nat_int64 (l : List S26) (i : Nat) (h : i < l.length) : rd_T26 l (i : Int) = l[i] := by
  unfold rd_T26; simp [List.getD, h]
set_option maxHeartbeats 2000000 in
theorem indexFunc_pairs_int64 (g : Nat) (cap : Array Value) (p : S26 → Bool) (A : Option Addr) (c : Nat) (l : List S26) (w : World)
    (hr : Kd.C k26 w A l.length l) (hc : l.length ≤ c) (hm : l.length ≤ 9223372036854775807) (hp : PredP_int64 g cap p w) (eg : ∀ args w, (callFunc g args).run Try.prog w = .ok (.enter g args) w) :
    Calls Try.prog 123 #[.slice A l.length c, .func (.func g) #[] cap] w fun e w' => e = .returned (.int .i64 (idxP p l)) ∧ Below w.heap.size w w' := by
  have hu := Try.underlying26
  have HR := Aside0.mk hr
  have HP := Aside0.mk hp
  clear hr hp
  go_enter Try.func123, Try.ntmps123
  go_wp2
  go_loopg [5, 8] l.length (fun gg _ s8 wr => ∃ kk : Nat, kk ≤ l.length ∧ l.length - kk ≤ gg ∧ s8 = .int .i64 kk ∧ Aside0 (Below w.heap.size w wr) ∧ Aside0 (∀ j (hj : j < kk) (hj2 : j < l.length), p l[j] = false))
  case atStart => exact ⟨0, Nat.zero_le _, by omega, rfl, ⟨Below.refl _ w⟩, ⟨fun j hj => absurd hj (Nat.not_lt_zero _)⟩⟩
  case round =>
    obtain ⟨kk, hkk, hg, rfl, HB, HA⟩ := hrel
    by_cases hlt : kk < l.length
    · have hlti : (kk : Int) < (l.length : Int) := by omega
      obtain ⟨ad, e1, hx0, hx1⟩ := at_T26 HR.out kk (by omega) (by omega)
      cases e1
      replace hx0 := (HB.out.cell (World.block_lt_of_cell? w _ hx0)).trans hx0
      replace hx1 := (HB.out.cell (World.block_lt_of_cell? w _ hx1)).trans hx1
      rw [rd_nat_int64 l kk hlt, Int.toNat_natCast] at hx0 hx1
      have hcall := HP.out wr l[kk] HB.out
      generalize hy : l[kk] = y at hx0 hx1 hcall
      have HY := Aside0.mk hy
      clear hy
      cases hq : p y with
      | true =>
        rw [hq] at hcall
        have HQ := Aside0.mk hq
        clear hq
        have HC := Aside0.mk hcall
        clear hcall
        go_wp2_with (go_at_fn g; refine HC.out.mono ?_; rintro e w' ⟨rfl, hb'⟩)
        go_ret
        refine ⟨?_, HB.out.trans (hb'.mono HB.out.size)⟩
        rw [idxP_hit p l kk hlt (by rw [HY.out]; exact HQ.out) (fun j hj => HA.out j hj (by omega))]; rfl
      | false =>
        rw [hq] at hcall
        have HQ := Aside0.mk hq
        clear hq
        have HC := Aside0.mk hcall
        clear hcall
        go_wp2_with (go_at_fn g; refine HC.out.mono ?_; rintro e w' ⟨rfl, hb'⟩)
        go_roundg (l.length - (kk + 1))
        case measure => omega
        case rel =>
          refine ⟨kk + 1, by omega, by omega, by go_num, ⟨HB.out.trans (hb'.mono HB.out.size)⟩, ⟨fun j hj hj2 => ?_⟩⟩
          by_cases e : j = kk
          · subst e
            rw [HY.out]; exact HQ.out
          · exact HA.out j (by omega) hj2
    · have hlti : ¬ (kk : Int) < (l.length : Int) := by omega
      have hk : kk = l.length := by omega
      go_wp2
      go_ret
      refine ⟨?_, HB.out⟩
      rw [idxP_miss p l (fun j hj => HA.out j (by omega) hj)]; rfl
end Go.Proofs.Ytacgeafjilipdaa.P
namespace Go.Proofs.Ytacgeafjilipdaa.P
open Go.RowKit Go.Shelf Go.Proofs.YtacgeafjilipdaaW.PrintWords Go.Proofs.YtacgeafjilipdaaW.PrintLast Go.Proofs.YtacgeafjilipdaaW.PrintMore
set_option linter.unusedVariables false
set_option linter.unusedSimpArgs false
def slices_Clone_pair.f (l0 : List S26) : Option (List S26) := if l0.length < 8796093022208 then some l0 else none
set_option maxHeartbeats 2000000 in
set_option maxRecDepth 100000 in
theorem slices_Clone_pair.calls (A0 : Option Addr) (c0 : Nat) (l0 r : List S26) (w : World) (hr0 : Kd.C k26 w A0 l0.length l0) (hc0 : l0.length ≤ c0) (h : slices_Clone_pair.f l0 = some r) :
    Calls Try.prog 126 #[.slice A0 l0.length c0] w fun e w' => ∃ v0_ : Value, e = .returned (v0_) ∧ Kd.R k26 26 w' w.heap.size (fun _ => True) v0_ r ∧ Below w.heap.size w w' := by
  obtain ⟨hm, h2⟩ := of_ite_some h
  subst h2
  clear h
  have hu := Try.underlying22
  have HM := Aside0.mk hm
  clear hm
  cases A0 with
  | none =>
    have hl : l0 = [] := by
      rcases Nat.eq_zero_or_pos l0.length with h | h
      · exact List.length_eq_zero_iff.1 h
      · obtain ⟨ad, e, _⟩ := hr0.2.2 h
        cases e
    subst hl
    have hn : ∀ W n c, (binOp .eql 22 (.slice none n c) (.slice none 0 0)).run Try.prog W = .ok (.bool true) W := fun W n c => by
      exact Lib.run_eql_slice_nil W _ _ none n c 0 0 Try.underlying22
    go_enter Try.func126, Try.ntmps126
    go_wp2
    go_ret
    exact ⟨_, rfl, Kd.R_nil _ _ _ _ _, Below.refl _ _⟩
  | some ad =>
    have hn : ∀ W n c, (binOp .eql 22 (.slice (some ad) n c) (.slice none 0 0)).run Try.prog W = .ok (.bool false) W := fun W n c => by
      exact Lib.run_eql_slice_nil W _ _ (some ad) n c 0 0 Try.underlying22
    have HR := Aside0.mk hr0
    clear hr0
    go_enter Try.func126, Try.ntmps126
    go_wp2_with ((with_reducible refine gate_builtin (b := .append) (xs := #[.tmp 5, .tmp 6]) rfl ?_); at_builtin; refine Kd.R_append_rows k26 (w0 := w) (Rr := k26.K w) w.heap.size rfl (.tmp 5) (.tmp 6) 22 26 _ 16 rfl Try.underlying22 info26 rfl (by decide) (by omega) (.slice (some ⟨w.heap.size, 0, none⟩) 0 0) [] l0 (some ad) l0.length c0 (fun _ => True) (fun _ => False) rfl rfl ?aO ?aR ?aK (fun _ hk => hk.elim) (fun _ _ => trivial) ?aB ?aS ?aL ?_; (case aO => exact ⟨fun _ _ => trivial, [], ⟨rfl, .inr ⟨w.heap.size, 0, #[], rfl, Nat.le_refl _, by simpa using blk_new w _, Nat.le_refl _, by unfold maxLen; omega, rfl, rfl⟩⟩, Reps.none _ _⟩); (case aR => exact HR.out.imp_ (below_alloc (Below.refl _ _) _) (fun _ _ h => h)); (case aK => intro x cs hx; rw [k26_open hx]; exact k26_mkM _ _ _ x); (case aB => exact below_alloc (Below.refl _ _) _); (case aS => simp); (case aL => have := HM.out; simp; omega); intro v1 w1 ho hb hg hat; rw [List.nil_append] at ho; have HO := Aside0.mk ho; have HB := Aside0.mk hb; clear ho hb hg hat)
    go_ret
    exact ⟨_, rfl, HO.out, HB.out⟩
end Go.Proofs.Ytacgeafjilipdaa.P
namespace Go.Proofs.Ytacgeafjilipdaa.P
open Go.RowKit Go.Shelf Go.Proofs.YtacgeafjilipdaaW.PrintWords Go.Proofs.YtacgeafjilipdaaW.PrintLast Go.Proofs.YtacgeafjilipdaaW.PrintMore
set_option linter.unusedVariables false
set_option linter.unusedSimpArgs false
theorem flat_int64 : ∀ w w1 base ok x cs, k26.M w base ok x cs → k26.M w1 base ok x cs := fun w w1 base ok x cs h => by
  rw [k26_openM h]; exact k26_mkM _ _ _ x
theorem zero_int64 (n : Nat) : (Builtin.zeroCells (Value.agg #[.int .i64 0, .int .i64 0]).cells n).toList.length = n * 2 ∧ ∀ v ∈ (Builtin.zeroCells (Value.agg #[.int .i64 0, .int .i64 0]).cells n).toList, v.oneCell' = true := by
  have hc : (Value.agg #[.int .i64 0, .int .i64 0]).cells = #[.int .i64 0, .int .i64 0] := by kernel_rfl
  rw [hc]
  refine ⟨by simp [Builtin.zeroCells], fun v hv => ?_⟩
  simp only [Builtin.zeroCells, Array.toList_map, List.mem_map] at hv
  obtain ⟨i, _, rfl⟩ := hv
  have : i % 2 = 0 ∨ i % 2 = 1 := by omega
  rcases this with h | h <;> simp [h] <;> rfl
set_option maxHeartbeats 4000000 in
set_option maxRecDepth 100000 in
theorem deleteFunc_int64 (g : Nat) (cap : Array Value) (p : S26 → Bool) (w0 w : World) (v : Value) (xs : List S26)
    (HO : Kd.R k26 26 w w0.heap.size (fun _ => True) v xs) (HB : Below w0.heap.size w0 w) (hp : PredP_int64 g cap p w0) (eg : ∀ args w, (callFunc g args).run Try.prog w = .ok (.enter g args) w) :
    Calls Try.prog 125 #[v, .func (.func g) #[] cap] w fun e w' => ∃ v' : Value, e = .returned v' ∧ Kd.R k26 26 w' w0.heap.size (fun _ => True) v' (xs.filter (fun x => !p x)) ∧ Below w0.heap.size w0 w' := by
  have hu := Try.underlying26
  obtain ⟨A, c, rfl, hlc, hC⟩ := Kd.R_reads HO
  have hm : xs.length ≤ 9223372036854775807 := hC.2.1
  have HI := indexFunc_pairs_int64 g cap p A c xs w hC hlc hm (fun W x hb => hp W x (below_then HB HB.size hb)) eg
  have HX := idxP_cases p xs
  have HP := Aside0.mk hp
  clear hp
  generalize idxP p xs = ix at HI HX
  rcases HX with ⟨rfl, hfil⟩ | ⟨i0, hi0, rfl, hhit, hbef⟩
  · rw [hfil]
    have HI := Aside0.mk HI
    have HO := Aside0.mk HO
    have HB := Aside0.mk HB
    clear hC hfil
    go_enter Try.func125, Try.ntmps125
    go_wp2_with (go_at_call 123; refine HI.out.mono ?_; rintro e w' ⟨rfl, hb'⟩)
    go_ret
    exact ⟨_, rfl, Kd.R_below HO.out hb', below_then HB.out HB.out.size hb'⟩
  · obtain ⟨gb, cp, hv, hbg, hgl, cells, hcells⟩ := Kd.R_form HO (by omega)
    injection hv with hA _ hcp
    subst hA; subst hcp
    have hne : (((i0 : Int)) == -1) = false := beq_eq_false_iff_ne.2 (by omega)
    have HS := DelInv.start hi0 hhit hbef
    have HI := Aside0.mk HI
    have HO := Aside0.mk HO
    have HB := Aside0.mk HB
    have HS := Aside0.mk HS
    have HM := Aside0.mk hm
    have hi0' : i0 + 1 ≤ xs.length := hi0
    clear hC hhit hbef hcells
    go_enter Try.func125, Try.ntmps125
    go_wp2_with (go_at_call 123; refine HI.out.mono ?_; rintro e w' ⟨rfl, hb'⟩; have HO1 := Aside0.mk (Kd.R_below HO.out hb'); have HB1 := Aside0.mk (below_then HB.out HB.out.size hb'); clear hb' HI HO HB)
    go_loopg [5, 6] xs.length (fun gg s5 s6 wr => ∃ (i j : Nat) (ys : List S26), s5 = .int .i64 i ∧ s6 = .int .i64 j ∧ j ≤ xs.length ∧ xs.length - j ≤ gg ∧ Aside0 (DelInv p xs i j ys) ∧ Aside0 (Kd.R k26 26 wr w0.heap.size (fun _ => True) (.slice (some ⟨gb, 0, none⟩) xs.length c) ys) ∧ Aside0 (Below w0.heap.size w0 wr))
    case atStart => exact ⟨i0, i0 + 1, xs, rfl, by go_num, by omega, by omega, HS, HO1, HB1⟩
    case round =>
      obtain ⟨i, j, ys, rfl, rfl, hj, hg, HD, HO, HB⟩ := hrel
      clear HS HO1 HB1
      have hlen := HD.out.len
      have hij := HD.out.lt
      by_cases hlt : j < xs.length
      · have hlti : (j : Int) < (xs.length : Int) := by omega
        have hii : (i : Int) < (xs.length : Int) := by omega
        obtain ⟨hj2, hyx⟩ := HD.out.at_ hlt
        have hC := (Kd.R_reads' HO.out).2.2
        obtain ⟨ad, e1, hx0, hx1⟩ := at_T26 hC j (by omega) (by omega)
        cases e1
        rw [rd_nat_int64 ys j hj2, Int.toNat_natCast, hyx] at hx0 hx1
        rw [add_plain] at hx0 hx1
        dsimp only at hx1
        have hcall := HP.out (wr.alloc (.cells #[.int .i64 xs[j].f0, .int .i64 xs[j].f1] 26)) xs[j] (below_then HB.out HB.out.size (below_alloc (Below.refl _ _) _))
        clear hC
        cases hq : p xs[j] with
        | true =>
          rw [hq] at hcall
          have HD' := Aside0.mk (HD.out.skip hlt hq)
          have HC := Aside0.mk hcall
          clear hcall hq hyx
          generalize xs[j] = y at hx0 hx1 HC
          go_wp2_with (go_at_fn g; refine HC.out.mono ?_; rintro e w' ⟨rfl, hb'⟩; have HB1 := Aside0.mk (below_then (below_then HB.out HB.out.size (below_alloc (Below.refl _ _) _)) (by have := HB.out.size; simp; omega) hb'); have HO1 := Aside0.mk (Kd.R_below (Kd.R_below HO.out (below_alloc (Below.refl _ _) _)) hb'); clear hb' HO HB)
          go_roundg (xs.length - (j + 1))
          case measure => omega
          case rel => exact ⟨i, j + 1, ys, rfl, by go_num, by omega, by omega, HD', HO1, HB1⟩
        | false =>
          rw [hq] at hcall
          have HD' := Aside0.mk (HD.out.keep hlt hq)
          have HC := Aside0.mk hcall
          clear hcall hq hyx
          generalize xs[j] = y at hx0 hx1 HC HD'
          go_wp2_with (first | (go_at_fn g; refine HC.out.mono ?_; rintro e w' ⟨rfl, hb'⟩; have hv0 : w'.cell? ⟨wr.heap.size, 0, none⟩ = some (.int .i64 y.f0) := (hb'.cell (p := ⟨wr.heap.size, 0, none⟩) (by simp)).trans (by simp); have hv1 : w'.cell? ⟨wr.heap.size, 1, none⟩ = some (.int .i64 y.f1) := (hb'.cell (p := ⟨wr.heap.size, 1, none⟩) (by simp)).trans (by simp); have HB1 := Aside0.mk (below_then (below_then HB.out HB.out.size (below_alloc (Below.refl _ _) _)) (by have := HB.out.size; simp; omega) hb'); have HO1 := Aside0.mk (Kd.R_below (Kd.R_below HO.out (below_alloc (Below.refl _ _) _)) hb'); clear hb' HO HB) | ((with_reducible refine gate_ (.store 26 (.tmp 33) (.tmp 32)) rfl ?_); obtain ⟨ce, hcl, hcM, hcc, hcf⟩ := Kd.R_elem HO1.out z26 (i : Int) (by omega) (by omega); refine Kd.R_store k26 (w0 := w0) w0.heap.size rfl rfl 26 (.tmp 33) (.tmp 32) rfl 26 (i : Int) 0 ys y (.agg #[.int .i64 y.f0, .int .i64 y.f1]) [.int .i64 y.f0, .int .i64 y.f1] ce (fun _ => True) (fun _ => False) (by first | rfl | simp) rfl rfl rfl (by kernel_rfl) (by intro q hq; simp at hq; rcases hq with rfl | rfl <;> rfl) HO1.out (by omega) (by omega) hcl hcc (by show 0 + 2 ≤ 2; omega) (by rw [show ce.drop (0 + [Value.int .i64 y.f0, Value.int .i64 y.f1].length) = [] from List.drop_eq_nil_of_le (by rw [hcl]; exact Nat.le_refl 2)]; exact k26_mkM _ _ _ y) (fun _ h => h.elim) HB1.out ?_; intro w1 ho hb hg; rw [Int.toNat_natCast] at ho; have HO2 := Aside0.mk ho; have HB2 := Aside0.mk hb; clear ho hb hg hcl hcM hcc hcf HO1 HB1))
          go_roundg (xs.length - (j + 1))
          case measure => omega
          case rel => exact ⟨i + 1, j + 1, ys.set i y, by go_num, by go_num, by omega, by omega, HD', HO2, HB2⟩
      · have hjx : j = xs.length := by omega
        subst hjx
        have hlti : ¬ (xs.length : Int) < (xs.length : Int) := by omega
        have hii : (i : Int) < (xs.length : Int) := by omega
        obtain ⟨inner, hown⟩ := Kd.R_own HO.out
        obtain ⟨cur, hcur, hcs, hnc⟩ : ∃ cur, wr.heap[gb]? = some (.cells cur 26 (0, 0)) ∧ cur.size = c * 2 ∧ xs.length ≤ c := by
          rcases hown.2 with ⟨hv, _⟩ | ⟨g', cap', cur, hv, hb, hh, hnc, hcm, hcs, ht⟩
          · cases hv
          · injection hv with ha _ hc
            injection ha with ha
            injection ha with hg'
            subst hg'; subst hc
            exact ⟨cur, hh, hcs, by omega⟩
        have hzl := zero_int64 (xs.length - i)
        have hpc := piece_there hcur (i * 2) (Builtin.zeroCells (Value.agg #[.int .i64 0, .int .i64 0]).cells (xs.length - i)).toList.length (by rw [hzl.1]; omega)
        have hcl : ∀ ty, (Builtin.clear_ #[22] ty #[.slice (some ⟨gb, i * 2, none⟩) (xs.length - i) (c - i)]).run Try.prog wr = .ok (.tuple #[]) (wr.setCells gb (i * 2) (Builtin.zeroCells (Value.agg #[.int .i64 0, .int .i64 0]).cells (xs.length - i)).toList) := fun ty =>
          run_clear_cells wr _ _ ty (Value.agg #[.int .i64 0, .int .i64 0]) Try.underlying22 (fun w => by kernel_rfl) gb (i * 2) _ _ (by omega) hzl.2 hpc.1 hpc.2
        have HF := Aside0.mk HD.out.done
        have HR2 : Aside0 (Kd.R k26 26 (wr.setCells gb (i * 2) (Builtin.zeroCells (Value.agg #[.int .i64 0, .int .i64 0]).cells (xs.length - i)).toList) w0.heap.size (fun _ => True) (.slice (some ⟨gb, 0, none⟩) i c) (ys.take i)) := ⟨R_beyond flat_int64 (Kd.R_take HO.out (by omega)) _ _ (by show i * 2 ≤ i * 2; omega) (by rw [hzl.1]; show i * 2 + (xs.length - i) * 2 ≤ c * 2; omega)⟩
        have HB2 : Aside0 (Below w0.heap.size w0 (wr.setCells gb (i * 2) (Builtin.zeroCells (Value.agg #[.int .i64 0, .int .i64 0]).cells (xs.length - i)).toList)) := ⟨by
          obtain ⟨h1, h2, h3, h4⟩ := setCells_same gb (Builtin.zeroCells (Value.agg #[.int .i64 0, .int .i64 0]).cells (xs.length - i)).toList (i * 2) wr
          refine HB.out.trans ⟨h1, h2, h3, by rw [h4]; exact Nat.le_refl _, fun k hk => setCells_far _ _ k (by omega)⟩⟩
        have hic : (c = i) = False := by simp; omega
        clear HO HB hpc hzl hcur hcs hown HD
        generalize (Builtin.zeroCells (Value.agg #[.int .i64 0, .int .i64 0]).cells (xs.length - i)).toList = seg at hcl HR2 HB2
        go_wp2
        go_ret
        exact ⟨_, rfl, by rw [← HF.out]; exact HR2.out, HB2.out⟩
set_option maxRecDepth 100000 in
theorem without1_int64 (W : World) (x : S26) (B : Nat) (pl : Int) (hc : W.cell? ⟨B, 0, none⟩ = some (.int .i64 pl)) :
    Calls Try.prog 127 #[.agg #[.int .i64 x.f0, .int .i64 x.f1], .pointer (some ⟨B, 0, none⟩)] W fun e w' => e = .returned (.bool (x.f1 == pl)) ∧ Below W.heap.size W w' := by
  have hu := Try.underlying26
  have hB : B < W.heap.size := World.block_lt_of_cell? W ⟨B, 0, none⟩ hc
  have hc2 : (W.alloc (.cells #[.int .i64 x.f0, .int .i64 x.f1] 26)).cell? ⟨B, 0, none⟩ = some (.int .i64 pl) := ((below_alloc (Below.refl _ _) _).cell (p := ⟨B, 0, none⟩) hB).trans hc
  go_enter Try.func127, Try.ntmps127
  go_wp2
  go_ret
  exact ⟨rfl, (Below.refl _ _).alloc (Nat.le_refl _) _⟩
def pairs_Without_int64.f (l0 : List S26) (a1 : Int) : Option (List S26) :=
  if l0.length < 8796093022208 then some (l0.filter (fun x => !(x.f1 == a1))) else none
set_option maxHeartbeats 2000000 in
set_option maxRecDepth 100000 in
theorem pairs_Without_int64.calls (A0 : Option Addr) (c0 : Nat) (l0 : List S26) (a1 : Int) (r : List S26) (w : World) (hr0 : Kd.C k26 w A0 l0.length l0) (hc0 : l0.length ≤ c0) (h : pairs_Without_int64.f l0 a1 = some r) :
    Calls Try.prog 39 #[.slice A0 l0.length c0, .int .i64 a1] w fun e w' => ∃ v0_ : Value, e = .returned (v0_) ∧ Kd.R k26 26 w' w.heap.size (fun _ => True) v0_ r ∧ Below w.heap.size w w' := by
  obtain ⟨hm, h2⟩ := of_ite_some h
  subst h2
  clear h
  have HC := Aside0.mk (slices_Clone_pair.calls A0 c0 l0 l0 (w.alloc (.cells #[.int .i64 a1] 2)) (Kd.C_below hr0 (below_alloc (Below.refl _ _) _)) hc0 (by unfold slices_Clone_pair.f; rw [if_pos hm]))
  have hp : PredP_int64 127 #[.pointer (some ⟨w.heap.size, 0, none⟩)] (fun x => x.f1 == a1) (w.alloc (.cells #[.int .i64 a1] 2)) :=
    fun W x hb => without1_int64 W x w.heap.size a1 ((hb.cell (p := ⟨w.heap.size, 0, none⟩) (by simp)).trans (by simp))
  have HD := Aside0.mk (fun w1 v ho hb => deleteFunc_int64 127 #[.pointer (some ⟨w.heap.size, 0, none⟩)] (fun x => x.f1 == a1) (w.alloc (.cells #[.int .i64 a1] 2)) w1 v l0 ho hb hp (enters_of Try.func127 (by kernel_rfl) rfl))
  clear hp hm hr0 hc0
  go_enter Try.func39, Try.ntmps39
  go_wp2_with (first | (go_at_call 126; refine HC.out.mono ?_; rintro e w' ⟨v, rfl, ho, hb⟩; have HO := Aside0.mk ho; have HB := Aside0.mk hb; clear ho hb HC) | (go_at_call 125; refine (HD.out _ _ HO.out HB.out).mono ?_; rintro e w' ⟨v', rfl, ho, hb⟩; have HO2 := Aside0.mk ho; have HB2 := Aside0.mk hb; clear ho hb HD))
  go_ret
  refine ⟨_, rfl, Kd.R_lower HO2.out (by simp), below_then (below_alloc (Below.refl _ _) _) (by simp) HB2.out⟩
end Go.Proofs.Ytacgeafjilipdaa.P
namespace Go.Proofs.Ytacgeafjilipdaa.P
open Go.RowKit Go.Shelf Go.Proofs.YtacgeafjilipdaaW.PrintWords Go.Proofs.YtacgeafjilipdaaW.PrintLast Go.Proofs.YtacgeafjilipdaaW.PrintMore
set_option linter.unusedVariables false
set_option linter.unusedSimpArgs false
def some0 (l : List Pr) : List Pr := l.filter (fun x => !(x.f1 == 0))
theorem without_c (l : List Pr) (hl : l.length ≤ 4611686018427) (w : World) (v : Value) (hv : SI kPr w v l) : Calls Try.prog 39 #[v, .int .i64 0] w fun e w' =>
    ∃ v', e = .returned v' ∧ SI kPr w' v' (some0 l) ∧ Below w.heap.size w w' := by
  obtain ⟨A, c, rfl, hc, hr⟩ := hv
  refine (pairs_Without_int64.calls A c l 0 (some0 l) w hr hc (if_pos (by omega))).mono ?_
  rintro e w1 ⟨v0, rfl, h0, hb⟩
  exact ⟨v0, rfl, .of_R h0, hb⟩
theorem some0_wf {l : List Pr} (h : wfRow l) : wfRow (some0 l) := ⟨fun s hs => h.1 s (List.mem_filter.1 hs).1, Nat.lt_of_le_of_lt (List.length_filter_le _ _) h.2⟩
structure RowOK (l : List Pr) : Prop where
  wf : wfRow l
  len : l.length ≤ 4096
  cnt : cnts l
  ups : Ups (fun p : Pr => p.f0) l
theorem rises_ups : ∀ (l : List Int) (e : Int), rises e l = true → l.Pairwise (· < ·) ∧ ∀ x ∈ l, e ≤ x
  | [], _, _ => ⟨List.Pairwise.nil, fun x hx => by simp at hx⟩
  | p :: l, e, h => by
    simp only [rises, Bool.and_eq_true, decide_eq_true_eq] at h
    obtain ⟨h1, h2⟩ := rises_ups l (p + 1) h.2
    refine ⟨List.pairwise_cons.2 ⟨fun x hx => by have := h2 x hx; omega, h1⟩, fun x hx => ?_⟩
    rcases List.mem_cons.1 hx with rfl | hx
    · exact h.1.1
    · have := h2 x hx; omega
theorem zip_ups : ∀ (ps v : List Int), ps.Pairwise (· < ·) → Ups (fun p : Pr => p.f0) (List.zipWith (fun p x => (⟨p, x⟩ : Pr)) ps v)
  | [], _, _ => by simp [Ups]
  | p :: ps, [], _ => by simp [Ups]
  | p :: ps, x :: v, h => by
    have h1 := List.pairwise_cons.1 h
    refine List.pairwise_cons.2 ⟨fun y hy => ?_, zip_ups ps v h1.2⟩
    have : y.f0 ∈ ps := by
      obtain ⟨i, hi, rfl⟩ := List.mem_iff_getElem.1 hy
      simp only [List.getElem_zipWith]; exact List.getElem_mem _
    exact h1.1 _ this
theorem RowOK.nil : RowOK [] := ⟨⟨fun s hs => by simp at hs, by simp⟩, by simp, fun s hs => by simp at hs, Ups.nil⟩
theorem sideRes_row {l : List Sp} {d : List Int} (hd : i64s d) : RowOK (sideRes l d).1 := by
  by_cases h0 : (sideRes l d).2 = 0
  · obtain ⟨hc, hl⟩ := sideRes_ok hd h0
    unfold sideRes at h0 hc hl ⊢
    by_cases c1 : spCheck l = 0
    rotate_left
    · rw [if_neg c1] at h0; exact absurd h0 c1
    rw [if_pos c1] at h0 hc hl ⊢
    by_cases c2 : cntN l = d.length
    rotate_left
    · rw [if_neg c2] at h0; cases h0
    rw [if_pos c2] at h0 hc hl ⊢
    cases hs : sumsFrom 0 d with
    | none => rw [hs] at h0; cases h0
    | some c =>
      rw [hs] at h0 hc hl
      simp only at h0 hc hl ⊢
      by_cases c3 : c.any (fun x => decide (x < 0)) = true
      · rw [if_pos c3] at h0; cases h0
      rw [if_neg c3] at hc hl ⊢
      have hr := rises_of_right c1
      have hf : ∀ p ∈ List.zipWith (fun p x => (⟨p, x⟩ : Pr)) (plN 0 l) c, -1048576 ≤ p.f0 ∧ p.f0 ≤ 1048576 := by
        intro y hy
        have : y.f0 ∈ plN 0 l := by
          obtain ⟨i, hi, rfl⟩ := List.mem_iff_getElem.1 hy
          simp only [List.getElem_zipWith]; exact List.getElem_mem _
        exact rises_i64 hr _ this
      refine ⟨⟨fun p hp => ?_, by omega⟩, hl, fun p hp => ?_, zip_ups _ _ (rises_ups _ _ hr).1⟩
      · have h1 := hf p hp; have h2 := hc p hp; exact ⟨⟨by omega, by omega⟩, ⟨by omega, by omega⟩⟩
      · have h1 := hf p hp; have h2 := hc p hp; exact ⟨⟨by omega, by omega⟩, h2⟩
  · have : (sideRes l d).1 = [] := by
      unfold sideRes at h0 ⊢
      by_cases c1 : spCheck l = 0
      · rw [if_pos c1] at h0 ⊢
        by_cases c2 : cntN l = d.length
        · rw [if_pos c2] at h0 ⊢
          cases hs : sumsFrom 0 d with
          | none => rfl
          | some c =>
            rw [hs] at h0
            simp only at h0 ⊢
            by_cases c3 : c.any (fun x => decide (x < 0)) = true
            · rw [if_pos c3]
            · rw [if_neg c3] at h0; exact absurd rfl h0
        · rw [if_neg c2]
      · rw [if_neg c1]
    rw [this]; exact RowOK.nil
theorem openR_row {h : Hi} (hw : wfH h) : RowOK (openR h).1 ∧ RowOK (openR h).2.1 := by
  obtain ⟨-, -, -, -, -, -, -, h7, h8, -⟩ := hw
  have a := sideRes_row (l := h.f5) h7
  have b := sideRes_row (l := h.f6) h8
  unfold openR openRes
  repeat' split
  all_goals first | exact ⟨a, b⟩ | exact ⟨RowOK.nil, RowOK.nil⟩
def canonR (h : Hi) : Hi × Int := if checkR h ≠ 0 then (emptyH, checkR h) else makeR h (some0 (openR h).1) (some0 (openR h).2.1)
set_option maxHeartbeats 8000000 in
set_option maxRecDepth 100000 in
theorem canon_c (h : Hi) (hw : wfH h) (w : World) (v : Value) (hv : HI w v h) : Calls Try.prog 90 #[v] w fun e w' =>
    ∃ v', e = .returned (.tuple #[v', .int .i64 (canonR h).2]) ∧ HF w.heap.size w' v' (canonR h).1 ∧ Below w.heap.size w w' := by
  have hu := Try.underlying64
  obtain ⟨A5, c5, A6, c6, A7, c7, A8, c8, e, -⟩ := hv.open_
  subst e
  have HV := Aside0.mk hv
  have ho := open_c h hw
  unfold canonR checkR
  have hwp : wfRow (openR h).1 := (openR_row hw).1.wf
  have hwn : wfRow (openR h).2.1 := (openR_row hw).2.wf
  have hm := fun w v vp vn => make_c h hw _ _ (some0_wf hwp) (some0_wf hwn) w v vp vn
  have h1 := without_c (openR h).1 (by have := hwp.2; omega)
  have h2 := without_c (openR h).2.1 (by have := hwn.2; omega)
  generalize makeR h (some0 (openR h).1) (some0 (openR h).2.1) = mr at *
  generalize openR h = o at *
  obtain ⟨p, n, ec⟩ := o
  obtain ⟨mh, me⟩ := mr
  simp only at hm h1 h2 ho ⊢
  have HO := Aside0.mk ho
  have HM := Aside0.mk hm
  have H1 := Aside0.mk h1
  have H2 := Aside0.mk h2
  clear ho hm h1 h2 hwp hwn hw hv
  by_cases c1 : ec = 0
  rotate_left
  · rw [if_pos c1]
    have c1a : (ec != 0) = true := bne_iff_ne.2 c1
    clear c1
    go_enter Try.func90, Try.ntmps90
    go_wp2_with (first | (go_at_call 146; (with_reducible refine (HO.out _ _ (HV.out.below (below_alloc (below_alloc (Below.refl _ _) _) _))).mono ?_); rintro e w1 ⟨v0, v1, rfl, h0, h1, hb⟩; have HO := Aside0.mk (And.intro h0 h1); have HB := Aside0.mk (below_then (below_alloc (below_alloc (Below.refl w.heap.size w) (.cells #[.int .i64 h.f0, .int .u64 h.f1, .int .u64 h.f2, .int .u64 h.f3, .int .u64 h.f4, .slice A5 h.f5.length c5, .slice A6 h.f6.length c6, .slice A7 h.f7.length c7, .slice A8 h.f8.length c8] 64)) (.cells #[.int .i64 0, .int .u64 0, .int .u64 0, .int .u64 0, .int .u64 0, .slice none 0 0, .slice none 0 0, .slice none 0 0, .slice none 0 0] 64)) (by simp; omega) hb); have HX1 := Aside0.mk (blk_below (blk_alloc (blk_new w (.cells #[.int .i64 h.f0, .int .u64 h.f1, .int .u64 h.f2, .int .u64 h.f3, .int .u64 h.f4, .slice A5 h.f5.length c5, .slice A6 h.f6.length c6, .slice A7 h.f7.length c7, .slice A8 h.f8.length c8] 64)) (.cells #[.int .i64 0, .int .u64 0, .int .u64 0, .int .u64 0, .int .u64 0, .slice none 0 0, .slice none 0 0, .slice none 0 0, .slice none 0 0] 64)) hb); have HY1 := Aside0.mk (show w1.heap[w.heap.size + 1]? = some (.cells #[.int .i64 0, .int .u64 0, .int .u64 0, .int .u64 0, .int .u64 0, .slice none 0 0, .slice none 0 0, .slice none 0 0, .slice none 0 0] 64 (0, 0)) from (blk_below (show ((w.alloc (.cells #[.int .i64 h.f0, .int .u64 h.f1, .int .u64 h.f2, .int .u64 h.f3, .int .u64 h.f4, .slice A5 h.f5.length c5, .slice A6 h.f6.length c6, .slice A7 h.f7.length c7, .slice A8 h.f8.length c8] 64)).alloc (.cells #[.int .i64 0, .int .u64 0, .int .u64 0, .int .u64 0, .int .u64 0, .slice none 0 0, .slice none 0 0, .slice none 0 0, .slice none 0 0] 64)).heap[w.heap.size + 1]? = _ by simpa using blk_new (w.alloc (.cells #[.int .i64 h.f0, .int .u64 h.f1, .int .u64 h.f2, .int .u64 h.f3, .int .u64 h.f4, .slice A5 h.f5.length c5, .slice A6 h.f6.length c6, .slice A7 h.f7.length c7, .slice A8 h.f8.length c8] 64)) (.cells #[.int .i64 0, .int .u64 0, .int .u64 0, .int .u64 0, .int .u64 0, .slice none 0 0, .slice none 0 0, .slice none 0 0, .slice none 0 0] 64)) hb)); have hfx := fun i => blk_cell HX1.out i; have hzx := fun i => blk_frozen HX1.out i; have hfy := fun i => blk_cell HY1.out i; have hzy := fun i => blk_frozen HY1.out i; clear h0 h1 hb))
    refine bodyPost_ret (results_ct rfl _ _ (w.heap.size + 1) 64 #[.int .i64 0, .int .u64 0, .int .u64 0, .int .u64 0, .int .u64 0, .slice none 0 0, .slice none 0 0, .slice none 0 0, .slice none 0 0] (0, 0) _ rfl (nine HY1.out _ _ _ _ _ _ _ _ _) Try.underlying64 rfl (by kernel_rfl)) rfl ?_
    exact ⟨_, rfl, HF.empty _ _, nine_below HB.out (by omega) _ _ _ _ _ _ _ _ _⟩
  subst c1
  rw [if_neg (by simp)]
  go_enter Try.func90, Try.ntmps90
  go_wp2_with (first | (go_at_call 146; (with_reducible refine (HO.out _ _ (HV.out.below (below_alloc (below_alloc (Below.refl _ _) _) _))).mono ?_); rintro e w1 ⟨v0, v1, rfl, h0, h1, hb⟩; have HO := Aside0.mk (And.intro h0 h1); have HB := Aside0.mk (below_then (below_alloc (below_alloc (Below.refl w.heap.size w) (.cells #[.int .i64 h.f0, .int .u64 h.f1, .int .u64 h.f2, .int .u64 h.f3, .int .u64 h.f4, .slice A5 h.f5.length c5, .slice A6 h.f6.length c6, .slice A7 h.f7.length c7, .slice A8 h.f8.length c8] 64)) (.cells #[.int .i64 0, .int .u64 0, .int .u64 0, .int .u64 0, .int .u64 0, .slice none 0 0, .slice none 0 0, .slice none 0 0, .slice none 0 0] 64)) (by simp; omega) hb); have HX1 := Aside0.mk (blk_below (blk_alloc (blk_new w (.cells #[.int .i64 h.f0, .int .u64 h.f1, .int .u64 h.f2, .int .u64 h.f3, .int .u64 h.f4, .slice A5 h.f5.length c5, .slice A6 h.f6.length c6, .slice A7 h.f7.length c7, .slice A8 h.f8.length c8] 64)) (.cells #[.int .i64 0, .int .u64 0, .int .u64 0, .int .u64 0, .int .u64 0, .slice none 0 0, .slice none 0 0, .slice none 0 0, .slice none 0 0] 64)) hb); have HY1 := Aside0.mk (show w1.heap[w.heap.size + 1]? = some (.cells #[.int .i64 0, .int .u64 0, .int .u64 0, .int .u64 0, .int .u64 0, .slice none 0 0, .slice none 0 0, .slice none 0 0, .slice none 0 0] 64 (0, 0)) from (blk_below (show ((w.alloc (.cells #[.int .i64 h.f0, .int .u64 h.f1, .int .u64 h.f2, .int .u64 h.f3, .int .u64 h.f4, .slice A5 h.f5.length c5, .slice A6 h.f6.length c6, .slice A7 h.f7.length c7, .slice A8 h.f8.length c8] 64)).alloc (.cells #[.int .i64 0, .int .u64 0, .int .u64 0, .int .u64 0, .int .u64 0, .slice none 0 0, .slice none 0 0, .slice none 0 0, .slice none 0 0] 64)).heap[w.heap.size + 1]? = _ by simpa using blk_new (w.alloc (.cells #[.int .i64 h.f0, .int .u64 h.f1, .int .u64 h.f2, .int .u64 h.f3, .int .u64 h.f4, .slice A5 h.f5.length c5, .slice A6 h.f6.length c6, .slice A7 h.f7.length c7, .slice A8 h.f8.length c8] 64)) (.cells #[.int .i64 0, .int .u64 0, .int .u64 0, .int .u64 0, .int .u64 0, .slice none 0 0, .slice none 0 0, .slice none 0 0, .slice none 0 0] 64)) hb)); have hfx := fun i => blk_cell HX1.out i; have hzx := fun i => blk_frozen HX1.out i; have hfy := fun i => blk_cell HY1.out i; have hzy := fun i => blk_frozen HY1.out i; clear h0 h1 hb))
  go_region_with (first | (go_at_call 39; (with_reducible refine (H1.out _ v0 (HO.out.1.below (below_drew (Below.refl _ _)))).mono ?_); rintro e w2 ⟨vp, rfl, hs, hb⟩; have HS2 := Aside0.mk hs; have HB2 := Aside0.mk (below_then (below_drew (Below.refl w1.heap.size w1)) (Nat.le_refl _) hb); have hX2 := fun i => blk_cell (blk_below HX1.out HB2.out) i; have hY2 := fun i => blk_cell (blk_below HY1.out HB2.out) i; have hZ2 := fun i => blk_frozen (blk_below HY1.out HB2.out) i; clear hs hb) | (go_at_call 39; (with_reducible refine (H2.out _ v1 (HO.out.2.below (below_drew (Below.refl _ _)))).mono ?_); rintro e w3 ⟨vn, rfl, hs, hb⟩; have HS3 := Aside0.mk hs; have HB3 := Aside0.mk (below_then (below_drew (Below.refl w1.heap.size w1)) (Nat.le_refl _) hb); have hX3 := fun i => blk_cell (blk_below HX1.out HB3.out) i; have hY3 := fun i => blk_cell (blk_below HY1.out HB3.out) i; have hZ3 := fun i => blk_frozen (blk_below HY1.out HB3.out) i; clear hs hb) | (go_at_call 39; (with_reducible refine (H2.out w2 v1 (HO.out.2.below HB2.out)).mono ?_); rintro e w4 ⟨vn, rfl, hs, hb⟩; have HS4 := Aside0.mk (And.intro (HS2.out.below hb) hs); have HB4 := Aside0.mk (below_then HB2.out HB2.out.size hb); have hX4 := fun i => blk_cell (blk_below HX1.out HB4.out) i; have hY4 := fun i => blk_cell (blk_below HY1.out HB4.out) i; have hZ4 := fun i => blk_frozen (blk_below HY1.out HB4.out) i; clear hs hb) | (go_at_call 39; (with_reducible refine (H1.out w3 v0 (HO.out.1.below HB3.out)).mono ?_); rintro e w4 ⟨vp, rfl, hs, hb⟩; have HS4 := Aside0.mk (And.intro hs (HS3.out.below hb)); have HB4 := Aside0.mk (below_then HB3.out HB3.out.size hb); have hX4 := fun i => blk_cell (blk_below HX1.out HB4.out) i; have hY4 := fun i => blk_cell (blk_below HY1.out HB4.out) i; have hZ4 := fun i => blk_frozen (blk_below HY1.out HB4.out) i; clear hs hb) | (go_at_call 87; (with_reducible refine (HM.out w4 _ vp vn (HV.out.below (below_then HB.out HB.out.size HB4.out)) HS4.out.1 HS4.out.2).mono ?_); rintro e w5 ⟨v5, rfl, hs, hb⟩; have HB5 := Aside0.mk (below_then (below_then HB.out HB.out.size HB4.out) (below_then HB.out HB.out.size HB4.out).size hb); have HI5 := Aside0.mk hs; obtain ⟨D5, g5, D6, g6, D7, g7, D8, g8, e5⟩ := hs.open_; subst e5; have hX5 := fun i => blk_cell (blk_below (blk_below HX1.out HB4.out) hb) i; have HY5 := Aside0.mk (blk_below (blk_below HY1.out HB4.out) hb); have hY5 := fun i => blk_cell HY5.out i; have hZ5 := fun i => blk_frozen HY5.out i; clear hs hb))
  all_goals (go_wp2; have hsz := blk_lt HY1.out; have hsz4 := HB4.out.size; refine bodyPost_ret (results_ct rfl _ _ (w.heap.size + 1) 64 #[.int .i64 mh.f0, .int .u64 mh.f1, .int .u64 mh.f2, .int .u64 mh.f3, .int .u64 mh.f4, .slice D5 mh.f5.length g5, .slice D6 mh.f6.length g6, .slice D7 mh.f7.length g7, .slice D8 mh.f8.length g8] (0, 0) _ rfl (nine HY5.out _ _ _ _ _ _ _ _ _) Try.underlying64 rfl (by kernel_rfl)) rfl ?_; exact ⟨_, rfl, (HI5.out.step (nine_ka (KA.refl _ _) (by omega) _ _ _ _ _ _ _ _ _)).lower (by omega), nine_below HB5.out (by omega) _ _ _ _ _ _ _ _ _⟩)
end Go.Proofs.Ytacgeafjilipdaa.P
namespace Go.Proofs.Ytacgeafjilipdaa.P
open Go.RowKit Go.Proofs.YtacgeafjilipdaaW.PrintWords Go.Proofs.YtacgeafjilipdaaW.PrintLast Go.Proofs.YtacgeafjilipdaaW.PrintMore
attribute [local go_sem] max2_int min2_int max_two min_two max_three min_three max_four min_four
set_option linter.unusedVariables false
set_option linter.unusedSimpArgs false
def tidepoleref09_Head.j0 : Nat → Int → Bool → Option (Int)
 | 0, _, _ => none
 | k + 1, x1, x10 => if x10 = true then (some 21) else (if x1 ≥ 9218868437227405312 then (some 11) else (some 0))
def tidepoleref09_Head.f (k : Nat) (a0 : Int) (a1 : Int) : Option (Int) := if a0 < (-4) then (tidepoleref09_Head.j0 k a1 true) else (tidepoleref09_Head.j0 k a1 (decide (a0 > 8)))
set_option maxHeartbeats 8000000 in
set_option maxRecDepth 100000 in
theorem tidepoleref09_Head.calls (k : Nat) (a0 : Int) (a1 : Int) (r : Int) (w : World) (h : tidepoleref09_Head.f k a0 a1 = some r) :
  Calls Try.prog 75 #[.int .i64 a0, .int .u64 a1] w fun e w' => e = .returned (.int .i64 r) ∧ Drawn0 w w' := by
 have H : (if a0 < (-4) then (tidepoleref09_Head.j0 k a1 true) else (tidepoleref09_Head.j0 k a1 (decide (a0 > 8)))) = some r := h
 clear h
 have HC3 := Aside0.mk H
 clear H
 go_enter Try.func75, Try.ntmps75
 go_upto_region 1 with (fail)
 go_cut [10] (fun v10 wc => ∃ (kq : Nat) (x10_2 : Bool), v10 = .bool x10_2 ∧ Aside0 (tidepoleref09_Head.j0 kq a1 x10_2 = some r) ∧ Aside0 (kq ≤ k) ∧ Drawn0 w wc)
 case first =>
  have H := HC3.out
  clear HC3
  by_cases c4 : a0 < (-4)
  ·rw [if_pos c4] at H
   have c4b0 : decide (a0 < (-4)) = true := decide_eq_true c4
   clear c4
   (first | rw [c4b0] | (simp only [i64_w, i32_w]; rw [c4b0]) | skip)
   have H' := Aside0.mk H
   clear H
   go_wp2
   go_meet
   case rel => exact ⟨_, (true), (by first | rfl | (simp; done) | (simp [*]; done)), H', ⟨by first | omega | exact Nat.le_refl _⟩, by repeat (first | exact Drawn0.refl _ | apply Drawn0.step)⟩
  ·rw [if_neg c4] at H
   have c4b0 : decide (a0 < (-4)) = false := decide_eq_false c4
   clear c4
   (first | rw [c4b0] | (simp only [i64_w, i32_w]; rw [c4b0]) | skip)
   have H' := Aside0.mk H
   clear H
   go_wp2
   go_meet
   case rel => exact ⟨_, (decide (a0 > 8)), (by first | rfl | (simp; done) | (simp [*]; done)), H', ⟨by first | omega | exact Nat.le_refl _⟩, by repeat (first | exact Drawn0.refl _ | apply Drawn0.step)⟩
 case rest =>
  clear HC3
  try clear p2
  try clear c4
  try clear c4b0
  obtain ⟨kq, x10_2, rfl, HA, HJ2, ⟨mc2, rfl⟩⟩ := hcut
  cases kq with
  | zero => exact absurd HA.out (by simp [tidepoleref09_Head.j0])
  | succ kj2 =>
   have H := HA.out
   clear HA
   simp only [tidepoleref09_Head.j0] at H
   by_cases c5 : x10_2 = true
   ·subst c5
    have H1 : (some 21) = some r := by rw [if_pos rfl] at H; exact H
    clear H
    have H := H1
    clear H1
    obtain rfl := Option.some.inj H
    go_wp2
    go_ret
    exact ⟨by first | rfl | (simp; done) | (simp [*]; done), by repeat (first | exact Drawn0.refl _ | apply Drawn0.step)⟩
   ·replace c5 := Bool.eq_false_iff.mpr c5
    subst c5
    have H1 : (if a1 ≥ 9218868437227405312 then (some 11) else (some 0)) = some r := by rw [if_neg (show ¬ (false = true) by decide)] at H; exact H
    clear H
    have H := H1
    clear H1
    by_cases c6 : a1 ≥ 9218868437227405312
    ·rw [if_pos c6] at H
     have c6b0 : decide (9218868437227405312 ≤ a1) = true := decide_eq_true c6
     clear c6
     obtain rfl := Option.some.inj H
     go_wp2
     go_ret
     exact ⟨by first | rfl | (simp; done) | (simp [*]; done), by repeat (first | exact Drawn0.refl _ | apply Drawn0.step)⟩
    ·rw [if_neg c6] at H
     have c6b0 : decide (9218868437227405312 ≤ a1) = false := decide_eq_false c6
     clear c6
     obtain rfl := Option.some.inj H
     go_wp2
     go_ret
     exact ⟨by first | rfl | (simp; done) | (simp [*]; done), by repeat (first | exact Drawn0.refl _ | apply Drawn0.step)⟩
def tidepoleref09_NaN.f (a0 : Int) : Option (Bool) := if a0 ≥ 9223372036854775808 then (some (decide ((IntKind.u64.wrap (a0 - 9223372036854775808)) > 9218868437227405312))) else (some (decide (a0 > 9218868437227405312)))
set_option maxHeartbeats 8000000 in
set_option maxRecDepth 100000 in
theorem tidepoleref09_NaN.calls (a0 : Int) (r : Bool) (w : World) (h : tidepoleref09_NaN.f a0 = some r) :
  Calls Try.prog 73 #[.int .u64 a0] w fun e w' => e = .returned (.bool r) ∧ Drawn0 w w' := by
 have H : (if a0 ≥ 9223372036854775808 then (some (decide ((IntKind.u64.wrap (a0 - 9223372036854775808)) > 9218868437227405312))) else (some (decide (a0 > 9218868437227405312)))) = some r := h
 clear h
 by_cases c2 : a0 ≥ 9223372036854775808
 ·rw [if_pos c2] at H
  have c2b0 : decide (9223372036854775808 ≤ a0) = true := decide_eq_true c2
  clear c2
  obtain rfl := Option.some.inj H
  go_enter Try.func73, Try.ntmps73
  go_wp2
  go_ret
  exact ⟨by first | rfl | (simp; done) | (simp [*]; done), by repeat (first | exact Drawn0.refl _ | apply Drawn0.step)⟩
 ·rw [if_neg c2] at H
  have c2b0 : decide (9223372036854775808 ≤ a0) = false := decide_eq_false c2
  clear c2
  obtain rfl := Option.some.inj H
  go_enter Try.func73, Try.ntmps73
  go_wp2
  go_ret
  exact ⟨by first | rfl | (simp; done) | (simp [*]; done), by repeat (first | exact Drawn0.refl _ | apply Drawn0.step)⟩
mutual
def tidepoleref09_Fits.l0 : Nat → Int → List Int → List Int → Int → Int → Option (Int)
 | 0, _, _, _, _, _ => none
 | k + 1, x2, x3, x4, x11, x12 => if x12 < 2 then (if x12 = 1 then (tidepoleref09_Fits.j1 k x2 x3 x4 x11 x12 x4) else (tidepoleref09_Fits.j1 k x2 x3 x4 x11 x12 x3)) else (if x11 > 0 then ((tidepoleref09_NaN.f x2).bind fun t101 => (if t101 = true then (some 0) else (some 22))) else (some 0))
def tidepoleref09_Fits.j1 : Nat → Int → List Int → List Int → Int → Int → List Int → Option (Int)
 | 0, _, _, _, _, _, _ => none
 | k + 1, x2, x3, x4, x11, x12, x13 => tidepoleref09_Fits.l1 k x2 x3 x4 x11 x12 x13 0
def tidepoleref09_Fits.l1 : Nat → Int → List Int → List Int → Int → Int → List Int → Int → Option (Int)
 | 0, _, _, _, _, _, _, _ => none
 | k + 1, x2, x3, x4, x11, x12, x13, x14 => if x14 < (x13.length : Int) then (if 0 ≤ x14 then (if (rd x13 x14) < 0 then (some 22) else (if (IntKind.u64.wrap (rd x13 x14)) > x11 then (some 22) else (tidepoleref09_Fits.l1 k x2 x3 x4 (IntKind.u64.wrap (x11 - (IntKind.u64.wrap (rd x13 x14)))) x12 x13 (wrap64 (x14 + 1))))) else (none)) else (tidepoleref09_Fits.l0 k x2 x3 x4 x11 (wrap64 (x12 + 1)))
end
def tidepoleref09_Fits.f (k : Nat) (a0 : Int) (a1 : Int) (a2 : Int) (l3 : List Int) (l4 : List Int) : Option (Int) := if a0 > a1 then (some 22) else (tidepoleref09_Fits.l0 k a2 l3 l4 (IntKind.u64.wrap (a1 - a0)) 0)
set_option maxHeartbeats 8000000 in
set_option maxRecDepth 100000 in
theorem tidepoleref09_Fits.calls (k : Nat) (a0 : Int) (a1 : Int) (a2 : Int) (P3_ : Nat → Prop) (A3 : Option Addr) (c3 : Nat) (l3 : List Int) (P4_ : Nat → Prop) (A4 : Option Addr) (c4 : Nat) (l4 : List Int) (r : Int) (w : World) (hs3 : Kd.V (Kd.int .i64) 2 w w.heap.size (fun k_ => P3_ k_) (.slice A3 l3.length c3) l3) (hs4 : Kd.V (Kd.int .i64) 2 w w.heap.size (fun k_ => P4_ k_) (.slice A4 l4.length c4) l4) (h : tidepoleref09_Fits.f k a0 a1 a2 l3 l4 = some r) :
  Calls Try.prog 138 #[.int .u64 a0, .int .u64 a1, .int .u64 a2, .slice A3 l3.length c3, .slice A4 l4.length c4] w fun e w' => e = .returned (.int .i64 r) ∧ Below w.heap.size w w' := by
 have HO3 := Aside0.mk (show Kd.V (Kd.int .i64) 2 w w.heap.size (fun k_ => ((P3_ k_ ∨ P4_ k_) ∨ w.heap.size ≤ k_)) (.slice A3 l3.length c3) l3 from Kd.V_mono hs3 (fun k_ hk => .inl (.inl hk)))
 have HO4 := Aside0.mk (show Kd.V (Kd.int .i64) 2 w w.heap.size (fun k_ => ((P3_ k_ ∨ P4_ k_) ∨ w.heap.size ≤ k_)) (.slice A4 l4.length c4) l4 from Kd.V_mono hs4 (fun k_ hk => .inl (.inr hk)))
 have HB := Aside0.mk (Below.refl w.heap.size w)
 have H : (if a0 > a1 then (some 22) else (tidepoleref09_Fits.l0 k a2 l3 l4 (IntKind.u64.wrap (a1 - a0)) 0)) = some r := h
 clear h
 by_cases c6 : a0 > a1
 ·rw [if_pos c6] at H
  have c6b0 : decide (a1 < a0) = true := decide_eq_true c6
  clear c6
  obtain rfl := Option.some.inj H
  go_enter Try.func138, Try.ntmps138
  go_wp2
  go_ret
  exact ⟨by first | rfl | (simp [errW_none, errW_some] <;> rfl) | (simp [*, errW_none, errW_some] <;> rfl), by repeat (first | (with_reducible first | exact HB.out | apply below_alloc | apply pw_below_drewN | apply below_drew1) | exact HB.out)⟩
 ·rw [if_neg c6] at H
  have c6b0 : decide (a1 < a0) = false := decide_eq_false c6
  clear c6
  have H' := Aside0.mk H
  clear H
  go_enter Try.func138, Try.ntmps138
  go_wp2
  go_loopg [11, 12] k (fun kq v11 v12 w' => ∃ (x11_1 : Int) (x12_1 : Int), v11 = .int .u64 x11_1 ∧ v12 = .int .i64 x12_1 ∧ Aside0 (tidepoleref09_Fits.l0 kq a2 l3 l4 x11_1 x12_1 = some r) ∧ Aside0 (kq ≤ k) ∧ Aside0 (Kd.V (Kd.int .i64) 2 w' w.heap.size (fun k_ => ((P3_ k_ ∨ P4_ k_) ∨ w.heap.size ≤ k_)) (.slice A3 l3.length c3) l3) ∧ Aside0 (Kd.V (Kd.int .i64) 2 w' w.heap.size (fun k_ => ((P3_ k_ ∨ P4_ k_) ∨ w.heap.size ≤ k_)) (.slice A4 l4.length c4) l4) ∧ Aside0 (Below w.heap.size w w'))
  case atStart => exact ⟨(IntKind.u64.wrap (a1 - a0)), (0), (by first | rfl | (simp; done) | (simp [*]; done)), (by first | rfl | (simp; done) | (simp [*]; done)), H', ⟨Nat.le_refl _⟩, ⟨by (with_reducible repeat (first | apply Kd.V_alloc | apply Kd.V_drewN | apply Kd.V_drew)); exact HO3.out⟩, ⟨by (with_reducible repeat (first | apply Kd.V_alloc | apply Kd.V_drewN | apply Kd.V_drew)); exact HO4.out⟩, ⟨by repeat (first | (with_reducible first | exact HB.out | apply below_alloc | apply pw_below_drewN | apply below_drew1) | exact HB.out)⟩⟩
  case round =>
   clear H'
   try clear c1
   try clear p2
   try clear c3
   try clear c4
   try clear c6
   try clear c6b0
   obtain ⟨x11_1, x12_1, rfl, rfl, HA, HK1, HO_3, HO_4, HB⟩ := hrel
   cases gk with
   | zero => exact absurd HA.out (by simp [tidepoleref09_Fits.l0])
   | succ k1 =>
    have H := HA.out
    clear HA
    simp only [tidepoleref09_Fits.l0] at H
    by_cases c7 : x12_1 < 2
    ·rw [if_pos c7] at H
     have c7b0 : decide (x12_1 < 2) = true := decide_eq_true c7
     clear c7
     have HC8 := Aside0.mk H
     clear H
     go_upto_if 27 with (fail)
     go_cut [13] (fun v13 wc => ∃ (kq : Nat) (x13_7 : List Int), Aside0 (tidepoleref09_Fits.j1 kq a2 l3 l4 x11_1 x12_1 x13_7 = some r) ∧ Aside0 (kq ≤ k1) ∧ Aside0 (Kd.V (Kd.int .i64) 2 wc w.heap.size (fun k_ => ((P3_ k_ ∨ P4_ k_) ∨ w.heap.size ≤ k_)) (.slice A3 l3.length c3) l3) ∧ Aside0 (Kd.V (Kd.int .i64) 2 wc w.heap.size (fun k_ => ((P3_ k_ ∨ P4_ k_) ∨ w.heap.size ≤ k_)) (.slice A4 l4.length c4) l4) ∧ Aside0 (Kd.V (Kd.int .i64) 2 wc w.heap.size (fun k_ => ((P3_ k_ ∨ P4_ k_) ∨ w.heap.size ≤ k_)) v13 x13_7) ∧ Aside0 (Below w.heap.size w wc))
     case first =>
      have H := HC8.out
      clear HC8
      by_cases c9 : x12_1 = 1
      ·rw [if_pos c9] at H
       have c9b0 : (x12_1 == 1) = true := beq_iff_eq.mpr c9
       have c9b1 : (x12_1 != 1) = false := bne_eq_false_iff_eq.mpr c9
       clear c9
       (first | rw [c9b0] | (simp only [i64_w, i32_w]; rw [c9b0]) | skip)
       have H' := Aside0.mk H
       clear H
       go_wp2
       go_meet
       case rel => exact ⟨_, (l4), H', ⟨by have := HK1.out; first | omega | exact Nat.le_refl _⟩, ⟨by (with_reducible repeat (first | apply Kd.V_alloc | apply Kd.V_drewN | apply Kd.V_drew)); exact HO_3.out⟩, ⟨by (with_reducible repeat (first | apply Kd.V_alloc | apply Kd.V_drewN | apply Kd.V_drew)); exact HO_4.out⟩, ⟨by (with_reducible repeat (first | apply Kd.V_alloc | apply Kd.V_drewN | apply Kd.V_drew)); exact HO_4.out⟩, ⟨by repeat (first | (with_reducible first | exact HB.out | apply below_alloc | apply pw_below_drewN | apply below_drew1) | exact HB.out)⟩⟩
      ·rw [if_neg c9] at H
       have c9b0 : (x12_1 == 1) = false := beq_eq_false_iff_ne.mpr c9
       have c9b1 : (x12_1 != 1) = true := bne_iff_ne.mpr c9
       (first | rw [c9b0] | (simp only [i64_w, i32_w]; rw [c9b0]) | skip)
       have H' := Aside0.mk H
       clear H
       go_wp2
       go_meet
       case rel => exact ⟨_, (l3), H', ⟨by have := HK1.out; first | omega | exact Nat.le_refl _⟩, ⟨by (with_reducible repeat (first | apply Kd.V_alloc | apply Kd.V_drewN | apply Kd.V_drew)); exact HO_3.out⟩, ⟨by (with_reducible repeat (first | apply Kd.V_alloc | apply Kd.V_drewN | apply Kd.V_drew)); exact HO_4.out⟩, ⟨by (with_reducible repeat (first | apply Kd.V_alloc | apply Kd.V_drewN | apply Kd.V_drew)); exact HO_3.out⟩, ⟨by repeat (first | (with_reducible first | exact HB.out | apply below_alloc | apply pw_below_drewN | apply below_drew1) | exact HB.out)⟩⟩
     case rest =>
      clear HC8
      try clear c1
      try clear p2
      try clear c3
      try clear c4
      try clear c6
      try clear c6b0
      try clear c7
      try clear c7b0
      try clear c9
      try clear c9b0
      try clear c9b1
      try clear p2
      obtain ⟨kq, x13_7, HA, HJ7, HO_3, HO_4, HO_13, HB⟩ := hcut
      cases kq with
      | zero => exact absurd HA.out (by simp [tidepoleref09_Fits.j1])
      | succ kj7 =>
       have H := HA.out
       clear HA
       simp only [tidepoleref09_Fits.j1] at H
       have H' := Aside0.mk H
       clear H
       go_wp2
       go_loopg [11, 14] kj7 (fun kq v11 v14 w' => ∃ (x11_3 : Int) (x14_3 : Int), v11 = .int .u64 x11_3 ∧ v14 = .int .i64 x14_3 ∧ Aside0 (tidepoleref09_Fits.l1 kq a2 l3 l4 x11_3 x12_1 x13_7 x14_3 = some r) ∧ Aside0 (kq ≤ kj7) ∧ Aside0 (Kd.V (Kd.int .i64) 2 w' w.heap.size (fun k_ => ((P3_ k_ ∨ P4_ k_) ∨ w.heap.size ≤ k_)) (.slice A3 l3.length c3) l3) ∧ Aside0 (Kd.V (Kd.int .i64) 2 w' w.heap.size (fun k_ => ((P3_ k_ ∨ P4_ k_) ∨ w.heap.size ≤ k_)) (.slice A4 l4.length c4) l4) ∧ Aside0 (Kd.V (Kd.int .i64) 2 w' w.heap.size (fun k_ => ((P3_ k_ ∨ P4_ k_) ∨ w.heap.size ≤ k_)) u13 x13_7) ∧ Aside0 (Below w.heap.size w w'))
       case atStart => exact ⟨(x11_1), (0), (by first | rfl | (simp; done) | (simp [*]; done)), (by first | rfl | (simp; done) | (simp [*]; done)), H', ⟨Nat.le_refl _⟩, ⟨by (with_reducible repeat (first | apply Kd.V_alloc | apply Kd.V_drewN | apply Kd.V_drew)); exact HO_3.out⟩, ⟨by (with_reducible repeat (first | apply Kd.V_alloc | apply Kd.V_drewN | apply Kd.V_drew)); exact HO_4.out⟩, ⟨by (with_reducible repeat (first | apply Kd.V_alloc | apply Kd.V_drewN | apply Kd.V_drew)); exact HO_13.out⟩, ⟨by repeat (first | (with_reducible first | exact HB.out | apply below_alloc | apply pw_below_drewN | apply below_drew1) | exact HB.out)⟩⟩
       case round =>
        clear H'
        try clear c1
        try clear p2
        try clear c3
        try clear c4
        try clear c6
        try clear c6b0
        try clear c7
        try clear c7b0
        try clear c9
        try clear c9b0
        try clear c9b1
        try clear p2
        obtain ⟨x11_3, x14_3, rfl, rfl, HA, HK3, HO_3, HO_4, HO_13, HB⟩ := hrel
        cases gk with
        | zero => exact absurd HA.out (by simp [tidepoleref09_Fits.l1])
        | succ k3 =>
         have H := HA.out
         clear HA
         simp only [tidepoleref09_Fits.l1] at H
         by_cases c10 : x14_3 < (x13_7.length : Int)
         ·rw [if_pos c10] at H
          have c10b0 : decide (x14_3 < (x13_7.length : Int)) = true := decide_eq_true c10
          clear c10
          by_cases c11 : 0 ≤ x14_3
          ·rw [if_pos c11] at H
           have c11b0 : decide (0 ≤ x14_3) = true := decide_eq_true c11
           clear c11
           by_cases c12 : (rd x13_7 x14_3) < 0
           ·rw [if_pos c12] at H
            have c12b0 : decide ((rd x13_7 x14_3) < 0) = true := decide_eq_true c12
            clear c12
            obtain rfl := Option.some.inj H
            obtain ⟨Ao13, co13, eo13⟩ := Kd.V_slice HO_13.out
            subst eo13
            have p102 : 0 ≤ (x14_3 : Int) := of_decide_eq_true (by first | (with_reducible assumption) | assumption)
            have q102 : x14_3 < (x13_7.length : Int) := of_decide_eq_true (by first | (with_reducible assumption) | assumption)
            obtain ⟨ad102, e102, hx102_0⟩ := Kd.at_int (Kd.V_reads' HO_13.out).2.2 x14_3 p102 q102
            cases e102
            replace p102 := eq_true p102
            replace q102 := eq_true q102
            go_wp2
            go_ret
            exact ⟨by first | rfl | (simp [errW_none, errW_some] <;> rfl) | (simp [*, errW_none, errW_some] <;> rfl), by repeat (first | (with_reducible first | exact HB.out | apply below_alloc | apply pw_below_drewN | apply below_drew1) | exact HB.out)⟩
           ·rw [if_neg c12] at H
            have c12b0 : decide ((rd x13_7 x14_3) < 0) = false := decide_eq_false c12
            clear c12
            by_cases c14 : (IntKind.u64.wrap (rd x13_7 x14_3)) > x11_3
            ·rw [if_pos c14] at H
             have c14b0 : decide (x11_3 < (IntKind.u64.wrap (rd x13_7 x14_3))) = true := decide_eq_true c14
             clear c14
             obtain rfl := Option.some.inj H
             obtain ⟨Ao15, co15, eo15⟩ := Kd.V_slice HO_13.out
             subst eo15
             have p102 : 0 ≤ (x14_3 : Int) := of_decide_eq_true (by first | (with_reducible assumption) | assumption)
             have q102 : x14_3 < (x13_7.length : Int) := of_decide_eq_true (by first | (with_reducible assumption) | assumption)
             obtain ⟨ad102, e102, hx102_0⟩ := Kd.at_int (Kd.V_reads' HO_13.out).2.2 x14_3 p102 q102
             cases e102
             replace p102 := eq_true p102
             replace q102 := eq_true q102
             have p103 : 0 ≤ (x14_3 : Int) := of_decide_eq_true (by first | (with_reducible assumption) | assumption)
             have q103 : x14_3 < (x13_7.length : Int) := of_decide_eq_true (by first | (with_reducible assumption) | assumption)
             obtain ⟨ad103, e103, hx103_0⟩ := Kd.at_int (Kd.V_reads' HO_13.out).2.2 x14_3 p103 q103
             obtain rfl : ad102 = ad103 := (by injection e103)
             replace p103 := eq_true p103
             replace q103 := eq_true q103
             go_wp2
             go_ret
             exact ⟨by first | rfl | (simp [errW_none, errW_some] <;> rfl) | (simp [*, errW_none, errW_some] <;> rfl), by repeat (first | (with_reducible first | exact HB.out | apply below_alloc | apply pw_below_drewN | apply below_drew1) | exact HB.out)⟩
            ·rw [if_neg c14] at H
             have c14b0 : decide (x11_3 < (IntKind.u64.wrap (rd x13_7 x14_3))) = false := decide_eq_false c14
             clear c14
             have H' := Aside0.mk H
             clear H
             obtain ⟨Ao16, co16, eo16⟩ := Kd.V_slice HO_13.out
             subst eo16
             have p102 : 0 ≤ (x14_3 : Int) := of_decide_eq_true (by first | (with_reducible assumption) | assumption)
             have q102 : x14_3 < (x13_7.length : Int) := of_decide_eq_true (by first | (with_reducible assumption) | assumption)
             obtain ⟨ad102, e102, hx102_0⟩ := Kd.at_int (Kd.V_reads' HO_13.out).2.2 x14_3 p102 q102
             cases e102
             replace p102 := eq_true p102
             replace q102 := eq_true q102
             have p103 : 0 ≤ (x14_3 : Int) := of_decide_eq_true (by first | (with_reducible assumption) | assumption)
             have q103 : x14_3 < (x13_7.length : Int) := of_decide_eq_true (by first | (with_reducible assumption) | assumption)
             obtain ⟨ad103, e103, hx103_0⟩ := Kd.at_int (Kd.V_reads' HO_13.out).2.2 x14_3 p103 q103
             obtain rfl : ad102 = ad103 := (by injection e103)
             replace p103 := eq_true p103
             replace q103 := eq_true q103
             have p104 : 0 ≤ (x14_3 : Int) := of_decide_eq_true (by first | (with_reducible assumption) | assumption)
             have q104 : x14_3 < (x13_7.length : Int) := of_decide_eq_true (by first | (with_reducible assumption) | assumption)
             obtain ⟨ad104, e104, hx104_0⟩ := Kd.at_int (Kd.V_reads' HO_13.out).2.2 x14_3 p104 q104
             obtain rfl : ad102 = ad104 := (by injection e104)
             replace p104 := eq_true p104
             replace q104 := eq_true q104
             go_wp2
             go_roundg k3
             case measure => have := HK1.out; have := HJ7.out; have := HK3.out; omega
             case rel => exact ⟨(IntKind.u64.wrap (x11_3 - (IntKind.u64.wrap (rd x13_7 x14_3)))), (wrap64 (x14_3 + 1)), (by first | rfl | (simp; done) | (simp [*]; done)), (by first | rfl | (simp; done) | (simp [*]; done)), H', ⟨by have := HK1.out; have := HJ7.out; have := HK3.out; omega⟩, ⟨by (with_reducible repeat (first | apply Kd.V_alloc | apply Kd.V_drewN | apply Kd.V_drew)); exact HO_3.out⟩, ⟨by (with_reducible repeat (first | apply Kd.V_alloc | apply Kd.V_drewN | apply Kd.V_drew)); exact HO_4.out⟩, ⟨by (with_reducible repeat (first | apply Kd.V_alloc | apply Kd.V_drewN | apply Kd.V_drew)); exact HO_13.out⟩, ⟨by repeat (first | (with_reducible first | exact HB.out | apply below_alloc | apply pw_below_drewN | apply below_drew1) | exact HB.out)⟩⟩
          ·rw [if_neg c11] at H
           exact absurd H (by simp)
         ·rw [if_neg c10] at H
          have c10b0 : decide (x14_3 < (x13_7.length : Int)) = false := decide_eq_false c10
          clear c10
          have H' := Aside0.mk H
          clear H
          obtain ⟨Ao17, co17, eo17⟩ := Kd.V_slice HO_13.out
          subst eo17
          go_wp2
          go_roundg k3
          case measure => have := HK1.out; have := HJ7.out; have := HK3.out; omega
          case rel => exact ⟨(x11_3), (wrap64 (x12_1 + 1)), (by first | rfl | (simp; done) | (simp [*]; done)), (by first | rfl | (simp; done) | (simp [*]; done)), H', ⟨by have := HK1.out; have := HJ7.out; have := HK3.out; omega⟩, ⟨by (with_reducible repeat (first | apply Kd.V_alloc | apply Kd.V_drewN | apply Kd.V_drew)); exact HO_3.out⟩, ⟨by (with_reducible repeat (first | apply Kd.V_alloc | apply Kd.V_drewN | apply Kd.V_drew)); exact HO_4.out⟩, ⟨by repeat (first | (with_reducible first | exact HB.out | apply below_alloc | apply pw_below_drewN | apply below_drew1) | exact HB.out)⟩⟩
    ·rw [if_neg c7] at H
     have c7b0 : decide (x12_1 < 2) = false := decide_eq_false c7
     clear c7
     by_cases c18 : x11_1 > 0
     ·rw [if_pos c18] at H
      have c18b0 : decide (0 < x11_1) = true := decide_eq_true c18
      clear c18
      replace H := Option.bind_eq_some_iff.mp H
      obtain ⟨t101, A190, H⟩ := H
      replace H : (if t101 = true then (some 0) else (some 22)) = some r := H
      have A19 := Aside0.mk A190
      clear A190
      by_cases c20 : t101 = true
      ·subst c20
       have H1 : (some 0) = some r := by rw [if_pos rfl] at H; exact H
       clear H
       have H := H1
       clear H1
       obtain rfl := Option.some.inj H
       go_wp2_with (first | (go_at_call 73; (with_reducible refine (tidepoleref09_NaN.calls a2 true _ A19.out).mono ?_); rintro e w' ⟨rfl, ⟨nd, rfl⟩⟩; clear A19))
       go_ret
       exact ⟨by first | rfl | (simp [errW_none, errW_some] <;> rfl) | (simp [*, errW_none, errW_some] <;> rfl), by repeat (first | (with_reducible first | exact HB.out | apply below_alloc | apply pw_below_drewN | apply below_drew1) | exact HB.out)⟩
      ·replace c20 := Bool.eq_false_iff.mpr c20
       subst c20
       have H1 : (some 22) = some r := by rw [if_neg (show ¬ (false = true) by decide)] at H; exact H
       clear H
       have H := H1
       clear H1
       obtain rfl := Option.some.inj H
       go_wp2_with (first | (go_at_call 73; (with_reducible refine (tidepoleref09_NaN.calls a2 false _ A19.out).mono ?_); rintro e w' ⟨rfl, ⟨nd, rfl⟩⟩; clear A19))
       go_ret
       exact ⟨by first | rfl | (simp [errW_none, errW_some] <;> rfl) | (simp [*, errW_none, errW_some] <;> rfl), by repeat (first | (with_reducible first | exact HB.out | apply below_alloc | apply pw_below_drewN | apply below_drew1) | exact HB.out)⟩
     ·rw [if_neg c18] at H
      have c18b0 : decide (0 < x11_1) = false := decide_eq_false c18
      clear c18
      obtain rfl := Option.some.inj H
      go_wp2
      go_ret
      exact ⟨by first | rfl | (simp [errW_none, errW_some] <;> rfl) | (simp [*, errW_none, errW_some] <;> rfl), by repeat (first | (with_reducible first | exact HB.out | apply below_alloc | apply pw_below_drewN | apply below_drew1) | exact HB.out)⟩
end Go.Proofs.Ytacgeafjilipdaa.P
namespace Go.Proofs.Ytacgeafjilipdaa.P
open Go.RowKit Go.Proofs.YtacgeafjilipdaaW.PrintWords Go.Proofs.YtacgeafjilipdaaW.PrintLast Go.Proofs.YtacgeafjilipdaaW.PrintMore
attribute [local go_sem] max2_int min2_int max_two min_two max_three min_three max_four min_four
set_option linter.unusedVariables false
set_option linter.unusedSimpArgs false
attribute [local go_sem high] eqA144
def tidepolelaw09_one.f  : Option (Int × Int × Int × Int × Int × (List (S144)) × (List (S144)) × List Int × List Int) := some (0, 1, 1, 6, 0, (([(⟨3, 2⟩ : S144)] : List (S144))), ([] : List (S144)), (([5, (-5)] : List Int)), ([] : List Int))
set_option maxHeartbeats 8000000 in
set_option maxRecDepth 100000 in
theorem tidepolelaw09_one.calls  (r1 : Int) (r2 : Int) (r3 : Int) (r4 : Int) (r5 : Int) (r6 : List (S144)) (r7 : List (S144)) (r8 : List Int) (r9 : List Int) (w : World) (h : tidepolelaw09_one.f  = some (r1, r2, r3, r4, r5, r6, r7, r8, r9)) :
  Calls Try.prog 149 #[] w fun e w' => ∃ v5_ v6_ v7_ v8_ : Value, e = .returned (.agg #[.int .i64 r1, .int .u64 r2, .int .u64 r3, .int .u64 r4, .int .u64 r5, v5_, v6_, v7_, v8_]) ∧ Kd.R k144 144 w' w.heap.size (fun k_ => some k_ ≠ (v6_ : Value).ownBlock) v5_ r6 ∧ Kd.R k144 144 w' w.heap.size (fun k_ => some k_ ≠ (v5_ : Value).ownBlock) v6_ r7 ∧ Kd.R (Kd.int .i64) 2 w' w.heap.size (fun k_ => some k_ ≠ (v8_ : Value).ownBlock) v7_ r8 ∧ Kd.R (Kd.int .i64) 2 w' w.heap.size (fun k_ => some k_ ≠ (v7_ : Value).ownBlock) v8_ r9 ∧ Below w.heap.size w w' := by
 have hu64 := Try.underlying64
 have hu144 := Try.underlying144
 have HB := Aside0.mk (Below.refl w.heap.size w)
 have H : (some (0, 1, 1, 6, 0, (([(⟨3, 2⟩ : S144)] : List (S144))), ([] : List (S144)), (([5, (-5)] : List Int)), ([] : List Int))) = some (r1, r2, r3, r4, r5, r6, r7, r8, r9) := h
 clear h
 obtain ⟨y102, hy102⟩ : ∃ y_ : List (S144), y_ = (([(⟨3, 2⟩ : S144)] : List (S144))) := ⟨_, rfl⟩
 replace H : (some (0, 1, 1, 6, 0, y102, ([] : List (S144)), (([5, (-5)] : List Int)), ([] : List Int))) = some (r1, r2, r3, r4, r5, r6, r7, r8, r9) := by first | (rw [hy102]; with_reducible exact H) | (have H2_ := (Option.bind_some _ _).symm.trans H; rw [hy102]; with_reducible exact H2_) | (have H2_ := (Option.bind_some _ _).symm.trans H; with_reducible exact H2_) | with_reducible exact H | (rw [hy102]; exact H) | exact H
 have Ny102 := Aside0.mk hy102
 clear hy102
 obtain ⟨y105, hy105⟩ : ∃ y_ : List Int, y_ = (([5, (-5)] : List Int)) := ⟨_, rfl⟩
 replace H : (some (0, 1, 1, 6, 0, y102, ([] : List (S144)), y105, ([] : List Int))) = some (r1, r2, r3, r4, r5, r6, r7, r8, r9) := by first | (rw [hy105]; with_reducible exact H) | (have H2_ := (Option.bind_some _ _).symm.trans H; rw [hy105]; with_reducible exact H2_) | (have H2_ := (Option.bind_some _ _).symm.trans H; with_reducible exact H2_) | with_reducible exact H | (rw [hy105]; exact H) | exact H
 have Ny105 := Aside0.mk hy105
 clear hy105
 simp only [Option.some.injEq, Prod.mk.injEq] at H
 obtain ⟨rfl, rfl, rfl, rfl, rfl, rfl, rfl, rfl, rfl⟩ := H
 go_enter Try.func149, Try.ntmps149
 go_wp2_with (first | ((with_reducible refine gate_dst (N := 0) rfl ?_); refine box_event ?hg (N := 0) ?hd (cs := #[.int .i64 0, .int .u64 0, .int .u64 0, .int .u64 0, .int .u64 0, .slice none 0 0, .slice none 0 0, .slice none 0 0, .slice none 0 0]) (t := 64) ?hr ?_; (case hd => rfl); (case hg => rfl); (case hr => first | (go_simp; done) | (go_simp; rfl)); intro gb101 hg w1 hbox hb; have n0_ := Aside0.mk (below_step (by repeat (first | (with_reducible first | exact HB.out | apply below_alloc | apply pw_below_drewN | apply below_drew1) | exact HB.out)) hb); have n1_ := Aside0.mk (hbox); have n2_ := Aside0.mk ((by rw [hg]; exact (below_size (by repeat (first | (with_reducible first | exact HB.out | apply below_alloc | apply pw_below_drewN | apply below_drew1) | exact HB.out))) : w.heap.size ≤ gb101)); have n3_ := Aside0.mk ((by rw [hg]; exact (below_size (by repeat (first | (with_reducible first | exact HB.out | apply below_alloc | apply pw_below_drewN | apply below_drew1) | exact HB.out))) : w.heap.size ≤ gb101)); clear HB; have HB := n0_; have BK101 := n1_; have GW101 := n2_; have GE101 := n3_; clear n0_ n1_ n2_ n3_; clear hb hbox hg) | ((with_reducible refine gate_dst (N := 2) rfl ?_); refine Kd.R_lit k144 _ 144 ?hg (N := 2) ?hd (xs := ([(⟨3, 2⟩ : S144)] : List (S144))) (inner := [.int .i64 3, .int .i64 2]) (ok := fun _ => True) (okp := fun _ => True) ?hr ?hp (fun _ hk => hk) trivial (Below.refl _ _) (Nat.le_refl _) (by simp) ?_; (case hd => rfl); (case hg => rfl); (case hr => first | (go_simp; done) | (go_simp; rfl)); (case hp => exact (Reps.c2 (show Kd.M k144 _ _ _ (⟨3, 2⟩ : S144) [.int .i64 3, .int .i64 2] from (k144_mkM _ _ _ (⟨3, 2⟩ : S144) )) (Reps.none _ _))); intro v103 w2 ho3 hb hg_ hnew_; clear hg_ hnew_; (first | rw [← Ny102.out] at ho3 | (simp only [Int.reduceToNat] at ho3; rw [← Ny102.out] at ho3)); have n0_ := Aside0.mk (Kd.R_lower ho3 (below_size (by repeat (first | (with_reducible first | exact HB.out | apply below_alloc | apply pw_below_drewN | apply below_drew1 | refine below_set ?_ GE101.out) | exact HB.out)))); have n1_ := Aside0.mk (blk_below (g := gb101) (o := .cells #[.int .i64 0, .int .u64 0, .int .u64 0, .int .u64 0, .int .u64 0, .slice none 0 0, .slice none 0 0, .slice none 0 0, .slice none 0 0] 64 (0, 0)) (by (with_reducible repeat (first | refine blk_drewN ?_ _ | refine blk_drew ?_ | refine blk_alloc ?_ _)); exact BK101.out) hb); have n2_ := Aside0.mk (below_step (by repeat (first | (with_reducible first | exact HB.out | apply below_alloc | apply pw_below_drewN | apply below_drew1 | refine below_set ?_ GE101.out) | exact HB.out)) hb); clear BK101; clear HB; have HO104 := n0_; have BK101 := n1_; have HB := n2_; clear n0_ n1_ n2_; clear hb ho3) | ((with_reducible refine gate_dst (N := 3) rfl ?_); refine Kd.R_lit (Kd.int .i64) _ 2 ?hg (N := 3) ?hd (xs := ([5, (-5)] : List Int)) (inner := [.int .i64 5, .int .i64 (-5)]) (ok := fun _ => True) (okp := fun _ => True) ?hr ?hp (fun _ hk => hk) trivial (Below.refl _ _) (Nat.le_refl _) (by simp) ?_; (case hd => rfl); (case hg => rfl); (case hr => first | (go_simp; done) | (go_simp; rfl)); (case hp => exact (Reps.one (show Kd.M (Kd.int .i64) _ _ _ 5 [.int .i64 5] from rfl) (Reps.one (show Kd.M (Kd.int .i64) _ _ _ (-5) [.int .i64 (-5)] from rfl) (Reps.none _ _)))); intro v106 w4 ho5 hb hg_ hnew_; clear hg_ hnew_; (first | rw [← Ny105.out] at ho5 | (simp only [Int.reduceToNat] at ho5; rw [← Ny105.out] at ho5)); have n0_ := Aside0.mk (Kd.R_below (by (with_reducible repeat (first | apply Kd.R_alloc | apply Kd.R_drewN | apply Kd.R_drew)); exact HO104.out) hb); have n1_ := Aside0.mk (Kd.R_lower ho5 (below_size (by repeat (first | (with_reducible first | exact HB.out | apply below_alloc | apply pw_below_drewN | apply below_drew1 | refine below_set ?_ GE101.out) | exact HB.out)))); have n2_ := Aside0.mk (blk_below (g := gb101) (o := .cells #[.int .i64 0, .int .u64 0, .int .u64 0, .int .u64 0, .int .u64 0, .slice none 0 0, .slice none 0 0, .slice none 0 0, .slice none 0 0] 64 (0, 0)) (by (with_reducible repeat (first | refine blk_drewN ?_ _ | refine blk_drew ?_ | refine blk_alloc ?_ _)); exact BK101.out) hb); have n3_ := Aside0.mk (below_step (by repeat (first | (with_reducible first | exact HB.out | apply below_alloc | apply pw_below_drewN | apply below_drew1 | refine below_set ?_ GE101.out) | exact HB.out)) hb); clear HO104; clear BK101; clear HB; have HO104 := n0_; have HO107 := n1_; have BK101 := n2_; have HB := n3_; clear n0_ n1_ n2_ n3_; clear hb ho5; obtain ⟨Ao6, co6, eo6⟩ := Kd.R_slice HO107.out; subst eo6; obtain ⟨Ao7, co7, eo7⟩ := Kd.R_slice HO104.out; subst eo7; have hcz8_0 : w4.cell? ⟨gb101, 0, none⟩ = some (.int .i64 0) := (blk_cell BK101.out 0).trans rfl; have hcz8_1 : w4.cell? ⟨gb101, 1, none⟩ = some (.int .u64 0) := (blk_cell BK101.out 1).trans rfl; have hcz8_2 : w4.cell? ⟨gb101, 2, none⟩ = some (.int .u64 0) := (blk_cell BK101.out 2).trans rfl; have hcz8_3 : w4.cell? ⟨gb101, 3, none⟩ = some (.int .u64 0) := (blk_cell BK101.out 3).trans rfl; have hcz8_4 : w4.cell? ⟨gb101, 4, none⟩ = some (.int .u64 0) := (blk_cell BK101.out 4).trans rfl; have hcz8_5 : w4.cell? ⟨gb101, 5, none⟩ = some (.slice none 0 0) := (blk_cell BK101.out 5).trans rfl; have hcz8_6 : w4.cell? ⟨gb101, 6, none⟩ = some (.slice none 0 0) := (blk_cell BK101.out 6).trans rfl; have hcz8_7 : w4.cell? ⟨gb101, 7, none⟩ = some (.slice none 0 0) := (blk_cell BK101.out 7).trans rfl; have hcz8_8 : w4.cell? ⟨gb101, 8, none⟩ = some (.slice none 0 0) := (blk_cell BK101.out 8).trans rfl; have hfz8_0 := blk_frozen BK101.out 0; have hfz8_1 := blk_frozen BK101.out 1; have hfz8_2 := blk_frozen BK101.out 2; have hfz8_3 := blk_frozen BK101.out 3; have hfz8_4 := blk_frozen BK101.out 4; have hfz8_5 := blk_frozen BK101.out 5; have hfz8_6 := blk_frozen BK101.out 6; have hfz8_7 := blk_frozen BK101.out 7; have hfz8_8 := blk_frozen BK101.out 8))
 refine bodyPost_ret (results_cell_row rfl _ _ gb101 64 #[.int .i64 0, .int .u64 1, .int .u64 1, .int .u64 6, .int .u64 0, .slice Ao7 y102.length co7, .slice none 0 0, .slice Ao6 y105.length co6, .slice none 0 0] (0, 0) _ rfl (by (with_reducible repeat (first | refine blk_drewN ?_ _ | refine blk_drew ?_ | refine blk_alloc ?_ _)); refine blk_put (cs := #[.int .i64 0, .int .u64 1, .int .u64 1, .int .u64 6, .int .u64 0, .slice Ao7 y102.length co7, .slice none 0 0, .slice Ao6 y105.length co6, .slice none 0 0]) ?_ 8 _ rfl; (with_reducible repeat (first | refine blk_drewN ?_ _ | refine blk_drew ?_ | refine blk_alloc ?_ _)); refine blk_put (cs := #[.int .i64 0, .int .u64 1, .int .u64 1, .int .u64 6, .int .u64 0, .slice Ao7 y102.length co7, .slice none 0 0, .slice none 0 0, .slice none 0 0]) ?_ 7 _ rfl; (with_reducible repeat (first | refine blk_drewN ?_ _ | refine blk_drew ?_ | refine blk_alloc ?_ _)); refine blk_put (cs := #[.int .i64 0, .int .u64 1, .int .u64 1, .int .u64 6, .int .u64 0, .slice Ao7 y102.length co7, .slice none 0 0, .slice none 0 0, .slice none 0 0]) ?_ 6 _ rfl; (with_reducible repeat (first | refine blk_drewN ?_ _ | refine blk_drew ?_ | refine blk_alloc ?_ _)); refine blk_put (cs := #[.int .i64 0, .int .u64 1, .int .u64 1, .int .u64 6, .int .u64 0, .slice none 0 0, .slice none 0 0, .slice none 0 0, .slice none 0 0]) ?_ 5 _ rfl; (with_reducible repeat (first | refine blk_drewN ?_ _ | refine blk_drew ?_ | refine blk_alloc ?_ _)); refine blk_put (cs := #[.int .i64 0, .int .u64 1, .int .u64 1, .int .u64 6, .int .u64 0, .slice none 0 0, .slice none 0 0, .slice none 0 0, .slice none 0 0]) ?_ 4 _ rfl; (with_reducible repeat (first | refine blk_drewN ?_ _ | refine blk_drew ?_ | refine blk_alloc ?_ _)); refine blk_put (cs := #[.int .i64 0, .int .u64 1, .int .u64 1, .int .u64 0, .int .u64 0, .slice none 0 0, .slice none 0 0, .slice none 0 0, .slice none 0 0]) ?_ 3 _ rfl; (with_reducible repeat (first | refine blk_drewN ?_ _ | refine blk_drew ?_ | refine blk_alloc ?_ _)); refine blk_put (cs := #[.int .i64 0, .int .u64 1, .int .u64 0, .int .u64 0, .int .u64 0, .slice none 0 0, .slice none 0 0, .slice none 0 0, .slice none 0 0]) ?_ 2 _ rfl; (with_reducible repeat (first | refine blk_drewN ?_ _ | refine blk_drew ?_ | refine blk_alloc ?_ _)); refine blk_put (cs := #[.int .i64 0, .int .u64 0, .int .u64 0, .int .u64 0, .int .u64 0, .slice none 0 0, .slice none 0 0, .slice none 0 0, .slice none 0 0]) ?_ 1 _ rfl; (with_reducible repeat (first | refine blk_drewN ?_ _ | refine blk_drew ?_ | refine blk_alloc ?_ _)); refine blk_put (cs := #[.int .i64 0, .int .u64 0, .int .u64 0, .int .u64 0, .int .u64 0, .slice none 0 0, .slice none 0 0, .slice none 0 0, .slice none 0 0]) ?_ 0 _ rfl; (with_reducible repeat (first | refine blk_drewN ?_ _ | refine blk_drew ?_ | refine blk_alloc ?_ _)); exact BK101.out) Try.underlying64 rfl (by kernel_rfl)) rfl ?_
 exact ⟨_, _, _, _, by first | rfl | (simp [errW_none, errW_some] <;> rfl) | (simp [*, errW_none, errW_some] <;> rfl), by (with_reducible repeat (first | apply Kd.R_alloc | apply Kd.R_drewN | apply Kd.R_drew)); exact Kd.R_mono (Kd.R_far (p := ⟨gb101, 8, none⟩) (Kd.R_far (p := ⟨gb101, 7, none⟩) (Kd.R_far (p := ⟨gb101, 6, none⟩) (Kd.R_far (p := ⟨gb101, 5, none⟩) (Kd.R_far (p := ⟨gb101, 4, none⟩) (Kd.R_far (p := ⟨gb101, 3, none⟩) (Kd.R_far (p := ⟨gb101, 2, none⟩) (Kd.R_far (p := ⟨gb101, 1, none⟩) (Kd.R_far (p := ⟨gb101, 0, none⟩) (Kd.R_types HO104.out BK101.out (by decide)) (fun _ hk => hk.2) (.int .i64 0)) (fun _ hk => hk.2) (.int .u64 1)) (fun _ hk => hk.2) (.int .u64 1)) (fun _ hk => hk.2) (.int .u64 6)) (fun _ hk => hk.2) (.int .u64 0)) (fun _ hk => hk.2) (.slice Ao7 y102.length co7)) (fun _ hk => hk.2) (.slice none 0 0)) (fun _ hk => hk.2) (.slice Ao6 y105.length co6)) (fun _ hk => hk.2) (.slice none 0 0)) (fun _ hk => (by simp [Value.ownBlock])), by first | exact Kd.R_nil _ _ _ _ _ | exact Kd.N_nil _ _ _ _ _ | exact Kd.V_nil _ _ _ _ _ | exact Kd.Q_nil _ _ _ _ _ | exact Kd.S_nil _ _ _ _ _, by (with_reducible repeat (first | apply Kd.R_alloc | apply Kd.R_drewN | apply Kd.R_drew)); exact Kd.R_mono (Kd.R_far (p := ⟨gb101, 8, none⟩) (Kd.R_far (p := ⟨gb101, 7, none⟩) (Kd.R_far (p := ⟨gb101, 6, none⟩) (Kd.R_far (p := ⟨gb101, 5, none⟩) (Kd.R_far (p := ⟨gb101, 4, none⟩) (Kd.R_far (p := ⟨gb101, 3, none⟩) (Kd.R_far (p := ⟨gb101, 2, none⟩) (Kd.R_far (p := ⟨gb101, 1, none⟩) (Kd.R_far (p := ⟨gb101, 0, none⟩) (Kd.R_types HO107.out BK101.out (by decide)) (fun _ hk => hk.2) (.int .i64 0)) (fun _ hk => hk.2) (.int .u64 1)) (fun _ hk => hk.2) (.int .u64 1)) (fun _ hk => hk.2) (.int .u64 6)) (fun _ hk => hk.2) (.int .u64 0)) (fun _ hk => hk.2) (.slice Ao7 y102.length co7)) (fun _ hk => hk.2) (.slice none 0 0)) (fun _ hk => hk.2) (.slice Ao6 y105.length co6)) (fun _ hk => hk.2) (.slice none 0 0)) (fun _ hk => (by simp [Value.ownBlock])), by first | exact Kd.R_nil _ _ _ _ _ | exact Kd.N_nil _ _ _ _ _ | exact Kd.V_nil _ _ _ _ _ | exact Kd.Q_nil _ _ _ _ _ | exact Kd.S_nil _ _ _ _ _, by repeat (first | (with_reducible first | exact HB.out | apply below_alloc | apply pw_below_drewN | apply below_drew1 | refine below_set ?_ GE101.out) | exact HB.out)⟩
end Go.Proofs.Ytacgeafjilipdaa.P
namespace Go.Proofs.Ytacgeafjilipdaa.P
open Go.RowKit Go.Proofs.YtacgeafjilipdaaW.PrintWords Go.Proofs.YtacgeafjilipdaaW.PrintLast Go.Proofs.YtacgeafjilipdaaW.PrintMore
attribute [local go_sem] max2_int min2_int max_two min_two max_three min_three max_four min_four
set_option linter.unusedVariables false
set_option linter.unusedSimpArgs false
def tidepolelaw09_apart.l0 : Nat → List Int → List Int → List (S26) → Int → Int → Option (List Int × List Int × Int)
 | 0, _, _, _, _, _ => none
 | k + 1, x5, x6, x11, x12, x13 => if x13 < x12 then (if 0 ≤ x13 then (if x13 < (x11.length : Int) then ((some (([(rd_T26 x11 x13).f0] : List Int) : List Int)).bind fun y103 => (if x5.length + y103.length < 17592186044416 then ((some (([(rd_T26 x11 x13).f1] : List Int) : List Int)).bind fun y109 => (if x6.length + y109.length < 17592186044416 then (tidepolelaw09_apart.l0 k (x5 ++ y103) (x6 ++ y109) x11 x12 (wrap64 (x13 + 1))) else (none))) else (none))) else (none)) else (none)) else ((tidepoleref06_Rising.f k x5).bind fun t115 => (if t115 = true then ((tidepoleref07_Deltas.f k x6).bind fun bt116 => (if bt116.2 = 1 then (some (([] : List Int), ([] : List Int), 28)) else (some (x5, x6, 0)))) else (some (([] : List Int), ([] : List Int), 11))))
def tidepolelaw09_apart.f (k : Nat) (l0 : List (S26)) : Option (List Int × List Int × Int) := tidepolelaw09_apart.l0 k ([] : List Int) ([] : List Int) l0 (l0.length : Int) 0
def tidepolelaw09_apart.T6 : Bool × List (List Nat × List Nat) := (true, [([], []), ([], []), ([1], [1]), ([2], [2]), ([0, 3], [0, 3]), ([], []), ([], []), ([6], [6]), ([7], [7]), ([5, 8, 4], [5, 8]), ([4, 9, 0, 1, 2, 3, 4], [0, 4]), ([9, 10, 0, 1, 2, 3, 4, 5, 6, 7, 8, 9, 10], [5, 9])])
def tidepolelaw09_apart.B6 : List Nat := [0, 0, 2, 6, 15, 0, 0, 64, 192, 511, 1023, 2047]
theorem tidepolelaw09_apart.tab6 : rtab .any (opsOf Try.f153 6) = tidepolelaw09_apart.T6 := by kernel_rfl
theorem tidepolelaw09_apart.bits6 : waitsOk tidepolelaw09_apart.T6.2 tidepolelaw09_apart.B6 = true := by kernel_rfl
set_option maxHeartbeats 8000000 in
set_option maxRecDepth 100000 in
theorem tidepolelaw09_apart.calls (k : Nat) (A0 : Option Addr) (c0 : Nat) (l0 : List (S26)) (r1 : List Int) (r2 : List Int) (r3 : Int) (w : World) (hr0 : Kd.C k26 w A0 l0.length l0) (hc0 : l0.length ≤ c0) (h : tidepolelaw09_apart.f k l0 = some (r1, r2, r3)) :
  Calls Try.prog 153 #[.slice A0 l0.length c0] w fun e w' => ∃ v0_ v1_ : Value, e = .returned (.tuple #[v0_, v1_, .int .i64 r3]) ∧ Kd.R (Kd.int .i64) 3 w' w.heap.size (fun _ => True) v0_ r1 ∧ Kd.R (Kd.int .i64) 2 w' w.heap.size (fun _ => True) v1_ r2 ∧ Below w.heap.size w w' := by
 have hu26 := Try.underlying26
 have HR0 := Aside0.mk hr0
 have HC0 := Aside0.mk hc0
 clear hr0 hc0
 have HB := Aside0.mk (Below.refl w.heap.size w)
 have H : (tidepolelaw09_apart.l0 k ([] : List Int) ([] : List Int) l0 (l0.length : Int) 0) = some (r1, r2, r3) := h
 clear h
 have H' := Aside0.mk H
 clear H
 go_enter Try.func153, Try.ntmps153
 go_wp2
 go_loopg [5, 6, 13] k (fun kq v5 v6 v13 w' => ∃ (x5_1 : List Int) (x6_1 : List Int) (x13_1 : Int), v13 = .int .i64 x13_1 ∧ Aside0 (tidepolelaw09_apart.l0 kq x5_1 x6_1 l0 (l0.length : Int) x13_1 = some (r1, r2, r3)) ∧ Aside0 (kq ≤ k) ∧ Aside0 (Kd.R (Kd.int .i64) 3 w' w.heap.size (fun _ => True) v5 x5_1) ∧ Aside0 (Kd.R (Kd.int .i64) 2 w' w.heap.size (fun _ => True) v6 x6_1) ∧ Aside0 (Below w.heap.size w w'))
 case atStart => exact ⟨(([] : List Int)), (([] : List Int)), (0), (by first | rfl | (simp; done) | (simp [*]; done)), H', ⟨Nat.le_refl _⟩, ⟨by first | exact Kd.R_nil _ _ _ _ _ | exact Kd.N_nil _ _ _ _ _ | exact Kd.V_nil _ _ _ _ _ | exact Kd.Q_nil _ _ _ _ _ | exact Kd.S_nil _ _ _ _ _⟩, ⟨by first | exact Kd.R_nil _ _ _ _ _ | exact Kd.N_nil _ _ _ _ _ | exact Kd.V_nil _ _ _ _ _ | exact Kd.Q_nil _ _ _ _ _ | exact Kd.S_nil _ _ _ _ _⟩, ⟨by repeat (first | (with_reducible first | exact HB.out | apply below_alloc | apply pw_below_drewN | apply below_drew1) | exact HB.out)⟩⟩
 case round =>
  clear H'
  try clear c1
  obtain ⟨x5_1, x6_1, x13_1, rfl, HA, HK1, HO_5, HO_6, HB⟩ := hrel
  cases gk with
  | zero => exact absurd HA.out (by simp [tidepolelaw09_apart.l0])
  | succ k1 =>
   have H := HA.out
   clear HA
   simp only [tidepolelaw09_apart.l0] at H
   by_cases c2 : x13_1 < (l0.length : Int)
   ·rw [if_pos c2] at H
    have c2b0 : decide (x13_1 < (l0.length : Int)) = true := decide_eq_true c2
    clear c2
    by_cases c3 : 0 ≤ x13_1
    ·rw [if_pos c3] at H
     have c3b0 : decide (0 ≤ x13_1) = true := decide_eq_true c3
     clear c3
     by_cases c4 : x13_1 < (l0.length : Int)
     ·rw [if_pos c4] at H
      have c4b0 : decide (x13_1 < (l0.length : Int)) = true := decide_eq_true c4
      clear c4
      obtain ⟨y103, hy103⟩ : ∃ y_ : List Int, y_ = (([(rd_T26 l0 x13_1).f0] : List Int)) := ⟨_, rfl⟩
      replace H : (if x5_1.length + y103.length < 17592186044416 then ((some (([(rd_T26 l0 x13_1).f1] : List Int) : List Int)).bind fun y109 => (if x6_1.length + y109.length < 17592186044416 then (tidepolelaw09_apart.l0 k1 (x5_1 ++ y103) (x6_1 ++ y109) l0 (l0.length : Int) (wrap64 (x13_1 + 1))) else (none))) else (none)) = some (r1, r2, r3) := by first | (rw [hy103]; with_reducible exact H) | (have H2_ := (Option.bind_some _ _).symm.trans H; rw [hy103]; with_reducible exact H2_) | (have H2_ := (Option.bind_some _ _).symm.trans H; with_reducible exact H2_) | with_reducible exact H | (rw [hy103]; exact H) | exact H
      have Ny103 := Aside0.mk hy103
      clear hy103
      by_cases c5 : x5_1.length + y103.length < 17592186044416
      ·rw [if_pos c5] at H
       have LMc5 := Aside0.mk c5
       clear c5
       obtain ⟨y106, hy106⟩ : ∃ y_ : List Int, y_ = (x5_1 ++ y103) := ⟨_, rfl⟩
       replace H : ((some (([(rd_T26 l0 x13_1).f1] : List Int) : List Int)).bind fun y109 => (if x6_1.length + y109.length < 17592186044416 then (tidepolelaw09_apart.l0 k1 y106 (x6_1 ++ y109) l0 (l0.length : Int) (wrap64 (x13_1 + 1))) else (none))) = some (r1, r2, r3) := by first | (rw [hy106]; with_reducible exact H) | (have H2_ := (Option.bind_some _ _).symm.trans H; rw [hy106]; with_reducible exact H2_) | (have H2_ := (Option.bind_some _ _).symm.trans H; with_reducible exact H2_) | with_reducible exact H | (rw [hy106]; exact H) | exact H
       have Ny106 := Aside0.mk hy106
       clear hy106
       obtain ⟨y109, hy109⟩ : ∃ y_ : List Int, y_ = (([(rd_T26 l0 x13_1).f1] : List Int)) := ⟨_, rfl⟩
       replace H : (if x6_1.length + y109.length < 17592186044416 then (tidepolelaw09_apart.l0 k1 y106 (x6_1 ++ y109) l0 (l0.length : Int) (wrap64 (x13_1 + 1))) else (none)) = some (r1, r2, r3) := by first | (rw [hy109]; with_reducible exact H) | (have H2_ := (Option.bind_some _ _).symm.trans H; rw [hy109]; with_reducible exact H2_) | (have H2_ := (Option.bind_some _ _).symm.trans H; with_reducible exact H2_) | with_reducible exact H | (rw [hy109]; exact H) | exact H
       have Ny109 := Aside0.mk hy109
       clear hy109
       by_cases c6 : x6_1.length + y109.length < 17592186044416
       ·rw [if_pos c6] at H
        have LMc6 := Aside0.mk c6
        clear c6
        obtain ⟨y112, hy112⟩ : ∃ y_ : List Int, y_ = (x6_1 ++ y109) := ⟨_, rfl⟩
        replace H : (tidepolelaw09_apart.l0 k1 y106 y112 l0 (l0.length : Int) (wrap64 (x13_1 + 1))) = some (r1, r2, r3) := by first | (rw [hy112]; with_reducible exact H) | (have H2_ := (Option.bind_some _ _).symm.trans H; rw [hy112]; with_reducible exact H2_) | (have H2_ := (Option.bind_some _ _).symm.trans H; with_reducible exact H2_) | with_reducible exact H | (rw [hy112]; exact H) | exact H
        have Ny112 := Aside0.mk hy112
        clear hy112
        have H' := Aside0.mk H
        clear H
        have p101 : 0 ≤ (x13_1 : Int) := of_decide_eq_true (by first | (with_reducible assumption) | assumption)
        have q101 : x13_1 < (l0.length : Int) := of_decide_eq_true (by first | (with_reducible assumption) | assumption)
        obtain ⟨ad101, e101, hx101_0, hx101_1⟩ := at_T26 HR0.out x13_1 p101 q101
        cases e101
        replace hx101_0 := (HB.out.cell (World.block_lt_of_cell? w _ hx101_0)).trans hx101_0
        replace hx101_1 := (HB.out.cell (World.block_lt_of_cell? w _ hx101_1)).trans hx101_1
        replace p101 := eq_true p101
        replace q101 := eq_true q101
        try go_wp2_with (first | ((with_reducible refine gate_dst (N := 8) rfl ?_); refine box_event ?hg (N := 8) ?hd (cs := #[.int .i64 0, .int .i64 0]) (t := 26) ?hr ?_; (case hd => rfl); (case hg => rfl); (case hr => first | (go_simp; done) | (go_simp; rfl)); intro gb102 hg w7 hbox hb; have n0_ := Aside0.mk (Kd.R_below (by (with_reducible repeat (first | apply Kd.R_alloc | apply Kd.R_drewN | apply Kd.R_drew)); exact HO_5.out) hb); have n1_ := Aside0.mk (Kd.R_below (by (with_reducible repeat (first | apply Kd.R_alloc | apply Kd.R_drewN | apply Kd.R_drew)); exact HO_6.out) hb); have n2_ := Aside0.mk (below_step (by repeat (first | (with_reducible first | exact HB.out | apply below_alloc | apply pw_below_drewN | apply below_drew1) | exact HB.out)) hb); have n3_ := Aside0.mk (hbox); have n4_ := Aside0.mk ((by rw [hg]; exact (below_size (by repeat (first | (with_reducible first | exact HB.out | apply below_alloc | apply pw_below_drewN | apply below_drew1) | exact HB.out))) : w.heap.size ≤ gb102)); have n5_ := Aside0.mk ((by rw [hg]; exact (below_size (by repeat (first | (with_reducible first | exact HB.out | apply below_alloc | apply pw_below_drewN | apply below_drew1) | exact HB.out))) : w.heap.size ≤ gb102)); clear HO_5; clear HO_6; clear HB; have HO_5 := n0_; have HO_6 := n1_; have HB := n2_; have BK102 := n3_; have GW102 := n4_; have GE102 := n5_; clear n0_ n1_ n2_ n3_ n4_ n5_; clear hb hbox hg; have hcz8_0 : w7.cell? ⟨gb102, 0, none⟩ = some (.int .i64 0) := (blk_cell BK102.out 0).trans rfl; have hcz8_1 : w7.cell? ⟨gb102, 1, none⟩ = some (.int .i64 0) := (blk_cell BK102.out 1).trans rfl; have hfz8_0 := blk_frozen BK102.out 0; have hfz8_1 := blk_frozen BK102.out 1; obtain ⟨Ao9, co9, eo9⟩ := Kd.R_slice HO_5.out; subst eo9; obtain ⟨Ao10, co10, eo10⟩ := Kd.R_slice HO_6.out; subst eo10))
        have n0_ : Aside0 (Kd.R (Kd.int .i64) 3 ((w7.setCell ⟨gb102, 0, none⟩ (.int .i64 ((rd_T26 l0 x13_1).f0))).setCell ⟨gb102, 1, none⟩ (.int .i64 ((rd_T26 l0 x13_1).f1))) w.heap.size (fun _ => True) (.slice Ao9 x5_1.length co9) x5_1) := ⟨by (with_reducible repeat (first | apply Kd.R_alloc | apply Kd.R_drewN | apply Kd.R_drew)); exact Kd.R_mono (Kd.R_far (p := ⟨gb102, 1, none⟩) (Kd.R_far (p := ⟨gb102, 0, none⟩) (Kd.R_types HO_5.out BK102.out (by decide)) (fun _ hk => hk.2) (.int .i64 ((rd_T26 l0 x13_1).f0))) (fun _ hk => hk.2) (.int .i64 ((rd_T26 l0 x13_1).f1))) (fun _ hk => trivial)⟩
        have n1_ : Aside0 (Kd.R (Kd.int .i64) 2 ((w7.setCell ⟨gb102, 0, none⟩ (.int .i64 ((rd_T26 l0 x13_1).f0))).setCell ⟨gb102, 1, none⟩ (.int .i64 ((rd_T26 l0 x13_1).f1))) w.heap.size (fun _ => True) (.slice Ao10 x6_1.length co10) x6_1) := ⟨by (with_reducible repeat (first | apply Kd.R_alloc | apply Kd.R_drewN | apply Kd.R_drew)); exact Kd.R_mono (Kd.R_far (p := ⟨gb102, 1, none⟩) (Kd.R_far (p := ⟨gb102, 0, none⟩) (Kd.R_types HO_6.out BK102.out (by decide)) (fun _ hk => hk.2) (.int .i64 ((rd_T26 l0 x13_1).f0))) (fun _ hk => hk.2) (.int .i64 ((rd_T26 l0 x13_1).f1))) (fun _ hk => trivial)⟩
        have n2_ : Aside0 (((w7.setCell ⟨gb102, 0, none⟩ (.int .i64 ((rd_T26 l0 x13_1).f0))).setCell ⟨gb102, 1, none⟩ (.int .i64 ((rd_T26 l0 x13_1).f1))).heap[gb102]? = some (.cells #[.int .i64 ((rd_T26 l0 x13_1).f0), .int .i64 ((rd_T26 l0 x13_1).f1)] 26 (0, 0))) := ⟨by (with_reducible repeat (first | refine blk_drewN ?_ _ | refine blk_drew ?_ | refine blk_alloc ?_ _)); refine blk_put (cs := #[.int .i64 ((rd_T26 l0 x13_1).f0), .int .i64 0]) ?_ 1 _ rfl; (with_reducible repeat (first | refine blk_drewN ?_ _ | refine blk_drew ?_ | refine blk_alloc ?_ _)); refine blk_put (cs := #[.int .i64 0, .int .i64 0]) ?_ 0 _ rfl; (with_reducible repeat (first | refine blk_drewN ?_ _ | refine blk_drew ?_ | refine blk_alloc ?_ _)); exact BK102.out⟩
        have n3_ : Aside0 (Below w.heap.size w ((w7.setCell ⟨gb102, 0, none⟩ (.int .i64 ((rd_T26 l0 x13_1).f0))).setCell ⟨gb102, 1, none⟩ (.int .i64 ((rd_T26 l0 x13_1).f1)))) := ⟨by repeat (first | (with_reducible first | exact HB.out | apply below_alloc | apply pw_below_drewN | apply below_drew1 | refine below_set ?_ GE102.out) | exact HB.out)⟩
        (try clear HO_5)
        (try clear HO_6)
        (try clear BK102)
        (try clear HB)
        generalize ((w7.setCell ⟨gb102, 0, none⟩ (.int .i64 ((rd_T26 l0 x13_1).f0))).setCell ⟨gb102, 1, none⟩ (.int .i64 ((rd_T26 l0 x13_1).f1))) = w11 at n0_ n1_ n2_ n3_ ⊢
        have HO_5 := n0_
        have HO_6 := n1_
        have BK102 := n2_
        have HB := n3_
        clear n0_ n1_ n2_ n3_
        have n0_ := Aside0.mk (Kd.R_drew HO_5.out)
        have n1_ := Aside0.mk (Kd.R_drew HO_6.out)
        have n2_ := Aside0.mk (blk_drew BK102.out)
        have n3_ := Aside0.mk (below_drew1 HB.out)
        clear HO_5
        clear HO_6
        clear BK102
        clear HB
        have HO_5 := n0_
        have HO_6 := n1_
        have BK102 := n2_
        have HB := n3_
        clear n0_ n1_ n2_ n3_
        refine start_ (n := 12) (S := fun w' => w'.cell? ⟨gb102, 0, none⟩ = some (.int .i64 ((rd_T26 l0 x13_1).f0)) ∧ w'.cell? ⟨gb102, 1, none⟩ = some (.int .i64 ((rd_T26 l0 x13_1).f1))) (ds := []) #[false, false, false, false, false, false, false, false, false, false, false, false] (by kernel_rfl) rfl rfl ⟨(blk_cell BK102.out 0).trans rfl, (blk_cell BK102.out 1).trans rfl⟩ (fun hHeld => ?_); refine with_tabW tidepolelaw09_apart.tab6 tidepolelaw09_apart.bits6 (fun HT_ HW_ => ?_)
        generalize w11.drew = w12 at HO_5 HO_6 BK102 HB hHeld ⊢
        refine pure_ (i := 0) (N := some 17) (v := ?_) (a' := ?_) #[true, false, false, false, false, false, false, false, false, false, false, false] rfl rfl (any_of HT_.out (by kernel_rfl)) (fun _ _ _ h => h) (Or.inl ⟨by rfl, ?_⟩) ?_ ?_
        rotate_left
        ·intro w'
         go_simp
         with_reducible rfl
        rotate_left
        ·simp only [Act.put, List.setIfInBounds_toArray, List.set_cons_zero, List.set_cons_succ, i64_w, i32_w]
         rfl
        refine pure_ (i := 1) (N := some 18) (v := ?_) (a' := ?_) #[true, true, false, false, false, false, false, false, false, false, false, false] rfl rfl (any_of HT_.out (by kernel_rfl)) (fun _ _ _ h => h) (Or.inl ⟨by rfl, ?_⟩) ?_ ?_
        rotate_left
        ·intro w'
         go_simp
         with_reducible rfl
        rotate_left
        ·simp only [Act.put, List.setIfInBounds_toArray, List.set_cons_zero, List.set_cons_succ, i64_w, i32_w]
         rfl
        refine pure_ (i := 5) (N := some 22) (v := ?_) (a' := ?_) #[true, true, false, false, false, true, false, false, false, false, false, false] rfl rfl (any_of HT_.out (by kernel_rfl)) (fun _ _ _ h => h) (Or.inl ⟨by rfl, ?_⟩) ?_ ?_
        rotate_left
        ·intro w'
         go_simp
         with_reducible rfl
        rotate_left
        ·simp only [Act.put, List.setIfInBounds_toArray, List.set_cons_zero, List.set_cons_succ, i64_w, i32_w]
         rfl
        refine pure_ (i := 6) (N := some 23) (v := ?_) (a' := ?_) #[true, true, false, false, false, true, true, false, false, false, false, false] rfl rfl (any_of HT_.out (by kernel_rfl)) (fun _ _ _ h => h) (Or.inl ⟨by rfl, ?_⟩) ?_ ?_
        rotate_left
        ·intro w'
         go_simp
         with_reducible rfl
        rotate_left
        ·simp only [Act.put, List.setIfInBounds_toArray, List.set_cons_zero, List.set_cons_succ, i64_w, i32_w]
         rfl
        refine take_ (i := 2) (N := some 19) (v := ?_) (a' := ?_) #[true, true, true, false, false, true, true, false, false, false, false, false] rfl rfl (take_ofW HT_.out HW_.out (by kernel_rfl)) (fun _ _ _ h => h) (Or.inl ⟨by rfl, ?_⟩) hHeld ?_ ?_
        rotate_left
        ·rintro w' ⟨s0, s1⟩
         go_simp
         with_reducible rfl
        rotate_left
        ·simp only [Act.put, List.setIfInBounds_toArray, List.set_cons_zero, List.set_cons_succ, i64_w, i32_w]
         rfl
        refine take_ (i := 7) (N := some 24) (v := ?_) (a' := ?_) #[true, true, true, false, false, true, true, true, false, false, false, false] rfl rfl (take_ofW HT_.out HW_.out (by kernel_rfl)) (fun _ _ _ h => h) (Or.inl ⟨by rfl, ?_⟩) hHeld ?_ ?_
        rotate_left
        ·rintro w' ⟨s0, s1⟩
         go_simp
         with_reducible rfl
        rotate_left
        ·simp only [Act.put, List.setIfInBounds_toArray, List.set_cons_zero, List.set_cons_succ, i64_w, i32_w]
         rfl
        refine join_ (σ := Value × Value × Value) 3 #[true, true, true, true, true, true, true, true, true, false, false, false] (fun s_ => [(20, s_.1), (21, s_.2.1), (25, s_.2.2)]) (fun s_ w' => (w'.cell? ⟨gb102, 0, none⟩ = some (.int .i64 ((rd_T26 l0 x13_1).f0)) ∧ w'.cell? ⟨gb102, 1, none⟩ = some (.int .i64 ((rd_T26 l0 x13_1).f1))) ∧ (Kd.R (Kd.int .i64) 3 w' w.heap.size (fun k_ => some k_ ≠ (s_.2.1 : Value).ownBlock) s_.1 y103) ∧ (Kd.R (Kd.int .i64) 3 w' w.heap.size (fun k_ => some k_ ≠ (s_.1 : Value).ownBlock) s_.2.1 y106) ∧ (Kd.R (Kd.int .i64) 2 w' w.heap.size (fun k_ => some k_ ≠ (.slice Ao10 x6_1.length co10 : Value).ownBlock) s_.2.2 y109) ∧ (Kd.R (Kd.int .i64) 2 w' w.heap.size (fun k_ => some k_ ≠ (s_.2.2 : Value).ownBlock) (.slice Ao10 x6_1.length co10) x6_1) ∧ (w'.heap[gb102]? = some (.cells #[.int .i64 ((rd_T26 l0 x13_1).f0), .int .i64 ((rd_T26 l0 x13_1).f1)] 26 (0, 0))) ∧ (Below w.heap.size w w')) ?_ ?_
        rotate_left
        ·intro hCont
         refine two_ (i := 3) (j := 8) (Ni := some 20) (Nj := some 25) #[true, true, true, true, false, true, true, true, false, false, false, false] #[true, true, true, false, false, true, true, true, true, false, false, false] rfl rfl rfl rfl (two_of HT_.out (by kernel_rfl)) (by decide) (by decide) (fun K hK => ?_) (fun K hK => ?_)
         ·skip
          refine Kd.R_lit_step (Kd.int .i64) _ 3 ?hg (N := 20) ?hd (xs := ([(rd_T26 l0 x13_1).f0] : List Int)) (inner := [.int .i64 ((rd_T26 l0 x13_1).f0)]) (ok := fun _ => True) (okp := fun _ => True) ?hr ?hp (fun _ hk => hk) trivial (Below.refl _ _) (Nat.le_refl _) (by simp) ?_; (case hd => rfl); (case hg => rfl); (case hr => first | (go_simp; done) | (go_simp; rfl)); (case hp => exact (Reps.one (show Kd.M (Kd.int .i64) _ _ _ ((rd_T26 l0 x13_1).f0) [.int .i64 ((rd_T26 l0 x13_1).f0)] from rfl) (Reps.none _ _)))
          intro v104 w13 ho14 hb hg_ hnew_
          clear hg_ hnew_
          (first | rw [← Ny103.out] at ho14 | (simp only [Int.reduceToNat] at ho14; rw [← Ny103.out] at ho14))
          have n0_ := Aside0.mk (Kd.R_elder' (by (with_reducible repeat (first | apply Kd.R_alloc | apply Kd.R_drewN | apply Kd.R_drew)); exact HO_5.out) (Kd.R_base ho14) hb)
          have n1_ := Aside0.mk (Kd.R_below (by (with_reducible repeat (first | apply Kd.R_alloc | apply Kd.R_drewN | apply Kd.R_drew)); exact HO_6.out) hb)
          have n2_ := Aside0.mk (Kd.R_lower (Kd.R_new' ho14 (Kd.R_lt (by (with_reducible repeat (first | apply Kd.R_alloc | apply Kd.R_drewN | apply Kd.R_drew)); exact HO_5.out))) (below_size (by repeat (first | (with_reducible first | exact HB.out | apply below_alloc | apply pw_below_drewN | apply below_drew1 | refine below_set ?_ GE102.out) | exact HB.out))))
          have n3_ := Aside0.mk (blk_below (g := gb102) (o := .cells #[.int .i64 ((rd_T26 l0 x13_1).f0), .int .i64 ((rd_T26 l0 x13_1).f1)] 26 (0, 0)) (by (with_reducible repeat (first | refine blk_drewN ?_ _ | refine blk_drew ?_ | refine blk_alloc ?_ _)); exact BK102.out) hb)
          have n4_ := Aside0.mk (below_step (by repeat (first | (with_reducible first | exact HB.out | apply below_alloc | apply pw_below_drewN | apply below_drew1 | refine below_set ?_ GE102.out) | exact HB.out)) hb)
          clear HO_5
          clear HO_6
          clear BK102
          clear HB
          have HO_5 := n0_
          have HO_6 := n1_
          have HO105 := n2_
          have BK102 := n3_
          have HB := n4_
          clear n0_ n1_ n2_ n3_ n4_
          clear hb ho14
          obtain ⟨Ao16, co16, eo16⟩ := Kd.R_slice HO105.out
          (first | subst eo16 | (injection eo16 with f1_ f2_ f3_; have f4_ := f1_.symm; have f5_ := f3_.symm; clear f1_ f2_ f3_; subst f4_; subst f5_))
          refine hK.out _ _ ⟨(blk_cell BK102.out 0).trans rfl, (blk_cell BK102.out 1).trans rfl⟩ (fun hHeld => ?_)
          clear hK K
          refine norm_ (a' := ?_) ?_ ?_
          rotate_left
          ·show Act.put _ (some 20) _ = _
           simp only [Act.put, List.setIfInBounds_toArray, List.set_cons_zero, List.set_cons_succ, i64_w, i32_w]
           rfl
          refine two_ (i := 4) (j := 8) (Ni := some 21) (Nj := some 25) #[true, true, true, true, true, true, true, true, false, false, false, false] #[true, true, true, true, false, true, true, true, true, false, false, false] rfl rfl rfl rfl (two_of HT_.out (by kernel_rfl)) (by decide) (by decide) (fun K hK => ?_) (fun K hK => ?_)
          ·skip
           refine Kd.R_append_rows_step (Kd.int .i64) (w0 := w) w.heap.size (by rfl) (.tmp 17) (.tmp 20) 24 3 (.int .i64 0) 8 rfl Try.underlying24 info3 rfl (by decide) (by omega) (.slice Ao9 x5_1.length co9) x5_1 y103 _ _ _ (fun k_ => some k_ ≠ (.slice Ao16 y103.length co16 : Value).ownBlock) (fun _ => False) rfl rfl ?aO ?aR (fun _ _ h => h) (fun _ h => h.elim) ?aF ?aB ?aS ?aL ?_
           (case aR => repeat (first | exact (Kd.R_reads' HO105.out).2.2 | (with_reducible refine Kd.C_alloc ?_ _) | (with_reducible refine Kd.C_drewN ?_ _) | (with_reducible refine Kd.C_drew ?_)))
           (case aB => exact (by repeat (first | (with_reducible first | exact HB.out | apply below_alloc | apply pw_below_drewN | apply below_drew1 | refine below_set ?_ GE102.out) | exact HB.out)))
           (case aF => exact (fun k_ hk => Kd.fresh' (Kd.R_lt (by (with_reducible repeat (first | apply Kd.R_alloc | apply Kd.R_drewN | apply Kd.R_drew)); exact HO105.out)) k_ hk))
           (case aO => exact (by (with_reducible repeat (first | apply Kd.R_alloc | apply Kd.R_drewN | apply Kd.R_drew)); exact Kd.R_mono HO_5.out (fun _ hk => hk.2)))
           (case aS => exact (below_size (by repeat (first | (with_reducible first | exact HB.out | apply below_alloc | apply pw_below_drewN | apply below_drew1 | refine below_set ?_ GE102.out) | exact HB.out))))
           (case aL => have := LMc5.out; omega)
           intro v107 w15 ho hb hg hat
           rw [← Ny106.out] at ho
           have n0_ := Aside0.mk (Kd.R_over' (by (with_reducible repeat (first | apply Kd.R_alloc | apply Kd.R_drewN | apply Kd.R_drew)); exact HO_6.out) (Kd.R_typed (by (with_reducible repeat (first | apply Kd.R_alloc | apply Kd.R_drewN | apply Kd.R_drew)); exact HO_5.out)) (by decide) hg)
           have n1_ := Aside0.mk (blk_grown (g := gb102) (o := .cells #[.int .i64 ((rd_T26 l0 x13_1).f0), .int .i64 ((rd_T26 l0 x13_1).f1)] 26 (0, 0)) (by (with_reducible repeat (first | refine blk_drewN ?_ _ | refine blk_drew ?_ | refine blk_alloc ?_ _)); exact BK102.out) hg (Kd.R_ne HO_5.out BK102.out (by decide)))
           have n2_ := Aside0.mk (Kd.R_after (ok := (fun _ => True)) (by (with_reducible repeat (first | apply Kd.R_alloc | apply Kd.R_drewN | apply Kd.R_drew)); exact HO105.out) hg hat)
           have n3_ := Aside0.mk (hb)
           have n4_ := Aside0.mk (ho)
           clear HO_6
           clear BK102
           clear HO105
           clear HB
           clear HO_5
           have HO_6 := n0_
           have BK102 := n1_
           have HO105 := n2_
           have HB := n3_
           have HO108 := n4_
           clear n0_ n1_ n2_ n3_ n4_
           clear ho hb hg hat
           refine hK.out _ _ ⟨(blk_cell BK102.out 0).trans rfl, (blk_cell BK102.out 1).trans rfl⟩ (fun hHeld => ?_)
           clear hK K
           refine norm_ (a' := ?_) ?_ ?_
           rotate_left
           ·show Act.put _ (some 21) _ = _
            simp only [Act.put, List.setIfInBounds_toArray, List.set_cons_zero, List.set_cons_succ, i64_w, i32_w]
            rfl
           refine one_ (i := 8) (N := some 25) #[true, true, true, true, true, true, true, true, true, false, false, false] rfl rfl (one_of HT_.out (by kernel_rfl)) (by decide) (fun K hK => ?_)
           refine Kd.R_lit_step (Kd.int .i64) _ 2 ?hg (N := 25) ?hd (xs := ([(rd_T26 l0 x13_1).f1] : List Int)) (inner := [.int .i64 ((rd_T26 l0 x13_1).f1)]) (ok := fun _ => True) (okp := fun _ => True) ?hr ?hp (fun _ hk => hk) trivial (Below.refl _ _) (Nat.le_refl _) (by simp) ?_; (case hd => rfl); (case hg => rfl); (case hr => first | (go_simp; done) | (go_simp; rfl)); (case hp => exact (Reps.one (show Kd.M (Kd.int .i64) _ _ _ ((rd_T26 l0 x13_1).f1) [.int .i64 ((rd_T26 l0 x13_1).f1)] from rfl) (Reps.none _ _)))
           intro v110 w17 ho18 hb hg_ hnew_
           clear hg_ hnew_
           (first | rw [← Ny109.out] at ho18 | (simp only [Int.reduceToNat] at ho18; rw [← Ny109.out] at ho18))
           have n0_ := Aside0.mk (Kd.R_elder' (by (with_reducible repeat (first | apply Kd.R_alloc | apply Kd.R_drewN | apply Kd.R_drew)); exact HO_6.out) (Kd.R_base ho18) hb)
           have n1_ := Aside0.mk (Kd.R_below (by (with_reducible repeat (first | apply Kd.R_alloc | apply Kd.R_drewN | apply Kd.R_drew)); exact HO105.out) hb)
           have n2_ := Aside0.mk (Kd.R_below (by (with_reducible repeat (first | apply Kd.R_alloc | apply Kd.R_drewN | apply Kd.R_drew)); exact HO108.out) hb)
           have n3_ := Aside0.mk (Kd.R_lower (Kd.R_new' ho18 (Kd.R_lt (by (with_reducible repeat (first | apply Kd.R_alloc | apply Kd.R_drewN | apply Kd.R_drew)); exact HO_6.out))) (below_size (by repeat (first | (with_reducible first | exact HB.out | apply below_alloc | apply pw_below_drewN | apply below_drew1 | refine below_set ?_ GE102.out) | exact HB.out))))
           have n4_ := Aside0.mk (blk_below (g := gb102) (o := .cells #[.int .i64 ((rd_T26 l0 x13_1).f0), .int .i64 ((rd_T26 l0 x13_1).f1)] 26 (0, 0)) (by (with_reducible repeat (first | refine blk_drewN ?_ _ | refine blk_drew ?_ | refine blk_alloc ?_ _)); exact BK102.out) hb)
           have n5_ := Aside0.mk (below_step (by repeat (first | (with_reducible first | exact HB.out | apply below_alloc | apply pw_below_drewN | apply below_drew1 | refine below_set ?_ GE102.out) | exact HB.out)) hb)
           clear HO_6
           clear HO105
           clear HO108
           clear BK102
           clear HB
           have HO_6 := n0_
           have HO105 := n1_
           have HO108 := n2_
           have HO111 := n3_
           have BK102 := n4_
           have HB := n5_
           clear n0_ n1_ n2_ n3_ n4_ n5_
           clear hb ho18
           refine hK.out _ _ ⟨(blk_cell BK102.out 0).trans rfl, (blk_cell BK102.out 1).trans rfl⟩ (fun hHeld => ?_)
           clear hK K
           refine norm_ (a' := ?_) ?_ ?_
           rotate_left
           ·show Act.put _ (some 25) _ = _
            simp only [Act.put, List.setIfInBounds_toArray, List.set_cons_zero, List.set_cons_succ, i64_w, i32_w]
            rfl
           exact norm_ (by simp only [putAll, Act.put, List.setIfInBounds_toArray, List.set_cons_zero, List.set_cons_succ]) (hCont (.slice Ao16 y103.length co16, v107, v110) _ ⟨hHeld, (by (with_reducible repeat (first | apply Kd.R_alloc | apply Kd.R_drewN | apply Kd.R_drew)); exact Kd.R_mono HO105.out (fun _ hk => hk.2)), (by (with_reducible repeat (first | apply Kd.R_alloc | apply Kd.R_drewN | apply Kd.R_drew)); exact HO108.out), (by (with_reducible repeat (first | apply Kd.R_alloc | apply Kd.R_drewN | apply Kd.R_drew)); exact Kd.R_mono HO111.out (fun _ hk => hk.2)), (by (with_reducible repeat (first | apply Kd.R_alloc | apply Kd.R_drewN | apply Kd.R_drew)); exact Kd.R_mono HO_6.out (fun _ hk => hk.2)), (by (with_reducible repeat (first | refine blk_drewN ?_ _ | refine blk_drew ?_ | refine blk_alloc ?_ _)); exact BK102.out), (by repeat (first | (with_reducible first | exact HB.out | apply below_alloc | apply pw_below_drewN | apply below_drew1 | refine below_set ?_ GE102.out) | exact HB.out))⟩)
          ·skip
           refine Kd.R_lit_step (Kd.int .i64) _ 2 ?hg (N := 25) ?hd (xs := ([(rd_T26 l0 x13_1).f1] : List Int)) (inner := [.int .i64 ((rd_T26 l0 x13_1).f1)]) (ok := fun _ => True) (okp := fun _ => True) ?hr ?hp (fun _ hk => hk) trivial (Below.refl _ _) (Nat.le_refl _) (by simp) ?_; (case hd => rfl); (case hg => rfl); (case hr => first | (go_simp; done) | (go_simp; rfl)); (case hp => exact (Reps.one (show Kd.M (Kd.int .i64) _ _ _ ((rd_T26 l0 x13_1).f1) [.int .i64 ((rd_T26 l0 x13_1).f1)] from rfl) (Reps.none _ _)))
           intro v110 w15 ho16 hb hg_ hnew_
           clear hg_ hnew_
           (first | rw [← Ny109.out] at ho16 | (simp only [Int.reduceToNat] at ho16; rw [← Ny109.out] at ho16))
           have n0_ := Aside0.mk (Kd.R_below (by (with_reducible repeat (first | apply Kd.R_alloc | apply Kd.R_drewN | apply Kd.R_drew)); exact HO_5.out) hb)
           have n1_ := Aside0.mk (Kd.R_elder' (by (with_reducible repeat (first | apply Kd.R_alloc | apply Kd.R_drewN | apply Kd.R_drew)); exact HO_6.out) (Kd.R_base ho16) hb)
           have n2_ := Aside0.mk (Kd.R_below (by (with_reducible repeat (first | apply Kd.R_alloc | apply Kd.R_drewN | apply Kd.R_drew)); exact HO105.out) hb)
           have n3_ := Aside0.mk (Kd.R_lower (Kd.R_new' ho16 (Kd.R_lt (by (with_reducible repeat (first | apply Kd.R_alloc | apply Kd.R_drewN | apply Kd.R_drew)); exact HO_6.out))) (below_size (by repeat (first | (with_reducible first | exact HB.out | apply below_alloc | apply pw_below_drewN | apply below_drew1 | refine below_set ?_ GE102.out) | exact HB.out))))
           have n4_ := Aside0.mk (blk_below (g := gb102) (o := .cells #[.int .i64 ((rd_T26 l0 x13_1).f0), .int .i64 ((rd_T26 l0 x13_1).f1)] 26 (0, 0)) (by (with_reducible repeat (first | refine blk_drewN ?_ _ | refine blk_drew ?_ | refine blk_alloc ?_ _)); exact BK102.out) hb)
           have n5_ := Aside0.mk (below_step (by repeat (first | (with_reducible first | exact HB.out | apply below_alloc | apply pw_below_drewN | apply below_drew1 | refine below_set ?_ GE102.out) | exact HB.out)) hb)
           clear HO_5
           clear HO_6
           clear HO105
           clear BK102
           clear HB
           have HO_5 := n0_
           have HO_6 := n1_
           have HO105 := n2_
           have HO111 := n3_
           have BK102 := n4_
           have HB := n5_
           clear n0_ n1_ n2_ n3_ n4_ n5_
           clear hb ho16
           obtain ⟨Ao18, co18, eo18⟩ := Kd.R_slice HO105.out
           (first | subst eo18 | (injection eo18 with f1_ f2_ f3_; have f4_ := f1_.symm; have f5_ := f3_.symm; clear f1_ f2_ f3_; subst f4_; subst f5_))
           refine hK.out _ _ ⟨(blk_cell BK102.out 0).trans rfl, (blk_cell BK102.out 1).trans rfl⟩ (fun hHeld => ?_)
           clear hK K
           refine norm_ (a' := ?_) ?_ ?_
           rotate_left
           ·show Act.put _ (some 25) _ = _
            simp only [Act.put, List.setIfInBounds_toArray, List.set_cons_zero, List.set_cons_succ, i64_w, i32_w]
            rfl
           refine one_ (i := 4) (N := some 21) #[true, true, true, true, true, true, true, true, true, false, false, false] rfl rfl (one_of HT_.out (by kernel_rfl)) (by decide) (fun K hK => ?_)
           refine Kd.R_append_rows_step (Kd.int .i64) (w0 := w) w.heap.size (by rfl) (.tmp 17) (.tmp 20) 24 3 (.int .i64 0) 8 rfl Try.underlying24 info3 rfl (by decide) (by omega) (.slice Ao9 x5_1.length co9) x5_1 y103 _ _ _ (fun k_ => some k_ ≠ (.slice Ao18 y103.length co18 : Value).ownBlock) (fun _ => False) rfl rfl ?aO ?aR (fun _ _ h => h) (fun _ h => h.elim) ?aF ?aB ?aS ?aL ?_
           (case aR => repeat (first | exact (Kd.R_reads' HO105.out).2.2 | (with_reducible refine Kd.C_alloc ?_ _) | (with_reducible refine Kd.C_drewN ?_ _) | (with_reducible refine Kd.C_drew ?_)))
           (case aB => exact (by repeat (first | (with_reducible first | exact HB.out | apply below_alloc | apply pw_below_drewN | apply below_drew1 | refine below_set ?_ GE102.out) | exact HB.out)))
           (case aF => exact (fun k_ hk => Kd.fresh' (Kd.R_lt (by (with_reducible repeat (first | apply Kd.R_alloc | apply Kd.R_drewN | apply Kd.R_drew)); exact HO105.out)) k_ hk))
           (case aO => exact (by (with_reducible repeat (first | apply Kd.R_alloc | apply Kd.R_drewN | apply Kd.R_drew)); exact Kd.R_mono HO_5.out (fun _ hk => hk.2)))
           (case aS => exact (below_size (by repeat (first | (with_reducible first | exact HB.out | apply below_alloc | apply pw_below_drewN | apply below_drew1 | refine below_set ?_ GE102.out) | exact HB.out))))
           (case aL => have := LMc5.out; omega)
           intro v107 w17 ho hb hg hat
           rw [← Ny106.out] at ho
           have n0_ := Aside0.mk (Kd.R_over' (by (with_reducible repeat (first | apply Kd.R_alloc | apply Kd.R_drewN | apply Kd.R_drew)); exact HO_6.out) (Kd.R_typed (by (with_reducible repeat (first | apply Kd.R_alloc | apply Kd.R_drewN | apply Kd.R_drew)); exact HO_5.out)) (by decide) hg)
           have n1_ := Aside0.mk (blk_grown (g := gb102) (o := .cells #[.int .i64 ((rd_T26 l0 x13_1).f0), .int .i64 ((rd_T26 l0 x13_1).f1)] 26 (0, 0)) (by (with_reducible repeat (first | refine blk_drewN ?_ _ | refine blk_drew ?_ | refine blk_alloc ?_ _)); exact BK102.out) hg (Kd.R_ne HO_5.out BK102.out (by decide)))
           have n2_ := Aside0.mk (Kd.R_after (ok := (fun _ => True)) (by (with_reducible repeat (first | apply Kd.R_alloc | apply Kd.R_drewN | apply Kd.R_drew)); exact HO105.out) hg hat)
           have n3_ := Aside0.mk (Kd.R_over' (by (with_reducible repeat (first | apply Kd.R_alloc | apply Kd.R_drewN | apply Kd.R_drew)); exact HO111.out) (Kd.R_typed (by (with_reducible repeat (first | apply Kd.R_alloc | apply Kd.R_drewN | apply Kd.R_drew)); exact HO_5.out)) (by decide) hg)
           have n4_ := Aside0.mk (hb)
           have n5_ := Aside0.mk (ho)
           clear HO_6
           clear BK102
           clear HO105
           clear HO111
           clear HB
           clear HO_5
           have HO_6 := n0_
           have BK102 := n1_
           have HO105 := n2_
           have HO111 := n3_
           have HB := n4_
           have HO108 := n5_
           clear n0_ n1_ n2_ n3_ n4_ n5_
           clear ho hb hg hat
           refine hK.out _ _ ⟨(blk_cell BK102.out 0).trans rfl, (blk_cell BK102.out 1).trans rfl⟩ (fun hHeld => ?_)
           clear hK K
           refine norm_ (a' := ?_) ?_ ?_
           rotate_left
           ·show Act.put _ (some 21) _ = _
            simp only [Act.put, List.setIfInBounds_toArray, List.set_cons_zero, List.set_cons_succ, i64_w, i32_w]
            rfl
           exact norm_ (by simp only [putAll, Act.put, List.setIfInBounds_toArray, List.set_cons_zero, List.set_cons_succ]) (hCont (.slice Ao18 y103.length co18, v107, v110) _ ⟨hHeld, (by (with_reducible repeat (first | apply Kd.R_alloc | apply Kd.R_drewN | apply Kd.R_drew)); exact Kd.R_mono HO105.out (fun _ hk => hk.2)), (by (with_reducible repeat (first | apply Kd.R_alloc | apply Kd.R_drewN | apply Kd.R_drew)); exact HO108.out), (by (with_reducible repeat (first | apply Kd.R_alloc | apply Kd.R_drewN | apply Kd.R_drew)); exact Kd.R_mono HO111.out (fun _ hk => hk.2)), (by (with_reducible repeat (first | apply Kd.R_alloc | apply Kd.R_drewN | apply Kd.R_drew)); exact Kd.R_mono HO_6.out (fun _ hk => hk.2)), (by (with_reducible repeat (first | refine blk_drewN ?_ _ | refine blk_drew ?_ | refine blk_alloc ?_ _)); exact BK102.out), (by repeat (first | (with_reducible first | exact HB.out | apply below_alloc | apply pw_below_drewN | apply below_drew1 | refine below_set ?_ GE102.out) | exact HB.out))⟩)
         ·skip
          refine Kd.R_lit_step (Kd.int .i64) _ 2 ?hg (N := 25) ?hd (xs := ([(rd_T26 l0 x13_1).f1] : List Int)) (inner := [.int .i64 ((rd_T26 l0 x13_1).f1)]) (ok := fun _ => True) (okp := fun _ => True) ?hr ?hp (fun _ hk => hk) trivial (Below.refl _ _) (Nat.le_refl _) (by simp) ?_; (case hd => rfl); (case hg => rfl); (case hr => first | (go_simp; done) | (go_simp; rfl)); (case hp => exact (Reps.one (show Kd.M (Kd.int .i64) _ _ _ ((rd_T26 l0 x13_1).f1) [.int .i64 ((rd_T26 l0 x13_1).f1)] from rfl) (Reps.none _ _)))
          intro v110 w13 ho14 hb hg_ hnew_
          clear hg_ hnew_
          (first | rw [← Ny109.out] at ho14 | (simp only [Int.reduceToNat] at ho14; rw [← Ny109.out] at ho14))
          have n0_ := Aside0.mk (Kd.R_below (by (with_reducible repeat (first | apply Kd.R_alloc | apply Kd.R_drewN | apply Kd.R_drew)); exact HO_5.out) hb)
          have n1_ := Aside0.mk (Kd.R_elder' (by (with_reducible repeat (first | apply Kd.R_alloc | apply Kd.R_drewN | apply Kd.R_drew)); exact HO_6.out) (Kd.R_base ho14) hb)
          have n2_ := Aside0.mk (Kd.R_lower (Kd.R_new' ho14 (Kd.R_lt (by (with_reducible repeat (first | apply Kd.R_alloc | apply Kd.R_drewN | apply Kd.R_drew)); exact HO_6.out))) (below_size (by repeat (first | (with_reducible first | exact HB.out | apply below_alloc | apply pw_below_drewN | apply below_drew1 | refine below_set ?_ GE102.out) | exact HB.out))))
          have n3_ := Aside0.mk (blk_below (g := gb102) (o := .cells #[.int .i64 ((rd_T26 l0 x13_1).f0), .int .i64 ((rd_T26 l0 x13_1).f1)] 26 (0, 0)) (by (with_reducible repeat (first | refine blk_drewN ?_ _ | refine blk_drew ?_ | refine blk_alloc ?_ _)); exact BK102.out) hb)
          have n4_ := Aside0.mk (below_step (by repeat (first | (with_reducible first | exact HB.out | apply below_alloc | apply pw_below_drewN | apply below_drew1 | refine below_set ?_ GE102.out) | exact HB.out)) hb)
          clear HO_5
          clear HO_6
          clear BK102
          clear HB
          have HO_5 := n0_
          have HO_6 := n1_
          have HO111 := n2_
          have BK102 := n3_
          have HB := n4_
          clear n0_ n1_ n2_ n3_ n4_
          clear hb ho14
          refine hK.out _ _ ⟨(blk_cell BK102.out 0).trans rfl, (blk_cell BK102.out 1).trans rfl⟩ (fun hHeld => ?_)
          clear hK K
          refine norm_ (a' := ?_) ?_ ?_
          rotate_left
          ·show Act.put _ (some 25) _ = _
           simp only [Act.put, List.setIfInBounds_toArray, List.set_cons_zero, List.set_cons_succ, i64_w, i32_w]
           rfl
          refine one_ (i := 3) (N := some 20) #[true, true, true, true, false, true, true, true, true, false, false, false] rfl rfl (one_of HT_.out (by kernel_rfl)) (by decide) (fun K hK => ?_)
          refine Kd.R_lit_step (Kd.int .i64) _ 3 ?hg (N := 20) ?hd (xs := ([(rd_T26 l0 x13_1).f0] : List Int)) (inner := [.int .i64 ((rd_T26 l0 x13_1).f0)]) (ok := fun _ => True) (okp := fun _ => True) ?hr ?hp (fun _ hk => hk) trivial (Below.refl _ _) (Nat.le_refl _) (by simp) ?_; (case hd => rfl); (case hg => rfl); (case hr => first | (go_simp; done) | (go_simp; rfl)); (case hp => exact (Reps.one (show Kd.M (Kd.int .i64) _ _ _ ((rd_T26 l0 x13_1).f0) [.int .i64 ((rd_T26 l0 x13_1).f0)] from rfl) (Reps.none _ _)))
          intro v104 w15 ho16 hb hg_ hnew_
          clear hg_ hnew_
          (first | rw [← Ny103.out] at ho16 | (simp only [Int.reduceToNat] at ho16; rw [← Ny103.out] at ho16))
          have n0_ := Aside0.mk (Kd.R_elder' (by (with_reducible repeat (first | apply Kd.R_alloc | apply Kd.R_drewN | apply Kd.R_drew)); exact HO_5.out) (Kd.R_base ho16) hb)
          have n1_ := Aside0.mk (Kd.R_below (by (with_reducible repeat (first | apply Kd.R_alloc | apply Kd.R_drewN | apply Kd.R_drew)); exact HO_6.out) hb)
          have n2_ := Aside0.mk (Kd.R_below (by (with_reducible repeat (first | apply Kd.R_alloc | apply Kd.R_drewN | apply Kd.R_drew)); exact HO111.out) hb)
          have n3_ := Aside0.mk (Kd.R_lower (Kd.R_new' ho16 (Kd.R_lt (by (with_reducible repeat (first | apply Kd.R_alloc | apply Kd.R_drewN | apply Kd.R_drew)); exact HO_5.out))) (below_size (by repeat (first | (with_reducible first | exact HB.out | apply below_alloc | apply pw_below_drewN | apply below_drew1 | refine below_set ?_ GE102.out) | exact HB.out))))
          have n4_ := Aside0.mk (blk_below (g := gb102) (o := .cells #[.int .i64 ((rd_T26 l0 x13_1).f0), .int .i64 ((rd_T26 l0 x13_1).f1)] 26 (0, 0)) (by (with_reducible repeat (first | refine blk_drewN ?_ _ | refine blk_drew ?_ | refine blk_alloc ?_ _)); exact BK102.out) hb)
          have n5_ := Aside0.mk (below_step (by repeat (first | (with_reducible first | exact HB.out | apply below_alloc | apply pw_below_drewN | apply below_drew1 | refine below_set ?_ GE102.out) | exact HB.out)) hb)
          clear HO_5
          clear HO_6
          clear HO111
          clear BK102
          clear HB
          have HO_5 := n0_
          have HO_6 := n1_
          have HO111 := n2_
          have HO105 := n3_
          have BK102 := n4_
          have HB := n5_
          clear n0_ n1_ n2_ n3_ n4_ n5_
          clear hb ho16
          obtain ⟨Ao18, co18, eo18⟩ := Kd.R_slice HO105.out
          (first | subst eo18 | (injection eo18 with f1_ f2_ f3_; have f4_ := f1_.symm; have f5_ := f3_.symm; clear f1_ f2_ f3_; subst f4_; subst f5_))
          refine hK.out _ _ ⟨(blk_cell BK102.out 0).trans rfl, (blk_cell BK102.out 1).trans rfl⟩ (fun hHeld => ?_)
          clear hK K
          refine norm_ (a' := ?_) ?_ ?_
          rotate_left
          ·show Act.put _ (some 20) _ = _
           simp only [Act.put, List.setIfInBounds_toArray, List.set_cons_zero, List.set_cons_succ, i64_w, i32_w]
           rfl
          refine one_ (i := 4) (N := some 21) #[true, true, true, true, true, true, true, true, true, false, false, false] rfl rfl (one_of HT_.out (by kernel_rfl)) (by decide) (fun K hK => ?_)
          refine Kd.R_append_rows_step (Kd.int .i64) (w0 := w) w.heap.size (by rfl) (.tmp 17) (.tmp 20) 24 3 (.int .i64 0) 8 rfl Try.underlying24 info3 rfl (by decide) (by omega) (.slice Ao9 x5_1.length co9) x5_1 y103 _ _ _ (fun k_ => some k_ ≠ (.slice Ao18 y103.length co18 : Value).ownBlock) (fun _ => False) rfl rfl ?aO ?aR (fun _ _ h => h) (fun _ h => h.elim) ?aF ?aB ?aS ?aL ?_
          (case aR => repeat (first | exact (Kd.R_reads' HO105.out).2.2 | (with_reducible refine Kd.C_alloc ?_ _) | (with_reducible refine Kd.C_drewN ?_ _) | (with_reducible refine Kd.C_drew ?_)))
          (case aB => exact (by repeat (first | (with_reducible first | exact HB.out | apply below_alloc | apply pw_below_drewN | apply below_drew1 | refine below_set ?_ GE102.out) | exact HB.out)))
          (case aF => exact (fun k_ hk => Kd.fresh' (Kd.R_lt (by (with_reducible repeat (first | apply Kd.R_alloc | apply Kd.R_drewN | apply Kd.R_drew)); exact HO105.out)) k_ hk))
          (case aO => exact (by (with_reducible repeat (first | apply Kd.R_alloc | apply Kd.R_drewN | apply Kd.R_drew)); exact Kd.R_mono HO_5.out (fun _ hk => hk.2)))
          (case aS => exact (below_size (by repeat (first | (with_reducible first | exact HB.out | apply below_alloc | apply pw_below_drewN | apply below_drew1 | refine below_set ?_ GE102.out) | exact HB.out))))
          (case aL => have := LMc5.out; omega)
          intro v107 w17 ho hb hg hat
          rw [← Ny106.out] at ho
          have n0_ := Aside0.mk (Kd.R_over' (by (with_reducible repeat (first | apply Kd.R_alloc | apply Kd.R_drewN | apply Kd.R_drew)); exact HO_6.out) (Kd.R_typed (by (with_reducible repeat (first | apply Kd.R_alloc | apply Kd.R_drewN | apply Kd.R_drew)); exact HO_5.out)) (by decide) hg)
          have n1_ := Aside0.mk (blk_grown (g := gb102) (o := .cells #[.int .i64 ((rd_T26 l0 x13_1).f0), .int .i64 ((rd_T26 l0 x13_1).f1)] 26 (0, 0)) (by (with_reducible repeat (first | refine blk_drewN ?_ _ | refine blk_drew ?_ | refine blk_alloc ?_ _)); exact BK102.out) hg (Kd.R_ne HO_5.out BK102.out (by decide)))
          have n2_ := Aside0.mk (Kd.R_over' (by (with_reducible repeat (first | apply Kd.R_alloc | apply Kd.R_drewN | apply Kd.R_drew)); exact HO111.out) (Kd.R_typed (by (with_reducible repeat (first | apply Kd.R_alloc | apply Kd.R_drewN | apply Kd.R_drew)); exact HO_5.out)) (by decide) hg)
          have n3_ := Aside0.mk (Kd.R_after (ok := (fun _ => True)) (by (with_reducible repeat (first | apply Kd.R_alloc | apply Kd.R_drewN | apply Kd.R_drew)); exact HO105.out) hg hat)
          have n4_ := Aside0.mk (hb)
          have n5_ := Aside0.mk (ho)
          clear HO_6
          clear BK102
          clear HO111
          clear HO105
          clear HB
          clear HO_5
          have HO_6 := n0_
          have BK102 := n1_
          have HO111 := n2_
          have HO105 := n3_
          have HB := n4_
          have HO108 := n5_
          clear n0_ n1_ n2_ n3_ n4_ n5_
          clear ho hb hg hat
          refine hK.out _ _ ⟨(blk_cell BK102.out 0).trans rfl, (blk_cell BK102.out 1).trans rfl⟩ (fun hHeld => ?_)
          clear hK K
          refine norm_ (a' := ?_) ?_ ?_
          rotate_left
          ·show Act.put _ (some 21) _ = _
           simp only [Act.put, List.setIfInBounds_toArray, List.set_cons_zero, List.set_cons_succ, i64_w, i32_w]
           rfl
          exact norm_ (by simp only [putAll, Act.put, List.setIfInBounds_toArray, List.set_cons_zero, List.set_cons_succ]) (hCont (.slice Ao18 y103.length co18, v107, v110) _ ⟨hHeld, (by (with_reducible repeat (first | apply Kd.R_alloc | apply Kd.R_drewN | apply Kd.R_drew)); exact Kd.R_mono HO105.out (fun _ hk => hk.2)), (by (with_reducible repeat (first | apply Kd.R_alloc | apply Kd.R_drewN | apply Kd.R_drew)); exact HO108.out), (by (with_reducible repeat (first | apply Kd.R_alloc | apply Kd.R_drewN | apply Kd.R_drew)); exact Kd.R_mono HO111.out (fun _ hk => hk.2)), (by (with_reducible repeat (first | apply Kd.R_alloc | apply Kd.R_drewN | apply Kd.R_drew)); exact Kd.R_mono HO_6.out (fun _ hk => hk.2)), (by (with_reducible repeat (first | refine blk_drewN ?_ _ | refine blk_drew ?_ | refine blk_alloc ?_ _)); exact BK102.out), (by repeat (first | (with_reducible first | exact HB.out | apply below_alloc | apply pw_below_drewN | apply below_drew1 | refine below_set ?_ GE102.out) | exact HB.out))⟩)
        rintro ⟨v104, v107, v110⟩ w19 ⟨hS_, h0_, h1_, h2_, h3_, h4_, h5_⟩
        have n0_ : Aside0 (Kd.R (Kd.int .i64) 3 w19 w.heap.size (fun k_ => some k_ ≠ (v107 : Value).ownBlock) v104 y103) := ⟨h0_⟩
        have n1_ : Aside0 (Kd.R (Kd.int .i64) 3 w19 w.heap.size (fun k_ => some k_ ≠ (v104 : Value).ownBlock) v107 y106) := ⟨h1_⟩
        have n2_ : Aside0 (Kd.R (Kd.int .i64) 2 w19 w.heap.size (fun k_ => some k_ ≠ (.slice Ao10 x6_1.length co10 : Value).ownBlock) v110 y109) := ⟨h2_⟩
        have n3_ : Aside0 (Kd.R (Kd.int .i64) 2 w19 w.heap.size (fun k_ => some k_ ≠ (v110 : Value).ownBlock) (.slice Ao10 x6_1.length co10) x6_1) := ⟨h3_⟩
        have n4_ : Aside0 (w19.heap[gb102]? = some (.cells #[.int .i64 ((rd_T26 l0 x13_1).f0), .int .i64 ((rd_T26 l0 x13_1).f1)] 26 (0, 0))) := ⟨h4_⟩
        have n5_ : Aside0 (Below w.heap.size w w19) := ⟨h5_⟩
        clear HO_5
        clear HO_6
        clear BK102
        clear HB
        clear h0_ h1_ h2_ h3_ h4_ h5_
        have HO105 := n0_
        have HO108 := n1_
        have HO111 := n2_
        have HO_6 := n3_
        have BK102 := n4_
        have HB := n5_
        clear n0_ n1_ n2_ n3_ n4_ n5_
        have hHeld : w19.cell? ⟨gb102, 0, none⟩ = some (.int .i64 ((rd_T26 l0 x13_1).f0)) ∧ w19.cell? ⟨gb102, 1, none⟩ = some (.int .i64 ((rd_T26 l0 x13_1).f1)) := hS_
        obtain ⟨Ao21, co21, eo21⟩ := Kd.R_slice HO111.out
        (first | subst eo21 | (injection eo21 with f1_ f2_ f3_; have f4_ := f1_.symm; have f5_ := f3_.symm; clear f1_ f2_ f3_; subst f4_; subst f5_))
        refine norm_ (a' := ?_) ?_ ?_
        rotate_left
        ·simp only [putAll, Act.put, List.setIfInBounds_toArray, List.set_cons_zero, List.set_cons_succ]
         rfl
        refine one_ (i := 9) (N := some 26) #[true, true, true, true, true, true, true, true, true, true, false, false] rfl rfl (one_of HT_.out (by kernel_rfl)) (by decide) (fun K hK => ?_)
        refine Kd.R_append_rows_step (Kd.int .i64) (w0 := w) w.heap.size (by rfl) (.tmp 22) (.tmp 25) 28 2 (.int .i64 0) 8 rfl Try.underlying28 info2 rfl (by decide) (by omega) (.slice Ao10 x6_1.length co10) x6_1 y109 _ _ _ (fun k_ => some k_ ≠ (.slice Ao21 y109.length co21 : Value).ownBlock) (fun _ => False) rfl rfl ?aO ?aR (fun _ _ h => h) (fun _ h => h.elim) ?aF ?aB ?aS ?aL ?_
        (case aR => repeat (first | exact (Kd.R_reads' HO111.out).2.2 | (with_reducible refine Kd.C_alloc ?_ _) | (with_reducible refine Kd.C_drewN ?_ _) | (with_reducible refine Kd.C_drew ?_)))
        (case aB => exact (by repeat (first | (with_reducible first | exact HB.out | apply below_alloc | apply pw_below_drewN | apply below_drew1 | refine below_set ?_ GE102.out) | exact HB.out)))
        (case aF => exact (fun k_ hk => Kd.fresh' (Kd.R_lt (by (with_reducible repeat (first | apply Kd.R_alloc | apply Kd.R_drewN | apply Kd.R_drew)); exact HO111.out)) k_ hk))
        (case aO => exact (by (with_reducible repeat (first | apply Kd.R_alloc | apply Kd.R_drewN | apply Kd.R_drew)); exact HO_6.out))
        (case aS => exact (below_size (by repeat (first | (with_reducible first | exact HB.out | apply below_alloc | apply pw_below_drewN | apply below_drew1 | refine below_set ?_ GE102.out) | exact HB.out))))
        (case aL => have := LMc6.out; omega)
        intro v113 w20 ho hb hg hat
        rw [← Ny112.out] at ho
        have n0_ := Aside0.mk (blk_grown (g := gb102) (o := .cells #[.int .i64 ((rd_T26 l0 x13_1).f0), .int .i64 ((rd_T26 l0 x13_1).f1)] 26 (0, 0)) (by (with_reducible repeat (first | refine blk_drewN ?_ _ | refine blk_drew ?_ | refine blk_alloc ?_ _)); exact BK102.out) hg (Kd.R_ne HO_6.out BK102.out (by decide)))
        have n1_ := Aside0.mk (Kd.R_over' (by (with_reducible repeat (first | apply Kd.R_alloc | apply Kd.R_drewN | apply Kd.R_drew)); exact HO105.out) (Kd.R_typed (by (with_reducible repeat (first | apply Kd.R_alloc | apply Kd.R_drewN | apply Kd.R_drew)); exact HO_6.out)) (by decide) hg)
        have n2_ := Aside0.mk (Kd.R_over' (by (with_reducible repeat (first | apply Kd.R_alloc | apply Kd.R_drewN | apply Kd.R_drew)); exact HO108.out) (Kd.R_typed (by (with_reducible repeat (first | apply Kd.R_alloc | apply Kd.R_drewN | apply Kd.R_drew)); exact HO_6.out)) (by decide) hg)
        have n3_ := Aside0.mk (Kd.R_after (ok := (fun _ => True)) (by (with_reducible repeat (first | apply Kd.R_alloc | apply Kd.R_drewN | apply Kd.R_drew)); exact Kd.R_mono HO111.out (fun _ hk => ⟨trivial, hk⟩)) hg hat)
        have n4_ := Aside0.mk (hb)
        have n5_ := Aside0.mk (ho)
        clear BK102
        clear HO105
        clear HO108
        clear HO111
        clear HB
        clear HO_6
        have BK102 := n0_
        have HO105 := n1_
        have HO108 := n2_
        have HO111 := n3_
        have HB := n4_
        have HO114 := n5_
        clear n0_ n1_ n2_ n3_ n4_ n5_
        clear ho hb hg hat
        refine hK.out _ _ ⟨(blk_cell BK102.out 0).trans rfl, (blk_cell BK102.out 1).trans rfl⟩ (fun hHeld => ?_)
        clear hK K
        refine norm_ (a' := ?_) ?_ ?_
        rotate_left
        ·show Act.put _ (some 26) _ = _
         simp only [Act.put, List.setIfInBounds_toArray, List.set_cons_zero, List.set_cons_succ, i64_w, i32_w]
         rfl
        refine pure_ (i := 10) (N := some 5) (v := ?_) (a' := ?_) #[true, true, true, true, true, true, true, true, true, true, true, false] rfl rfl (any_of HT_.out (by kernel_rfl)) (fun _ _ _ h => h) (Or.inl ⟨by rfl, ?_⟩) ?_ ?_
        rotate_left
        ·intro w'
         go_simp
         with_reducible rfl
        rotate_left
        ·simp only [Act.put, List.setIfInBounds_toArray, List.set_cons_zero, List.set_cons_succ, i64_w, i32_w]
         rfl
        refine pure_ (i := 11) (N := some 6) (v := ?_) (a' := ?_) #[true, true, true, true, true, true, true, true, true, true, true, true] rfl rfl (any_of HT_.out (by kernel_rfl)) (fun _ _ _ h => h) (Or.inl ⟨by rfl, ?_⟩) ?_ ?_
        rotate_left
        ·intro w'
         go_simp
         with_reducible rfl
        rotate_left
        ·simp only [Act.put, List.setIfInBounds_toArray, List.set_cons_zero, List.set_cons_succ, i64_w, i32_w]
         rfl
        refine done_ (done_of HT_.out (by kernel_rfl)) ?_
        try go_wp2
        go_roundg k1
        case measure => have := HK1.out; omega
        case rel => exact ⟨(y106), (y112), (wrap64 (x13_1 + 1)), (by first | rfl | (simp; done) | (simp [*]; done)), H', ⟨by have := HK1.out; omega⟩, ⟨by (with_reducible repeat (first | apply Kd.R_alloc | apply Kd.R_drewN | apply Kd.R_drew)); exact Kd.R_mono HO108.out (fun _ hk => trivial)⟩, ⟨by (with_reducible repeat (first | apply Kd.R_alloc | apply Kd.R_drewN | apply Kd.R_drew)); exact Kd.R_mono HO114.out (fun _ hk => trivial)⟩, ⟨by repeat (first | (with_reducible first | exact HB.out | apply below_alloc | apply pw_below_drewN | apply below_drew1 | refine below_set ?_ GE102.out) | exact HB.out)⟩⟩
       ·rw [if_neg c6] at H
        exact absurd H (by simp)
      ·rw [if_neg c5] at H
       exact absurd H (by simp)
     ·rw [if_neg c4] at H
      exact absurd H (by simp)
    ·rw [if_neg c3] at H
     exact absurd H (by simp)
   ·rw [if_neg c2] at H
    have c2b0 : decide (x13_1 < (l0.length : Int)) = false := decide_eq_false c2
    clear c2
    replace H := Option.bind_eq_some_iff.mp H
    obtain ⟨t115, A220, H⟩ := H
    replace H : (if t115 = true then ((tidepoleref07_Deltas.f k1 x6_1).bind fun bt116 => (if bt116.2 = 1 then (some (([] : List Int), ([] : List Int), 28)) else (some (x5_1, x6_1, 0)))) else (some (([] : List Int), ([] : List Int), 11))) = some (r1, r2, r3) := H
    have A22 := Aside0.mk A220
    clear A220
    by_cases c23 : t115 = true
    ·subst c23
     have H1 : ((tidepoleref07_Deltas.f k1 x6_1).bind fun bt116 => (if bt116.2 = 1 then (some (([] : List Int), ([] : List Int), 28)) else (some (x5_1, x6_1, 0)))) = some (r1, r2, r3) := by rw [if_pos rfl] at H; exact H
     clear H
     have H := H1
     clear H1
     replace H := Option.bind_eq_some_iff.mp H
     obtain ⟨⟨t116, t117⟩, A240, H⟩ := H
     replace H : (if t117 = 1 then (some (([] : List Int), ([] : List Int), 28)) else (some (x5_1, x6_1, 0))) = some (r1, r2, r3) := H
     have A24 := Aside0.mk A240
     clear A240
     by_cases c25 : t117 = 1
     ·rw [if_pos c25] at H
      have c25b0 : (t117 == 1) = true := beq_iff_eq.mpr c25
      have c25b1 : (t117 != 1) = false := bne_eq_false_iff_eq.mpr c25
      clear c25
      simp only [Option.some.injEq, Prod.mk.injEq] at H
      obtain ⟨rfl, rfl, rfl⟩ := H
      obtain ⟨Ao26, co26, eo26⟩ := Kd.R_slice HO_5.out
      subst eo26
      go_wp2_with (first | ((with_reducible refine gate_callee (f := 32) rfl ?_); refine goesL_ (some 29) rfl rfl Try.func32 (by kernel_rfl) rfl #[.slice Ao26 x5_1.length co26] rfl (by (try simp only [List.map_toArray, List.map_cons, List.map_nil]); first | done | rfl | (simp only [List.length_drop, List.length_take]; rfl)) ?_; (with_reducible refine (tidepoleref06_Rising.calls k1 _ _ x5_1 true _ ?side1 ?side2 A22.out).mono ?_); (case side1 => repeat (first | exact (Kd.R_reads' HO_5.out).2.2 | (with_reducible refine Kd.C_alloc ?_ _) | (with_reducible refine Kd.C_drewN ?_ _) | (with_reducible refine Kd.C_drew ?_))); (case side2 => exact (Kd.R_reads' HO_5.out).2.1); rintro e w' ⟨rfl, ⟨nd, rfl⟩⟩; refine ⟨_, rfl, ?_⟩; clear A22; obtain ⟨Ao27, co27, eo27⟩ := Kd.R_slice HO_6.out; subst eo27) | ((with_reducible refine gate_callee (f := 51) rfl ?_); refine goesL_ (some 33) rfl rfl Try.func51 (by kernel_rfl) rfl #[.slice Ao27 x6_1.length co27] rfl (by (try simp only [List.map_toArray, List.map_cons, List.map_nil]); first | done | rfl | (simp only [List.length_drop, List.length_take]; rfl)) ?_; (with_reducible refine (tidepoleref07_Deltas.calls k1 _ _ x6_1 t116 t117 _ ?side1 ?side2 A24.out).mono ?_); (case side1 => repeat (first | exact (Kd.R_reads' HO_6.out).2.2 | (with_reducible refine Kd.C_alloc ?_ _) | (with_reducible refine Kd.C_drewN ?_ _) | (with_reducible refine Kd.C_drew ?_))); (case side2 => exact (Kd.R_reads' HO_6.out).2.1); rintro e w28 ⟨v118, rfl, ho0, hb⟩; refine ⟨_, rfl, ?_⟩; have n0_ := Aside0.mk (Kd.R_below (by (with_reducible repeat (first | apply Kd.R_alloc | apply Kd.R_drewN | apply Kd.R_drew)); exact HO_5.out) hb); have n1_ := Aside0.mk (Kd.R_elder' (by (with_reducible repeat (first | apply Kd.R_alloc | apply Kd.R_drewN | apply Kd.R_drew)); exact HO_6.out) (Kd.R_base ho0) hb); have n2_ := Aside0.mk (Kd.R_lower (Kd.R_new' ho0 (Kd.R_lt (by (with_reducible repeat (first | apply Kd.R_alloc | apply Kd.R_drewN | apply Kd.R_drew)); exact HO_6.out))) (below_size (by repeat (first | (with_reducible first | exact HB.out | apply below_alloc | apply pw_below_drewN | apply below_drew1) | exact HB.out)))); have n3_ := Aside0.mk (below_step (by repeat (first | (with_reducible first | exact HB.out | apply below_alloc | apply pw_below_drewN | apply below_drew1) | exact HB.out)) hb); clear HO_5; clear HO_6; clear HB; have HO_5 := n0_; have HO_6 := n1_; have HO119 := n2_; have HB := n3_; clear n0_ n1_ n2_ n3_; (try clear hb); (try clear hb2); (try clear hk); (try clear hi); (try clear ho0); clear A24))
      go_ret3
      exact ⟨_, _, by first | rfl | (simp [errW_none, errW_some] <;> rfl) | (simp [*, errW_none, errW_some] <;> rfl), by first | exact Kd.R_nil _ _ _ _ _ | exact Kd.N_nil _ _ _ _ _ | exact Kd.V_nil _ _ _ _ _ | exact Kd.Q_nil _ _ _ _ _ | exact Kd.S_nil _ _ _ _ _, by first | exact Kd.R_nil _ _ _ _ _ | exact Kd.N_nil _ _ _ _ _ | exact Kd.V_nil _ _ _ _ _ | exact Kd.Q_nil _ _ _ _ _ | exact Kd.S_nil _ _ _ _ _, by repeat (first | (with_reducible first | exact HB.out | apply below_alloc | apply pw_below_drewN | apply below_drew1) | exact HB.out)⟩
     ·rw [if_neg c25] at H
      have c25b0 : (t117 == 1) = false := beq_eq_false_iff_ne.mpr c25
      have c25b1 : (t117 != 1) = true := bne_iff_ne.mpr c25
      simp only [Option.some.injEq, Prod.mk.injEq] at H
      obtain ⟨rfl, rfl, rfl⟩ := H
      obtain ⟨Ao29, co29, eo29⟩ := Kd.R_slice HO_5.out
      subst eo29
      go_wp2_with (first | ((with_reducible refine gate_callee (f := 32) rfl ?_); refine goesL_ (some 29) rfl rfl Try.func32 (by kernel_rfl) rfl #[.slice Ao29 x5_1.length co29] rfl (by (try simp only [List.map_toArray, List.map_cons, List.map_nil]); first | done | rfl | (simp only [List.length_drop, List.length_take]; rfl)) ?_; (with_reducible refine (tidepoleref06_Rising.calls k1 _ _ x5_1 true _ ?side1 ?side2 A22.out).mono ?_); (case side1 => repeat (first | exact (Kd.R_reads' HO_5.out).2.2 | (with_reducible refine Kd.C_alloc ?_ _) | (with_reducible refine Kd.C_drewN ?_ _) | (with_reducible refine Kd.C_drew ?_))); (case side2 => exact (Kd.R_reads' HO_5.out).2.1); rintro e w' ⟨rfl, ⟨nd, rfl⟩⟩; refine ⟨_, rfl, ?_⟩; clear A22; obtain ⟨Ao30, co30, eo30⟩ := Kd.R_slice HO_6.out; subst eo30) | ((with_reducible refine gate_callee (f := 51) rfl ?_); refine goesL_ (some 33) rfl rfl Try.func51 (by kernel_rfl) rfl #[.slice Ao30 x6_1.length co30] rfl (by (try simp only [List.map_toArray, List.map_cons, List.map_nil]); first | done | rfl | (simp only [List.length_drop, List.length_take]; rfl)) ?_; (with_reducible refine (tidepoleref07_Deltas.calls k1 _ _ x6_1 t116 t117 _ ?side1 ?side2 A24.out).mono ?_); (case side1 => repeat (first | exact (Kd.R_reads' HO_6.out).2.2 | (with_reducible refine Kd.C_alloc ?_ _) | (with_reducible refine Kd.C_drewN ?_ _) | (with_reducible refine Kd.C_drew ?_))); (case side2 => exact (Kd.R_reads' HO_6.out).2.1); rintro e w31 ⟨v118, rfl, ho0, hb⟩; refine ⟨_, rfl, ?_⟩; have n0_ := Aside0.mk (Kd.R_below (by (with_reducible repeat (first | apply Kd.R_alloc | apply Kd.R_drewN | apply Kd.R_drew)); exact HO_5.out) hb); have n1_ := Aside0.mk (Kd.R_elder' (by (with_reducible repeat (first | apply Kd.R_alloc | apply Kd.R_drewN | apply Kd.R_drew)); exact HO_6.out) (Kd.R_base ho0) hb); have n2_ := Aside0.mk (Kd.R_lower (Kd.R_new' ho0 (Kd.R_lt (by (with_reducible repeat (first | apply Kd.R_alloc | apply Kd.R_drewN | apply Kd.R_drew)); exact HO_6.out))) (below_size (by repeat (first | (with_reducible first | exact HB.out | apply below_alloc | apply pw_below_drewN | apply below_drew1) | exact HB.out)))); have n3_ := Aside0.mk (below_step (by repeat (first | (with_reducible first | exact HB.out | apply below_alloc | apply pw_below_drewN | apply below_drew1) | exact HB.out)) hb); clear HO_5; clear HO_6; clear HB; have HO_5 := n0_; have HO_6 := n1_; have HO119 := n2_; have HB := n3_; clear n0_ n1_ n2_ n3_; (try clear hb); (try clear hb2); (try clear hk); (try clear hi); (try clear ho0); clear A24))
      go_ret3
      exact ⟨_, _, by first | rfl | (simp [errW_none, errW_some] <;> rfl) | (simp [*, errW_none, errW_some] <;> rfl), by (with_reducible repeat (first | apply Kd.R_alloc | apply Kd.R_drewN | apply Kd.R_drew)); exact HO_5.out, by (with_reducible repeat (first | apply Kd.R_alloc | apply Kd.R_drewN | apply Kd.R_drew)); exact Kd.R_mono HO_6.out (fun _ hk => trivial), by repeat (first | (with_reducible first | exact HB.out | apply below_alloc | apply pw_below_drewN | apply below_drew1) | exact HB.out)⟩
    ·replace c23 := Bool.eq_false_iff.mpr c23
     subst c23
     have H1 : (some (([] : List Int), ([] : List Int), 11)) = some (r1, r2, r3) := by rw [if_neg (show ¬ (false = true) by decide)] at H; exact H
     clear H
     have H := H1
     clear H1
     simp only [Option.some.injEq, Prod.mk.injEq] at H
     obtain ⟨rfl, rfl, rfl⟩ := H
     obtain ⟨Ao32, co32, eo32⟩ := Kd.R_slice HO_5.out
     subst eo32
     go_wp2_with (first | ((with_reducible refine gate_callee (f := 32) rfl ?_); refine goesL_ (some 29) rfl rfl Try.func32 (by kernel_rfl) rfl #[.slice Ao32 x5_1.length co32] rfl (by (try simp only [List.map_toArray, List.map_cons, List.map_nil]); first | done | rfl | (simp only [List.length_drop, List.length_take]; rfl)) ?_; (with_reducible refine (tidepoleref06_Rising.calls k1 _ _ x5_1 false _ ?side1 ?side2 A22.out).mono ?_); (case side1 => repeat (first | exact (Kd.R_reads' HO_5.out).2.2 | (with_reducible refine Kd.C_alloc ?_ _) | (with_reducible refine Kd.C_drewN ?_ _) | (with_reducible refine Kd.C_drew ?_))); (case side2 => exact (Kd.R_reads' HO_5.out).2.1); rintro e w' ⟨rfl, ⟨nd, rfl⟩⟩; refine ⟨_, rfl, ?_⟩; clear A22))
     go_ret3
     exact ⟨_, _, by first | rfl | (simp [errW_none, errW_some] <;> rfl) | (simp [*, errW_none, errW_some] <;> rfl), by first | exact Kd.R_nil _ _ _ _ _ | exact Kd.N_nil _ _ _ _ _ | exact Kd.V_nil _ _ _ _ _ | exact Kd.Q_nil _ _ _ _ _ | exact Kd.S_nil _ _ _ _ _, by first | exact Kd.R_nil _ _ _ _ _ | exact Kd.N_nil _ _ _ _ _ | exact Kd.V_nil _ _ _ _ _ | exact Kd.Q_nil _ _ _ _ _ | exact Kd.S_nil _ _ _ _ _, by repeat (first | (with_reducible first | exact HB.out | apply below_alloc | apply pw_below_drewN | apply below_drew1) | exact HB.out)⟩
def tidepolelaw09_below.l0 : Nat → List Int → Int → Int → Option (Bool)
 | 0, _, _, _ => none
 | k + 1, x5, x6, x7 => if x7 < x6 then (if 0 ≤ x7 then (if x7 < (x5.length : Int) then (if (rd x5 x7) < 0 then (some true) else (tidepolelaw09_below.l0 k x5 x6 (wrap64 (x7 + 1)))) else (none)) else (none)) else (some false)
def tidepolelaw09_below.f (k : Nat) (l0 : List Int) : Option (Bool) := tidepolelaw09_below.l0 k l0 (l0.length : Int) 0
set_option maxHeartbeats 8000000 in
set_option maxRecDepth 100000 in
theorem tidepolelaw09_below.calls (k : Nat) (A0 : Option Addr) (c0 : Nat) (l0 : List Int) (r : Bool) (w : World) (hr0 : Kd.C (Kd.int .i64) w A0 l0.length l0) (hc0 : l0.length ≤ c0) (h : tidepolelaw09_below.f k l0 = some r) :
  Calls Try.prog 154 #[.slice A0 l0.length c0] w fun e w' => e = .returned (.bool r) ∧ Drawn0 w w' := by
 have HR0 := Aside0.mk hr0
 have HC0 := Aside0.mk hc0
 clear hr0 hc0
 have H : (tidepolelaw09_below.l0 k l0 (l0.length : Int) 0) = some r := h
 clear h
 have H' := Aside0.mk H
 clear H
 go_enter Try.func154, Try.ntmps154
 go_wp2
 go_loopg [7] k (fun kq v7 w' => ∃ (x7_1 : Int), v7 = .int .i64 x7_1 ∧ Aside0 (tidepolelaw09_below.l0 kq l0 (l0.length : Int) x7_1 = some r) ∧ Aside0 (kq ≤ k) ∧ Drawn0 w w')
 case atStart => exact ⟨(0), (by first | rfl | (simp; done) | (simp [*]; done)), H', ⟨Nat.le_refl _⟩, by repeat (first | exact Drawn0.refl _ | apply Drawn0.step)⟩
 case round =>
  clear H'
  try clear c1
  obtain ⟨x7_1, rfl, HA, HK1, ⟨m1, rfl⟩⟩ := hrel
  cases gk with
  | zero => exact absurd HA.out (by simp [tidepolelaw09_below.l0])
  | succ k1 =>
   have H := HA.out
   clear HA
   simp only [tidepolelaw09_below.l0] at H
   by_cases c2 : x7_1 < (l0.length : Int)
   ·rw [if_pos c2] at H
    have c2b0 : decide (x7_1 < (l0.length : Int)) = true := decide_eq_true c2
    clear c2
    by_cases c3 : 0 ≤ x7_1
    ·rw [if_pos c3] at H
     have c3b0 : decide (0 ≤ x7_1) = true := decide_eq_true c3
     clear c3
     by_cases c4 : x7_1 < (l0.length : Int)
     ·rw [if_pos c4] at H
      have c4b0 : decide (x7_1 < (l0.length : Int)) = true := decide_eq_true c4
      clear c4
      by_cases c5 : (rd l0 x7_1) < 0
      ·rw [if_pos c5] at H
       have c5b0 : decide ((rd l0 x7_1) < 0) = true := decide_eq_true c5
       clear c5
       obtain rfl := Option.some.inj H
       have p101 : 0 ≤ (x7_1 : Int) := of_decide_eq_true (by first | (with_reducible assumption) | assumption)
       have q101 : x7_1 < (l0.length : Int) := of_decide_eq_true (by first | (with_reducible assumption) | assumption)
       obtain ⟨ad101, e101, hx101_0⟩ := Kd.at_int HR0.out x7_1 p101 q101
       cases e101
       replace p101 := eq_true p101
       replace q101 := eq_true q101
       go_wp2
       go_ret
       exact ⟨by first | rfl | (simp; done) | (simp [*]; done), by repeat (first | exact Drawn0.refl _ | apply Drawn0.step)⟩
      ·rw [if_neg c5] at H
       have c5b0 : decide ((rd l0 x7_1) < 0) = false := decide_eq_false c5
       clear c5
       have H' := Aside0.mk H
       clear H
       have p101 : 0 ≤ (x7_1 : Int) := of_decide_eq_true (by first | (with_reducible assumption) | assumption)
       have q101 : x7_1 < (l0.length : Int) := of_decide_eq_true (by first | (with_reducible assumption) | assumption)
       obtain ⟨ad101, e101, hx101_0⟩ := Kd.at_int HR0.out x7_1 p101 q101
       cases e101
       replace p101 := eq_true p101
       replace q101 := eq_true q101
       go_wp2
       go_roundg k1
       case measure => have := HK1.out; omega
       case rel => exact ⟨(wrap64 (x7_1 + 1)), (by first | rfl | (simp; done) | (simp [*]; done)), H', ⟨by have := HK1.out; omega⟩, by repeat (first | exact Drawn0.refl _ | apply Drawn0.step)⟩
     ·rw [if_neg c4] at H
      exact absurd H (by simp)
    ·rw [if_neg c3] at H
     exact absurd H (by simp)
   ·rw [if_neg c2] at H
    have c2b0 : decide (x7_1 < (l0.length : Int)) = false := decide_eq_false c2
    clear c2
    obtain rfl := Option.some.inj H
    go_wp2
    go_ret
    exact ⟨by first | rfl | (simp; done) | (simp [*]; done), by repeat (first | exact Drawn0.refl _ | apply Drawn0.step)⟩
end Go.Proofs.Ytacgeafjilipdaa.P
namespace Go.Proofs.Ytacgeafjilipdaa.P
open Go.RowKit Go.Proofs.YtacgeafjilipdaaW.PrintWords Go.Proofs.YtacgeafjilipdaaW.PrintLast Go.Proofs.YtacgeafjilipdaaW.PrintMore
set_option linter.unusedVariables false
set_option linter.unusedSimpArgs false
theorem rd_map {α : Type} (f : α → Int) {l : List α} {i : Nat} (h : i < l.length) : rd (l.map f) (i : Int) = f l[i] := by rw [rd_at (by simpa using h)]; simp
theorem andNot_eq (v : Int) (h : u64 v) : Go.bits .andNot .u64 v 9223372036854775808 = if v ≥ 9223372036854775808 then v - 9223372036854775808 else v := by
  have h0 := h.1; have h1 := h.2
  rw [Go.u64_andNot v 9223372036854775808 h0 (by omega) (by omega) (by omega)]
  have e : (18446744073709551615 - (9223372036854775808 : Int).toNat : Nat) = 2 ^ 63 - 1 := by decide
  rw [e, Nat.and_two_pow_sub_one_eq_mod]
  split <;> omega
theorem refNaN_eq (v : Int) (h : u64 v) : tidepoleref09_NaN.f v = some (nan v) := by
  unfold tidepoleref09_NaN.f nan
  rw [andNot_eq v h]
  have := h.1; have := h.2
  by_cases c : v ≥ 9223372036854775808
  · rw [if_pos c, if_pos c]
    have : IntKind.u64.wrap (v - 9223372036854775808) = v - 9223372036854775808 := by
      show (v - 9223372036854775808) % 18446744073709551616 = _; omega
    rw [this]
  · rw [if_neg c, if_neg c]
theorem refHead_eq (s z : Int) (k : Nat) (hk : 0 < k) : tidepoleref09_Head.f k s z = some (if s < -4 ∨ s > 8 then 21 else if ¬ z < 9218868437227405312 then 11 else 0) := by
  obtain ⟨k, rfl⟩ : ∃ m, k = m + 1 := ⟨k - 1, by omega⟩
  unfold tidepoleref09_Head.f
  by_cases h1 : s < -4
  · rw [if_pos h1, tidepoleref09_Head.j0, if_pos rfl, if_pos (Or.inl h1)]
  · rw [if_neg h1, tidepoleref09_Head.j0]
    by_cases h2 : s > 8
    · rw [if_pos (by simpa using h2), if_pos (Or.inr h2)]
    · rw [if_neg (by simpa using h2), if_neg (c := s < -4 ∨ s > 8) (by omega)]
      by_cases h3 : z < 9218868437227405312
      · rw [if_neg (by omega), if_neg (by omega)]
      · rw [if_pos (by omega), if_pos h3]
def leftV : Int → List Pr → Option Int
  | a, [] => some a
  | a, p :: l => if p.f1 > a then none else leftV (a - p.f1) l
theorem leftV_eq : ∀ (l : List Pr) (a : Int), (∀ p ∈ l, 0 ≤ p.f1) → leftV a l = if sumV l ≤ a then some (a - sumV l) else (if 0 ≤ a then none else leftV a l)
  | [], a, _ => by
    by_cases h : 0 ≤ a
    · simp [leftV, sumV, h]
    · simp [leftV, sumV, h]
  | p :: l, a, hp => by
    have hq := fun x hx => hp x (List.mem_cons_of_mem _ hx)
    have h0 := hp p (List.mem_cons_self ..)
    have hs := sumV_nonneg (l := l) hq
    have e : sumV (p :: l) = p.f1 + sumV l := by simp [sumV]
    rw [e]
    simp only [leftV]
    by_cases c : p.f1 > a
    · rw [if_pos c, if_neg (by omega)]; split <;> rfl
    · rw [if_neg c, leftV_eq l _ hq]
      by_cases d : sumV l ≤ a - p.f1
      · rw [if_pos d, if_pos (by omega)]; congr 1; omega
      · rw [if_neg d, if_neg (c := p.f1 + sumV l ≤ a) (by omega), if_pos (c := 0 ≤ a - p.f1) (by omega), if_pos (c := 0 ≤ a) (by omega)]
theorem u64_wrap {x : Int} (h : u64 x) : IntKind.u64.wrap x = x := by
  have := h.1; have := h.2
  show x % 18446744073709551616 = x; omega
theorem refFits_l1 (sm : Int) (P N : List Int) (l : List Pr) (h : ∀ p ∈ l, 0 ≤ p.f1 ∧ p.f1 ≤ 9223372036854775807) (hm : l.length < 17592186044416) (side : Int) : ∀ (d k i : Nat) (a : Int), l.length - i = d → d < k → i ≤ l.length → u64 a →
    tidepoleref09_Fits.l1 k sm P N a side (l.map (·.f1)) (i : Int) = match leftV a (l.drop i) with | none => some 22 | some b => tidepoleref09_Fits.l0 (k - d - 1) sm P N b (wrap64 (side + 1)) := by
  intro d
  induction d with
  | zero =>
    intro k i a hd hk hi ha
    obtain ⟨k, rfl⟩ : ∃ m, k = m + 1 := ⟨k - 1, by omega⟩
    rw [tidepoleref09_Fits.l1, List.length_map, if_neg (by omega), drop_end (by omega)]; rfl
  | succ d ih =>
    intro k i a hd hk hi ha
    obtain ⟨k, rfl⟩ : ∃ m, k = m + 1 := ⟨k - 1, by omega⟩
    have hlt : i < l.length := by omega
    have hx := h _ (List.getElem_mem hlt)
    have h0 := ha.1
    have h1 := ha.2
    rw [tidepoleref09_Fits.l1, List.length_map, if_pos (by omega), if_pos (by omega), rd_map _ hlt, drop_at hlt, if_neg (by omega), u64_wrap (x := l[i].f1) ⟨by omega, by omega⟩]
    simp only [leftV]
    by_cases c : l[i].f1 > a
    · rw [if_pos c, if_pos c]
    · have hr := ih k (i + 1) (a - l[i].f1) (by omega) (by omega) (by omega) ⟨by omega, by omega⟩
      rw [if_neg c, if_neg c, u64_wrap (x := a - l[i].f1) ⟨by omega, by omega⟩, wrap_succ (by omega), hr]
      rw [show k + 1 - (d + 1) - 1 = k - d - 1 by omega]
theorem refFits_eq (zc ct sm : Int) (p n : List Pr) (hz : u64 zc) (hc : u64 ct) (hs : u64 sm) (hp : ∀ x ∈ p, 0 ≤ x.f1 ∧ x.f1 ≤ 9223372036854775807) (hn : ∀ x ∈ n, 0 ≤ x.f1 ∧ x.f1 ≤ 9223372036854775807) (hpm : p.length < 17592186044416) (hnm : n.length < 17592186044416) (k : Nat) (hk : p.length + n.length + 10 < k) :
    tidepoleref09_Fits.f k zc ct sm (p.map (·.f1)) (n.map (·.f1)) = some (if fits zc ct sm p n = true then 0 else 22) := by
  have hsp := sumV_nonneg (l := p) (fun x hx => (hp x hx).1)
  have hsn := sumV_nonneg (l := n) (fun x hx => (hn x hx).1)
  have hz0 := hz.1; have hz1 := hz.2; have hc0 := hc.1; have hc1 := hc.2
  have hF : fits zc ct sm p n = decide (zc + sumV p + sumV n ≤ ct ∧ (zc + sumV p + sumV n = ct ∨ nan sm = true)) := by
    unfold fits totalRes
    have e : sumR [p, n] = sumV p + sumV n := by simp [sumR]
    rw [e]
    by_cases c : zc + (sumV p + sumV n) ≤ 18446744073709551615
    · rw [if_pos c]
      simp only [Bool.true_and]
      rw [Bool.eq_iff_iff, Bool.and_eq_true, Bool.or_eq_true, decide_eq_true_eq, decide_eq_true_eq, decide_eq_true_eq]
      constructor
      · rintro ⟨h1, h2⟩
        exact ⟨by omega, h2.imp (fun h => by omega) id⟩
      · rintro ⟨h1, h2⟩
        exact ⟨by omega, h2.imp (fun h => by omega) id⟩
    · rw [if_neg c]
      simp only [Bool.false_and]
      rw [decide_eq_false (by omega)]
  unfold tidepoleref09_Fits.f
  by_cases c0 : zc > ct
  · rw [if_pos c0, hF, decide_eq_false (by omega)]; rfl
  rw [if_neg c0, u64_wrap (x := ct - zc) ⟨by omega, by omega⟩]
  obtain ⟨k, rfl⟩ : ∃ m, k = m + 2 := ⟨k - 2, by omega⟩
  rw [tidepoleref09_Fits.l0, if_pos (by omega), if_neg (by omega), tidepoleref09_Fits.j1]
  have h1 := refFits_l1 sm (p.map (·.f1)) (n.map (·.f1)) p hp hpm 0 p.length k 0 (ct - zc) (by omega) (by omega) (by omega) ⟨by omega, by omega⟩
  rw [show ((0 : Nat) : Int) = 0 from rfl] at h1
  rw [h1, List.drop_zero, leftV_eq p _ (fun x hx => (hp x hx).1)]
  by_cases c1 : sumV p ≤ ct - zc
  rotate_left
  · rw [if_neg c1, if_pos (by omega), hF, decide_eq_false (by omega)]; rfl
  rw [if_pos c1]
  simp only
  rw [show wrap64 (0 + 1) = 1 from by unfold wrap64; omega]
  obtain ⟨j, hj⟩ : ∃ m, k - p.length - 1 = m + 2 := ⟨k - p.length - 1 - 2, by omega⟩
  rw [hj, tidepoleref09_Fits.l0, if_pos (by omega), if_pos rfl, tidepoleref09_Fits.j1]
  have h2 := refFits_l1 sm (p.map (·.f1)) (n.map (·.f1)) n hn hnm 1 n.length j 0 (ct - zc - sumV p) (by omega) (by omega) (by omega) ⟨by omega, by omega⟩
  rw [show ((0 : Nat) : Int) = 0 from rfl] at h2
  rw [h2, List.drop_zero, leftV_eq n _ (fun x hx => (hn x hx).1)]
  by_cases c2 : sumV n ≤ ct - zc - sumV p
  rotate_left
  · rw [if_neg c2, if_pos (by omega), hF, decide_eq_false (by omega)]; rfl
  rw [if_pos c2]
  simp only
  rw [show wrap64 (1 + 1) = 2 from by unfold wrap64; omega]
  obtain ⟨i, hi⟩ : ∃ m, j - n.length - 1 = m + 1 := ⟨j - n.length - 1 - 1, by omega⟩
  rw [hi, tidepoleref09_Fits.l0, if_neg (by omega), refNaN_eq sm hs, Option.bind_some, hF]
  by_cases c3 : ct - zc - sumV p - sumV n > 0
  · rw [if_pos c3]
    cases hnn : nan sm with
    | true => rw [if_pos rfl, decide_eq_true ⟨by omega, Or.inr rfl⟩, if_pos rfl]
    | false => rw [if_neg (by simp), decide_eq_false (by rintro ⟨_, h | h⟩; omega; cases h), if_neg (by simp)]
  · rw [if_neg c3, decide_eq_true ⟨by omega, Or.inl (by omega)⟩, if_pos rfl]
theorem below_eq (l : List Int) (hm : l.length < 17592186044416) (k : Nat) (hk : l.length < k) : tidepolelaw09_below.f k l = some (l.any (fun x => decide (x < 0))) := by
  unfold tidepolelaw09_below.f
  have : ∀ (d k i : Nat), l.length - i = d → d < k → i ≤ l.length → tidepolelaw09_below.l0 k l (l.length : Int) (i : Int) = some ((l.drop i).any (fun x => decide (x < 0))) := by
    intro d
    induction d with
    | zero =>
      intro k i hd hk hi
      obtain ⟨k, rfl⟩ : ∃ m, k = m + 1 := ⟨k - 1, by omega⟩
      rw [tidepolelaw09_below.l0, if_neg (by omega), drop_end (by omega)]; rfl
    | succ d ih =>
      intro k i hd hk hi
      obtain ⟨k, rfl⟩ : ∃ m, k = m + 1 := ⟨k - 1, by omega⟩
      have hlt : i < l.length := by omega
      rw [tidepolelaw09_below.l0, if_pos (by omega), if_pos (by omega), if_pos (by omega), rd_at hlt, drop_at hlt, List.any_cons, wrap_succ (by omega)]
      by_cases c : l[i] < 0
      · rw [if_pos c, decide_eq_true c]; rfl
      · rw [if_neg c, decide_eq_false c, Bool.false_or]; exact ih k (i + 1) (by omega) (by omega) (by omega)
  exact this l.length k 0 (by omega) hk (by omega)
end Go.Proofs.Ytacgeafjilipdaa.P
namespace Go.Proofs.Ytacgeafjilipdaa.P
open Go.RowKit Go.Shelf Go.Proofs.YtacgeafjilipdaaW.PrintWords Go.Proofs.YtacgeafjilipdaaW.PrintLast Go.Proofs.YtacgeafjilipdaaW.PrintMore
set_option linter.unusedVariables false
set_option linter.unusedSimpArgs false
theorem equalPr_c (a b : List Pr) (hm : a.length < 17592186044416) (w : World) (u v : Value) (hu : SI kPr w u a) (hv : SI kPr w v b) : Calls Try.prog 40 #[u, v] w fun e w' => e = .returned (.bool (decide (a = b))) ∧ Below w.heap.size w w' := by
  obtain ⟨A, c, rfl, hc, hr⟩ := hu
  obtain ⟨B, d, rfl, hd, hs⟩ := hv
  exact (pairs_Equal_int64.calls (a.length + 1) A c a B d b _ w hr hc hs hd (equalPr_eq a b hm _ (by omega))).mono fun e w1 h => ⟨h.1, h.2.below⟩
def sameNums (a b : Hi) : Prop := a.f0 = b.f0 ∧ a.f1 = b.f1 ∧ a.f2 = b.f2 ∧ a.f3 = b.f3 ∧ a.f4 = b.f4
instance (a b : Hi) : Decidable (sameNums a b) := by unfold sameNums; exact inferInstance
def equalR (a b : Hi) : Bool := decide (sameNums a b) && (decide (checkR a = 0) && decide (checkR b = 0) && (decide (some0 (openR a).1 = some0 (openR b).1) && decide (some0 (openR a).2.1 = some0 (openR b).2.1)))
set_option maxHeartbeats 16000000 in
set_option maxRecDepth 100000 in
theorem equal_c (a b : Hi) (hwa : wfH a) (hwb : wfH b) (w : World) (u v : Value) (hu : HI w u a) (hv : HI w v b) : Calls Try.prog 80 #[u, v] w fun e w' =>
    e = .returned (.bool (equalR a b)) ∧ Below w.heap.size w w' := by
  have hud := Try.underlying64
  obtain ⟨A5, ac5, A6, ac6, A7, ac7, A8, ac8, e, -⟩ := hu.open_
  subst e
  obtain ⟨B5, bc5, B6, bc6, B7, bc7, B8, bc8, e, -⟩ := hv.open_
  subst e
  have HA := Aside0.mk hu
  have HB := Aside0.mk hv
  have oa := open_c a hwa
  have ob := open_c b hwb
  have ra := openR_row hwa
  have rb := openR_row hwb
  have wp := without_c (openR a).1 (by have := ra.1.len; omega)
  have wn := without_c (openR a).2.1 (by have := ra.2.len; omega)
  have wq := without_c (openR b).1 (by have := rb.1.len; omega)
  have wm := without_c (openR b).2.1 (by have := rb.2.len; omega)
  have ep := equalPr_c (some0 (openR a).1) (some0 (openR b).1) (by have := ra.1.len; have := List.length_filter_le (fun x : Pr => !(x.f1 == 0)) (openR a).1; unfold some0; omega)
  have en := equalPr_c (some0 (openR a).2.1) (some0 (openR b).2.1) (by have := ra.2.len; have := List.length_filter_le (fun x : Pr => !(x.f1 == 0)) (openR a).2.1; unfold some0; omega)
  clear hu hv hwa hwb ra rb
  obtain ⟨r, hr⟩ : ∃ r, r = equalR a b := ⟨_, rfl⟩
  rw [← hr]
  unfold equalR checkR at hr
  generalize decide (some0 (openR a).1 = some0 (openR b).1) = b1 at *
  generalize decide (some0 (openR a).2.1 = some0 (openR b).2.1) = b2 at *
  generalize some0 (openR a).1 = sp at *
  generalize some0 (openR a).2.1 = sn at *
  generalize some0 (openR b).1 = sq at *
  generalize some0 (openR b).2.1 = sm at *
  generalize openR a = o1 at *
  generalize openR b = o2 at *
  obtain ⟨p, n, ea⟩ := o1
  obtain ⟨q, m, eb⟩ := o2
  simp only at oa ob wp wn wq wm hr
  have HR := Aside0.mk hr
  have OA := Aside0.mk oa
  have OB := Aside0.mk ob
  have WP := Aside0.mk wp
  have WN := Aside0.mk wn
  have WQ := Aside0.mk wq
  have WM := Aside0.mk wm
  have EP := Aside0.mk ep
  have EN := Aside0.mk en
  clear hr oa ob wp wn wq wm ep en
  by_cases e0 : a.f0 = b.f0
  rotate_left
  · have hn : ¬ sameNums a b := fun h => e0 h.1
    have hr : r = false := by rw [HR.out, decide_eq_false hn]; simp
    subst hr
    have d0 : (a.f0 != b.f0) = true := bne_iff_ne.2 e0
    clear hn e0
    go_enter Try.func80, Try.ntmps80
    go_wp2
    go_ret
    exact ⟨rfl, below_alloc (below_alloc (Below.refl _ _) _) _⟩
  by_cases e1 : a.f1 = b.f1
  rotate_left
  · have hn : ¬ sameNums a b := fun h => e1 h.2.1
    have hr : r = false := by rw [HR.out, decide_eq_false hn]; simp
    subst hr
    have d0 : (a.f0 != b.f0) = false := by rw [e0]; simp
    have d1 : (a.f1 != b.f1) = true := bne_iff_ne.2 e1
    clear hn e0 e1
    go_enter Try.func80, Try.ntmps80
    go_wp2
    go_ret
    exact ⟨rfl, below_alloc (below_alloc (Below.refl _ _) _) _⟩
  by_cases e2 : a.f2 = b.f2
  rotate_left
  · have hn : ¬ sameNums a b := fun h => e2 h.2.2.1
    have hr : r = false := by rw [HR.out, decide_eq_false hn]; simp
    subst hr
    have d0 : (a.f0 != b.f0) = false := by rw [e0]; simp
    have d1 : (a.f1 != b.f1) = false := by rw [e1]; simp
    have d2 : (a.f2 != b.f2) = true := bne_iff_ne.2 e2
    clear hn e0 e1 e2
    go_enter Try.func80, Try.ntmps80
    go_wp2
    go_ret
    exact ⟨rfl, below_alloc (below_alloc (Below.refl _ _) _) _⟩
  by_cases e3 : a.f3 = b.f3
  rotate_left
  · have hn : ¬ sameNums a b := fun h => e3 h.2.2.2.1
    have hr : r = false := by rw [HR.out, decide_eq_false hn]; simp
    subst hr
    have d0 : (a.f0 != b.f0) = false := by rw [e0]; simp
    have d1 : (a.f1 != b.f1) = false := by rw [e1]; simp
    have d2 : (a.f2 != b.f2) = false := by rw [e2]; simp
    have d3 : (a.f3 != b.f3) = true := bne_iff_ne.2 e3
    clear hn e0 e1 e2 e3
    go_enter Try.func80, Try.ntmps80
    go_wp2
    go_ret
    exact ⟨rfl, below_alloc (below_alloc (Below.refl _ _) _) _⟩
  by_cases e4 : a.f4 = b.f4
  rotate_left
  · have hn : ¬ sameNums a b := fun h => e4 h.2.2.2.2
    have hr : r = false := by rw [HR.out, decide_eq_false hn]; simp
    subst hr
    have d0 : (a.f0 != b.f0) = false := by rw [e0]; simp
    have d1 : (a.f1 != b.f1) = false := by rw [e1]; simp
    have d2 : (a.f2 != b.f2) = false := by rw [e2]; simp
    have d3 : (a.f3 != b.f3) = false := by rw [e3]; simp
    have d4 : (a.f4 != b.f4) = true := bne_iff_ne.2 e4
    clear hn e0 e1 e2 e3 e4
    go_enter Try.func80, Try.ntmps80
    go_wp2
    go_ret
    exact ⟨rfl, below_alloc (below_alloc (Below.refl _ _) _) _⟩
  have HS := Aside0.mk (show sameNums a b from ⟨e0, e1, e2, e3, e4⟩)
  have d0 : (a.f0 != b.f0) = false := by rw [e0]; simp
  have d1 : (a.f1 != b.f1) = false := by rw [e1]; simp
  have d2 : (a.f2 != b.f2) = false := by rw [e2]; simp
  have d3 : (a.f3 != b.f3) = false := by rw [e3]; simp
  have d4 : (a.f4 != b.f4) = false := by rw [e4]; simp
  clear e0 e1 e2 e3 e4
  by_cases c1 : ea = 0
  rotate_left
  · have hr : r = false := by rw [HR.out, decide_eq_false c1]; simp
    subst hr
    have c1a : (ea == 0) = false := beq_eq_false_iff_ne.2 c1
    clear c1
    go_enter Try.func80, Try.ntmps80
    go_wp2_with (first | (go_at_call 146; (with_reducible refine (OA.out _ _ (HA.out.below (below_alloc (below_alloc (Below.refl _ _) _) _))).mono ?_); rintro e w1 ⟨v0, v1, rfl, h0, h1, hb⟩; have F1 := Aside0.mk (And.intro h0 h1); have B1 := Aside0.mk (below_then (below_alloc (below_alloc (Below.refl w.heap.size w) (.cells #[.int .i64 a.f0, .int .u64 a.f1, .int .u64 a.f2, .int .u64 a.f3, .int .u64 a.f4, .slice A5 a.f5.length ac5, .slice A6 a.f6.length ac6, .slice A7 a.f7.length ac7, .slice A8 a.f8.length ac8] 64)) (.cells #[.int .i64 b.f0, .int .u64 b.f1, .int .u64 b.f2, .int .u64 b.f3, .int .u64 b.f4, .slice B5 b.f5.length bc5, .slice B6 b.f6.length bc6, .slice B7 b.f7.length bc7, .slice B8 b.f8.length bc8] 64)) (by simp; omega) hb); have HY1 := Aside0.mk (show w1.heap[w.heap.size + 1]? = some (.cells #[.int .i64 b.f0, .int .u64 b.f1, .int .u64 b.f2, .int .u64 b.f3, .int .u64 b.f4, .slice B5 b.f5.length bc5, .slice B6 b.f6.length bc6, .slice B7 b.f7.length bc7, .slice B8 b.f8.length bc8] 64 (0, 0)) from (blk_below (show ((w.alloc (.cells #[.int .i64 a.f0, .int .u64 a.f1, .int .u64 a.f2, .int .u64 a.f3, .int .u64 a.f4, .slice A5 a.f5.length ac5, .slice A6 a.f6.length ac6, .slice A7 a.f7.length ac7, .slice A8 a.f8.length ac8] 64)).alloc (.cells #[.int .i64 b.f0, .int .u64 b.f1, .int .u64 b.f2, .int .u64 b.f3, .int .u64 b.f4, .slice B5 b.f5.length bc5, .slice B6 b.f6.length bc6, .slice B7 b.f7.length bc7, .slice B8 b.f8.length bc8] 64)).heap[w.heap.size + 1]? = _ by simpa using blk_new (w.alloc (.cells #[.int .i64 a.f0, .int .u64 a.f1, .int .u64 a.f2, .int .u64 a.f3, .int .u64 a.f4, .slice A5 a.f5.length ac5, .slice A6 a.f6.length ac6, .slice A7 a.f7.length ac7, .slice A8 a.f8.length ac8] 64)) (.cells #[.int .i64 b.f0, .int .u64 b.f1, .int .u64 b.f2, .int .u64 b.f3, .int .u64 b.f4, .slice B5 b.f5.length bc5, .slice B6 b.f6.length bc6, .slice B7 b.f7.length bc7, .slice B8 b.f8.length bc8] 64)) hb)); have hfy := fun i => blk_cell HY1.out i; clear h0 h1 hb) | (go_at_call 146; (with_reducible refine (OB.out w1 _ (HB.out.below B1.out)).mono ?_); rintro e w2 ⟨v2, v3, rfl, h0, h1, hb⟩; have F2 := Aside0.mk (And.intro (And.intro (F1.out.1.below hb) (F1.out.2.below hb)) (And.intro h0 h1)); have B2 := Aside0.mk (below_then B1.out B1.out.size hb); clear hfy h0 h1 hb))
    go_ret
    exact ⟨rfl, B2.out⟩
  subst c1
  by_cases c2 : eb = 0
  rotate_left
  · have hr : r = false := by rw [HR.out, decide_eq_false c2]; simp
    subst hr
    have c2a : (eb == 0) = false := beq_eq_false_iff_ne.2 c2
    clear c2
    go_enter Try.func80, Try.ntmps80
    go_wp2_with (first | (go_at_call 146; (with_reducible refine (OA.out _ _ (HA.out.below (below_alloc (below_alloc (Below.refl _ _) _) _))).mono ?_); rintro e w1 ⟨v0, v1, rfl, h0, h1, hb⟩; have F1 := Aside0.mk (And.intro h0 h1); have B1 := Aside0.mk (below_then (below_alloc (below_alloc (Below.refl w.heap.size w) (.cells #[.int .i64 a.f0, .int .u64 a.f1, .int .u64 a.f2, .int .u64 a.f3, .int .u64 a.f4, .slice A5 a.f5.length ac5, .slice A6 a.f6.length ac6, .slice A7 a.f7.length ac7, .slice A8 a.f8.length ac8] 64)) (.cells #[.int .i64 b.f0, .int .u64 b.f1, .int .u64 b.f2, .int .u64 b.f3, .int .u64 b.f4, .slice B5 b.f5.length bc5, .slice B6 b.f6.length bc6, .slice B7 b.f7.length bc7, .slice B8 b.f8.length bc8] 64)) (by simp; omega) hb); have HY1 := Aside0.mk (show w1.heap[w.heap.size + 1]? = some (.cells #[.int .i64 b.f0, .int .u64 b.f1, .int .u64 b.f2, .int .u64 b.f3, .int .u64 b.f4, .slice B5 b.f5.length bc5, .slice B6 b.f6.length bc6, .slice B7 b.f7.length bc7, .slice B8 b.f8.length bc8] 64 (0, 0)) from (blk_below (show ((w.alloc (.cells #[.int .i64 a.f0, .int .u64 a.f1, .int .u64 a.f2, .int .u64 a.f3, .int .u64 a.f4, .slice A5 a.f5.length ac5, .slice A6 a.f6.length ac6, .slice A7 a.f7.length ac7, .slice A8 a.f8.length ac8] 64)).alloc (.cells #[.int .i64 b.f0, .int .u64 b.f1, .int .u64 b.f2, .int .u64 b.f3, .int .u64 b.f4, .slice B5 b.f5.length bc5, .slice B6 b.f6.length bc6, .slice B7 b.f7.length bc7, .slice B8 b.f8.length bc8] 64)).heap[w.heap.size + 1]? = _ by simpa using blk_new (w.alloc (.cells #[.int .i64 a.f0, .int .u64 a.f1, .int .u64 a.f2, .int .u64 a.f3, .int .u64 a.f4, .slice A5 a.f5.length ac5, .slice A6 a.f6.length ac6, .slice A7 a.f7.length ac7, .slice A8 a.f8.length ac8] 64)) (.cells #[.int .i64 b.f0, .int .u64 b.f1, .int .u64 b.f2, .int .u64 b.f3, .int .u64 b.f4, .slice B5 b.f5.length bc5, .slice B6 b.f6.length bc6, .slice B7 b.f7.length bc7, .slice B8 b.f8.length bc8] 64)) hb)); have hfy := fun i => blk_cell HY1.out i; clear h0 h1 hb) | (go_at_call 146; (with_reducible refine (OB.out w1 _ (HB.out.below B1.out)).mono ?_); rintro e w2 ⟨v2, v3, rfl, h0, h1, hb⟩; have F2 := Aside0.mk (And.intro (And.intro (F1.out.1.below hb) (F1.out.2.below hb)) (And.intro h0 h1)); have B2 := Aside0.mk (below_then B1.out B1.out.size hb); clear hfy h0 h1 hb))
    go_ret
    exact ⟨rfl, B2.out⟩
  subst c2
  have hr : r = (b1 && b2) := by rw [HR.out, decide_eq_true HS.out]; simp
  cases b1 with
  | false =>
    rw [Bool.false_and] at hr
    subst hr
    go_enter Try.func80, Try.ntmps80
    go_wp2_with (first | (go_at_call 146; (with_reducible refine (OA.out _ _ (HA.out.below (below_alloc (below_alloc (Below.refl _ _) _) _))).mono ?_); rintro e w1 ⟨v0, v1, rfl, h0, h1, hb⟩; have F1 := Aside0.mk (And.intro h0 h1); have B1 := Aside0.mk (below_then (below_alloc (below_alloc (Below.refl w.heap.size w) (.cells #[.int .i64 a.f0, .int .u64 a.f1, .int .u64 a.f2, .int .u64 a.f3, .int .u64 a.f4, .slice A5 a.f5.length ac5, .slice A6 a.f6.length ac6, .slice A7 a.f7.length ac7, .slice A8 a.f8.length ac8] 64)) (.cells #[.int .i64 b.f0, .int .u64 b.f1, .int .u64 b.f2, .int .u64 b.f3, .int .u64 b.f4, .slice B5 b.f5.length bc5, .slice B6 b.f6.length bc6, .slice B7 b.f7.length bc7, .slice B8 b.f8.length bc8] 64)) (by simp; omega) hb); have HY1 := Aside0.mk (show w1.heap[w.heap.size + 1]? = some (.cells #[.int .i64 b.f0, .int .u64 b.f1, .int .u64 b.f2, .int .u64 b.f3, .int .u64 b.f4, .slice B5 b.f5.length bc5, .slice B6 b.f6.length bc6, .slice B7 b.f7.length bc7, .slice B8 b.f8.length bc8] 64 (0, 0)) from (blk_below (show ((w.alloc (.cells #[.int .i64 a.f0, .int .u64 a.f1, .int .u64 a.f2, .int .u64 a.f3, .int .u64 a.f4, .slice A5 a.f5.length ac5, .slice A6 a.f6.length ac6, .slice A7 a.f7.length ac7, .slice A8 a.f8.length ac8] 64)).alloc (.cells #[.int .i64 b.f0, .int .u64 b.f1, .int .u64 b.f2, .int .u64 b.f3, .int .u64 b.f4, .slice B5 b.f5.length bc5, .slice B6 b.f6.length bc6, .slice B7 b.f7.length bc7, .slice B8 b.f8.length bc8] 64)).heap[w.heap.size + 1]? = _ by simpa using blk_new (w.alloc (.cells #[.int .i64 a.f0, .int .u64 a.f1, .int .u64 a.f2, .int .u64 a.f3, .int .u64 a.f4, .slice A5 a.f5.length ac5, .slice A6 a.f6.length ac6, .slice A7 a.f7.length ac7, .slice A8 a.f8.length ac8] 64)) (.cells #[.int .i64 b.f0, .int .u64 b.f1, .int .u64 b.f2, .int .u64 b.f3, .int .u64 b.f4, .slice B5 b.f5.length bc5, .slice B6 b.f6.length bc6, .slice B7 b.f7.length bc7, .slice B8 b.f8.length bc8] 64)) hb)); have hfy := fun i => blk_cell HY1.out i; clear h0 h1 hb) | (go_at_call 146; (with_reducible refine (OB.out w1 _ (HB.out.below B1.out)).mono ?_); rintro e w2 ⟨v2, v3, rfl, h0, h1, hb⟩; have F2 := Aside0.mk (And.intro (And.intro (F1.out.1.below hb) (F1.out.2.below hb)) (And.intro h0 h1)); have B2 := Aside0.mk (below_then B1.out B1.out.size hb); clear hfy h0 h1 hb) | (go_at_call 39; (with_reducible refine (WP.out _ v0 F2.out.1.1).mono ?_); rintro e w3 ⟨x0, rfl, hs, hb⟩; have F3 := Aside0.mk (And.intro hs (And.intro (F2.out.1.2.below hb) (And.intro (F2.out.2.1.below hb) (F2.out.2.2.below hb)))); have B3 := Aside0.mk (below_then B2.out B2.out.size hb); clear hs hb) | (go_at_call 39; (with_reducible refine (WQ.out _ v2 F3.out.2.2.1).mono ?_); rintro e w4 ⟨x1, rfl, hs, hb⟩; have F4 := Aside0.mk (And.intro (F3.out.1.below hb) (And.intro hs (And.intro (F3.out.2.1.below hb) (F3.out.2.2.2.below hb)))); have B4 := Aside0.mk (below_then B3.out B3.out.size hb); clear hs hb) | (go_at_call 40; (with_reducible refine (EP.out _ x0 x1 F4.out.1 F4.out.2.1).mono ?_); rintro e w5 ⟨rfl, hb⟩; have F5 := Aside0.mk (And.intro (F4.out.2.2.1.below hb) (F4.out.2.2.2.below hb)); have B5 := Aside0.mk (below_then B4.out B4.out.size hb); clear hb))
    go_ret
    exact ⟨rfl, B5.out⟩
  | true =>
    rw [Bool.true_and] at hr
    subst hr
    go_enter Try.func80, Try.ntmps80
    go_wp2_with (first | (go_at_call 146; (with_reducible refine (OA.out _ _ (HA.out.below (below_alloc (below_alloc (Below.refl _ _) _) _))).mono ?_); rintro e w1 ⟨v0, v1, rfl, h0, h1, hb⟩; have F1 := Aside0.mk (And.intro h0 h1); have B1 := Aside0.mk (below_then (below_alloc (below_alloc (Below.refl w.heap.size w) (.cells #[.int .i64 a.f0, .int .u64 a.f1, .int .u64 a.f2, .int .u64 a.f3, .int .u64 a.f4, .slice A5 a.f5.length ac5, .slice A6 a.f6.length ac6, .slice A7 a.f7.length ac7, .slice A8 a.f8.length ac8] 64)) (.cells #[.int .i64 b.f0, .int .u64 b.f1, .int .u64 b.f2, .int .u64 b.f3, .int .u64 b.f4, .slice B5 b.f5.length bc5, .slice B6 b.f6.length bc6, .slice B7 b.f7.length bc7, .slice B8 b.f8.length bc8] 64)) (by simp; omega) hb); have HY1 := Aside0.mk (show w1.heap[w.heap.size + 1]? = some (.cells #[.int .i64 b.f0, .int .u64 b.f1, .int .u64 b.f2, .int .u64 b.f3, .int .u64 b.f4, .slice B5 b.f5.length bc5, .slice B6 b.f6.length bc6, .slice B7 b.f7.length bc7, .slice B8 b.f8.length bc8] 64 (0, 0)) from (blk_below (show ((w.alloc (.cells #[.int .i64 a.f0, .int .u64 a.f1, .int .u64 a.f2, .int .u64 a.f3, .int .u64 a.f4, .slice A5 a.f5.length ac5, .slice A6 a.f6.length ac6, .slice A7 a.f7.length ac7, .slice A8 a.f8.length ac8] 64)).alloc (.cells #[.int .i64 b.f0, .int .u64 b.f1, .int .u64 b.f2, .int .u64 b.f3, .int .u64 b.f4, .slice B5 b.f5.length bc5, .slice B6 b.f6.length bc6, .slice B7 b.f7.length bc7, .slice B8 b.f8.length bc8] 64)).heap[w.heap.size + 1]? = _ by simpa using blk_new (w.alloc (.cells #[.int .i64 a.f0, .int .u64 a.f1, .int .u64 a.f2, .int .u64 a.f3, .int .u64 a.f4, .slice A5 a.f5.length ac5, .slice A6 a.f6.length ac6, .slice A7 a.f7.length ac7, .slice A8 a.f8.length ac8] 64)) (.cells #[.int .i64 b.f0, .int .u64 b.f1, .int .u64 b.f2, .int .u64 b.f3, .int .u64 b.f4, .slice B5 b.f5.length bc5, .slice B6 b.f6.length bc6, .slice B7 b.f7.length bc7, .slice B8 b.f8.length bc8] 64)) hb)); have hfy := fun i => blk_cell HY1.out i; clear h0 h1 hb) | (go_at_call 146; (with_reducible refine (OB.out w1 _ (HB.out.below B1.out)).mono ?_); rintro e w2 ⟨v2, v3, rfl, h0, h1, hb⟩; have F2 := Aside0.mk (And.intro (And.intro (F1.out.1.below hb) (F1.out.2.below hb)) (And.intro h0 h1)); have B2 := Aside0.mk (below_then B1.out B1.out.size hb); clear hfy h0 h1 hb) | (go_at_call 39; (with_reducible refine (WP.out _ v0 F2.out.1.1).mono ?_); rintro e w3 ⟨x0, rfl, hs, hb⟩; have F3 := Aside0.mk (And.intro hs (And.intro (F2.out.1.2.below hb) (And.intro (F2.out.2.1.below hb) (F2.out.2.2.below hb)))); have B3 := Aside0.mk (below_then B2.out B2.out.size hb); clear hs hb) | (go_at_call 39; (with_reducible refine (WQ.out _ v2 F3.out.2.2.1).mono ?_); rintro e w4 ⟨x1, rfl, hs, hb⟩; have F4 := Aside0.mk (And.intro (F3.out.1.below hb) (And.intro hs (And.intro (F3.out.2.1.below hb) (F3.out.2.2.2.below hb)))); have B4 := Aside0.mk (below_then B3.out B3.out.size hb); clear hs hb) | (go_at_call 40; (with_reducible refine (EP.out _ x0 x1 F4.out.1 F4.out.2.1).mono ?_); rintro e w5 ⟨rfl, hb⟩; have F5 := Aside0.mk (And.intro (F4.out.2.2.1.below hb) (F4.out.2.2.2.below hb)); have B5 := Aside0.mk (below_then B4.out B4.out.size hb); clear hb) | (go_at_call 39; (with_reducible refine (WN.out _ v1 F5.out.1).mono ?_); rintro e w6 ⟨x2, rfl, hs, hb⟩; have F6 := Aside0.mk (And.intro hs (F5.out.2.below hb)); have B6 := Aside0.mk (below_then B5.out B5.out.size hb); clear hs hb) | (go_at_call 39; (with_reducible refine (WM.out _ v3 F6.out.2).mono ?_); rintro e w7 ⟨x3, rfl, hs, hb⟩; have F7 := Aside0.mk (And.intro (F6.out.1.below hb) hs); have B7 := Aside0.mk (below_then B6.out B6.out.size hb); clear hs hb) | (go_at_call 40; (with_reducible refine (EN.out _ x2 x3 F7.out.1 F7.out.2).mono ?_); rintro e w8 ⟨rfl, hb⟩; have B8 := Aside0.mk (below_then B7.out B7.out.size hb); clear hb))
    go_ret
    exact ⟨rfl, B8.out⟩
end Go.Proofs.Ytacgeafjilipdaa.P
namespace Go.Proofs.Ytacgeafjilipdaa.P
open Go.RowKit Go.Shelf Go.Proofs.YtacgeafjilipdaaW.PrintWords Go.Proofs.YtacgeafjilipdaaW.PrintLast Go.Proofs.YtacgeafjilipdaaW.PrintMore
set_option linter.unusedVariables false
set_option linter.unusedSimpArgs false
theorem open_f (h : Hi) (hw : wfH h) (w : World) (v : Value) (hv : HI w v h) : Calls Try.prog 146 #[v] w fun e w' =>
    ∃ v0 v1 : Value, e = .returned (.tuple #[v0, v1, .int .i64 (openR h).2.2]) ∧ FI kPr w.heap.size w' v0 (openR h).1 ∧ FI kPr w.heap.size w' v1 (openR h).2.1 ∧ Below w.heap.size w w' := by
  obtain ⟨A5, c5, A6, c6, A7, c7, A8, c8, rfl, ⟨_, _, e5, h51, h52⟩, ⟨_, _, e6, h61, h62⟩, ⟨_, _, e7, h71, h72⟩, ⟨_, _, e8, h81, h82⟩⟩ := hv.open_
  cases e5; cases e6; cases e7; cases e8
  refine (hist_open.calls h.f0 h.f1 h.f2 h.f3 h.f4 A5 c5 h.f5 A6 c6 h.f6 A7 c7 h.f7 A8 c8 h.f8 (openR h).1 (openR h).2.1 (openR h).2.2 w h52 h51 h62 h61 h72 h71 h82 h81 (if_pos hw)).mono ?_
  rintro e w1 ⟨v0, v1, rfl, h0, h1, hb⟩
  exact ⟨v0, v1, rfl, .of_R h0 (Nat.le_refl _), .of_R h1 (Nat.le_refl _), hb⟩
theorem spanCheck_c (l : List Sp) (hw : wfSps l) (w : World) (v : Value) (hv : SI kSp w v l) : Calls Try.prog 130 #[v] w fun e w' => e = .returned (.int .i64 (spCheck l)) ∧ Below w.heap.size w w' := by
  obtain ⟨A, c, rfl, hc, hr⟩ := hv
  exact span_Check.calls 2049 A c l _ w hr hc (check_eq l hw _ (by omega))
theorem spread_c (l : List Pr) (on : List Sp) (hw : wfSps on) (hk : spCheck on = 0) (hl : RowOK l) (w : World) (v : Value) (A : Option Addr) (c : Nat) (hv : SI kPr w v l) (ho : SI kSp w (.slice A on.length c) on) : Calls Try.prog 151 #[v, .slice A on.length c] w fun e w' =>
    ∃ v0, e = .returned (.tuple #[v0, .bool (spreadRes l on).2]) ∧ FI (Kd.int .i64) w.heap.size w' v0 (spreadRes l on).1 ∧ Below w.heap.size w w' := by
  obtain ⟨A0, c0, rfl, hc, hr⟩ := hv
  obtain ⟨_, _, e1, hc1, hr1⟩ := ho
  cases e1
  refine (hist_spread.calls A0 c0 l A c on _ _ w hr hc hr1 hc1 (if_pos ⟨hw, hk, hl.cnt, hl.len⟩)).mono ?_
  rintro e w1 ⟨v0, rfl, h0, hb⟩
  exact ⟨v0, rfl, .of_R h0 (Nat.le_refl _), hb⟩
theorem cloneSp_c (l : List Sp) (hm : l.length ≤ 4096) (w : World) (A : Option Addr) (c : Nat) (hv : SI kSp w (.slice A l.length c) l) : Calls Try.prog 147 #[.slice A l.length c] w fun e w' =>
    ∃ v0, e = .returned v0 ∧ FI kSp w.heap.size w' v0 l ∧ Below w.heap.size w w' := by
  obtain ⟨_, _, e1, hc1, hr1⟩ := hv
  cases e1
  refine (slices_Clone_span.calls A c l l w hr1 hc1 (by unfold slices_Clone_span.f; rw [if_pos (by omega)])).mono ?_
  rintro e w1 ⟨v0, rfl, h0, hb⟩
  exact ⟨v0, rfl, .of_R h0 (Nat.le_refl _), hb⟩
theorem _root_.Go.RowKit.Below.trans_ {B C : Nat} {a b c : World} (k : Below C b c) (h : Below B a b ∧ B ≤ C) : Below B a c := h.1.trans (k.mono h.2)
theorem _root_.Go.RowKit.Below.alloc_ {B : Nat} {a b : World} (h : Below B a b) (o : Obj) (hB : B ≤ a.heap.size := by exact Nat.le_refl _) : Below B a (b.alloc o) ∧ B ≤ (b.alloc o).heap.size := ⟨h.alloc (Nat.le_trans hB h.size) o, by have := h.size; simp; omega⟩
theorem _root_.Go.RowKit.Below.set1 {B : Nat} {w W : World} {g i : Nat} {u : Value} (h : Below B w W) (hg : B ≤ g) : Below B w (W.setCell ⟨g, i, none⟩ u) := h.setCell (p := ⟨g, i, none⟩) hg u
def overE (h : Hi) (pos neg : List Sp) : Int := if checkR h = 0 then (if spCheck pos = 0 then spCheck neg else spCheck pos) else checkR h
def overR (h : Hi) (pos neg : List Sp) : Hi × Int := if overE h pos neg ≠ 0 then (emptyH, overE h pos neg)
  else if (spreadRes (openR h).1 pos).2 && (spreadRes (openR h).2.1 neg).2 then (⟨h.f0, h.f1, h.f2, h.f3, h.f4, pos, neg, (spreadRes (openR h).1 pos).1, (spreadRes (openR h).2.1 neg).1⟩, 0) else (emptyH, 23)
set_option maxHeartbeats 16000000 in
set_option maxRecDepth 100000 in
theorem over_c (h : Hi) (hw : wfH h) (pos neg : List Sp) (hwp : wfSps pos) (hwn : wfSps neg) (w : World) (v vp vn : Value) (hv : HI w v h) (hvp : SI kSp w vp pos) (hvn : SI kSp w vn neg) : Calls Try.prog 83 #[v, vp, vn] w fun e w' =>
    ∃ v', e = .returned (.tuple #[v', .int .i64 (overR h pos neg).2]) ∧ HF w.heap.size w' v' (overR h pos neg).1 ∧ Below w.heap.size w w' := by
  have hu := Try.underlying64
  obtain ⟨A5, c5, A6, c6, A7, c7, A8, c8, e, -⟩ := hv.open_
  subst e
  have hvp' := hvp
  have hvn' := hvn
  obtain ⟨a1, g1, e1, -⟩ := hvp'
  obtain ⟨a2, g2, e2, -⟩ := hvn'
  subst e1; subst e2
  have HV := Aside0.mk hv
  have SP := Aside0.mk (And.intro hvp hvn)
  have ho := open_f h hw
  have hrow := openR_row hw
  have HK1 := Aside0.mk (fun w2 (hb : Below w.heap.size w w2) => spanCheck_c pos hwp w2 _ (hvp.below hb))
  have HK2 := Aside0.mk (fun w2 (hb : Below w.heap.size w w2) => spanCheck_c neg hwn w2 _ (hvn.below hb))
  have HE := Aside0.mk (show overE h pos neg = if (openR h).2.2 = 0 then (if spCheck pos = 0 then spCheck neg else spCheck pos) else (openR h).2.2 from rfl)
  have hs1 := fun hk => spread_c (openR h).1 pos hwp hk hrow.1
  have hs2 := fun hk => spread_c (openR h).2.1 neg hwn hk hrow.2
  have hc1 := fun (hk : spCheck pos = 0) => cloneSp_c pos (by have := (spCheck_zero hk).1; omega)
  have hc2 := fun (hk : spCheck neg = 0) => cloneSp_c neg (by have := (spCheck_zero hk).1; omega)
  clear hv hvp hvn hw hwp hwn hrow
  obtain ⟨⟨rh, re⟩, hr⟩ : ∃ r, r = overR h pos neg := ⟨_, rfl⟩
  rw [← hr]
  unfold overR at hr
  generalize spreadRes (openR h).1 pos = ru at *
  generalize spreadRes (openR h).2.1 neg = rn at *
  generalize overE h pos neg = eo at *
  generalize openR h = o at *
  obtain ⟨p, n, e0⟩ := o
  obtain ⟨du, up⟩ := ru
  obtain ⟨dn, down⟩ := rn
  simp only at ho HE hs1 hs2 hr ⊢
  have HR := Aside0.mk hr
  clear hr
  generalize spCheck pos = ep at *
  generalize spCheck neg = en at *
  have HO := Aside0.mk ho
  have HS1' := Aside0.mk hs1
  have HS2' := Aside0.mk hs2
  have HC1' := Aside0.mk hc1
  have HC2' := Aside0.mk hc2
  clear ho hs1 hs2 hc1 hc2
  obtain ⟨es, hes⟩ : ∃ es : Nat → Int, es = fun i => if i = 0 then e0 else if i = 1 then (if e0 = 0 then ep else e0) else eo := ⟨_, rfl⟩
  have HES := Aside0.mk hes
  clear hes
  go_enter Try.func83, Try.ntmps83
  go_wp2_with (first | (go_at_call 146; (with_reducible refine (HO.out _ _ (HV.out.below (below_alloc (below_alloc (Below.refl _ _) _) _))).mono ?_); rintro e w1 ⟨v0, v1, rfl, h0, h1, hb⟩; have HFO := Aside0.mk (And.intro (show FI kPr (w.heap.size + 1 + 1) w1 v0 p by simpa using h0) (show FI kPr (w.heap.size + 1 + 1) w1 v1 n by simpa using h1)); have HB1 := Aside0.mk (below_then (below_alloc (below_alloc (Below.refl w.heap.size w) (.cells #[.int .i64 h.f0, .int .u64 h.f1, .int .u64 h.f2, .int .u64 h.f3, .int .u64 h.f4, .slice A5 h.f5.length c5, .slice A6 h.f6.length c6, .slice A7 h.f7.length c7, .slice A8 h.f8.length c8] 64)) (.cells #[.int .i64 0, .int .u64 0, .int .u64 0, .int .u64 0, .int .u64 0, .slice none 0 0, .slice none 0 0, .slice none 0 0, .slice none 0 0] 64)) (by simp; omega) hb); have HX1 := Aside0.mk (blk_below (blk_alloc (blk_new w (.cells #[.int .i64 h.f0, .int .u64 h.f1, .int .u64 h.f2, .int .u64 h.f3, .int .u64 h.f4, .slice A5 h.f5.length c5, .slice A6 h.f6.length c6, .slice A7 h.f7.length c7, .slice A8 h.f8.length c8] 64)) (.cells #[.int .i64 0, .int .u64 0, .int .u64 0, .int .u64 0, .int .u64 0, .slice none 0 0, .slice none 0 0, .slice none 0 0, .slice none 0 0] 64)) hb); have HY1 := Aside0.mk (show w1.heap[w.heap.size + 1]? = some (.cells #[.int .i64 0, .int .u64 0, .int .u64 0, .int .u64 0, .int .u64 0, .slice none 0 0, .slice none 0 0, .slice none 0 0, .slice none 0 0] 64 (0, 0)) from (blk_below (show ((w.alloc (.cells #[.int .i64 h.f0, .int .u64 h.f1, .int .u64 h.f2, .int .u64 h.f3, .int .u64 h.f4, .slice A5 h.f5.length c5, .slice A6 h.f6.length c6, .slice A7 h.f7.length c7, .slice A8 h.f8.length c8] 64)).alloc (.cells #[.int .i64 0, .int .u64 0, .int .u64 0, .int .u64 0, .int .u64 0, .slice none 0 0, .slice none 0 0, .slice none 0 0, .slice none 0 0] 64)).heap[w.heap.size + 1]? = _ by simpa using blk_new (w.alloc (.cells #[.int .i64 h.f0, .int .u64 h.f1, .int .u64 h.f2, .int .u64 h.f3, .int .u64 h.f4, .slice A5 h.f5.length c5, .slice A6 h.f6.length c6, .slice A7 h.f7.length c7, .slice A8 h.f8.length c8] 64)) (.cells #[.int .i64 0, .int .u64 0, .int .u64 0, .int .u64 0, .int .u64 0, .slice none 0 0, .slice none 0 0, .slice none 0 0, .slice none 0 0] 64)) hb)); clear h0 h1 hb))
  go_loopg [10, 25] 2 (fun gg v10 v25 wr => ∃ i : Nat, v10 = .int .i64 (es i) ∧ v25 = .int .i64 (i : Int) ∧ Aside0 (i + gg = 2) ∧ Aside0 (Below (w1.alloc (.cells #[.slice a1 pos.length g1, .slice a2 neg.length g2] 27)).heap.size (w1.alloc (.cells #[.slice a1 pos.length g1, .slice a2 neg.length g2] 27)) wr))
  case atStart => exact ⟨0, by rw [HES.out]; rfl, rfl, ⟨rfl⟩, ⟨Below.refl _ _⟩⟩
  case round =>
    obtain ⟨i, rfl, rfl, HI, HB⟩ := hrel
    have HXR := Aside0.mk (blk_below (blk_alloc HX1.out (.cells #[.slice a1 pos.length g1, .slice a2 neg.length g2] 27)) HB.out)
    have HYR := Aside0.mk (blk_below (blk_alloc HY1.out (.cells #[.slice a1 pos.length g1, .slice a2 neg.length g2] 27)) HB.out)
    by_cases hlt : i < 2
    · have hca := fun j => blk_cell (blk_below (blk_new w1 (.cells #[.slice a1 pos.length g1, .slice a2 neg.length g2] 27)) HB.out) j
      obtain ⟨ko, rfl⟩ : ∃ ko, gk = ko + 1 := ⟨gk - 1, by have := HI.out; omega⟩
      by_cases h0 : i = 0
      · subst h0
        rw [show es 0 = e0 from by rw [HES.out]; rfl]
        by_cases he : e0 = 0
        · subst he
          clear hlt
          go_wp2_with (first | (go_at_call 130; (with_reducible refine (HK1.out _ (HB.out.trans_ (HB1.out.alloc_ _))).mono ?_); rintro e w2 ⟨rfl, hb⟩; have HB2 := Aside0.mk (below_then HB.out HB.out.size hb); clear hb))
          go_roundg ko
          case measure => omega
          case rel => exact ⟨1, by rw [HES.out]; rfl, by go_num, ⟨by have := HI.out; omega⟩, HB2⟩
        · have he1 : (e0 == 0) = false := beq_eq_false_iff_ne.2 he
          have HN := Aside0.mk he
          clear hlt he
          go_wp2
          go_roundg ko
          case measure => omega
          case rel => exact ⟨1, by rw [HES.out]; simp [HN.out], by go_num, ⟨by have := HI.out; omega⟩, HB⟩
      · obtain rfl : i = 1 := by omega
        generalize hm1 : es 1 = m1
        have HM1 := Aside0.mk (show m1 = if e0 = 0 then ep else e0 by rw [← hm1, HES.out]; rfl)
        have HE2 := Aside0.mk (show es 2 = if m1 = 0 then en else m1 by
          rw [show es 2 = eo from by rw [HES.out]; rfl, HE.out, HM1.out]
          by_cases c : e0 = 0
          · simp only [if_pos c]
          · simp only [if_neg c])
        clear hm1
        by_cases he : m1 = 0
        · subst he
          clear hlt h0
          go_wp2_with (first | (go_at_call 130; (with_reducible refine (HK2.out _ (HB.out.trans_ (HB1.out.alloc_ _))).mono ?_); rintro e w2 ⟨rfl, hb⟩; have HB2 := Aside0.mk (below_then HB.out HB.out.size hb); clear hb))
          go_roundg ko
          case measure => omega
          case rel => exact ⟨2, by rw [HE2.out]; rfl, by go_num, ⟨by have := HI.out; omega⟩, HB2⟩
        · have he1 : (m1 == 0) = false := beq_eq_false_iff_ne.2 he
          have HN := Aside0.mk he
          clear hlt he h0
          go_wp2
          go_roundg ko
          case measure => omega
          case rel => exact ⟨2, by rw [HE2.out, if_neg HN.out], by go_num, ⟨by have := HI.out; omega⟩, HB⟩
    · obtain rfl : i = 2 := by have := HI.out; omega
      rw [show es 2 = eo from by rw [HES.out]; rfl]
      have HSZ0 := blk_lt HYR.out
      have hfx := fun i => blk_cell HXR.out i; have hzx := fun i => blk_frozen HXR.out i; have hfy := fun i => blk_cell HYR.out i; have hzy := fun i => blk_frozen HYR.out i
      clear hlt
      by_cases he : eo = 0
      rotate_left
      · have he1 : (eo != 0) = true := bne_iff_ne.2 he
        have hr := HR.out
        rw [if_pos he] at hr
        injection hr with h1 h2
        subst h1; subst h2
        clear he
        go_wp2
        refine bodyPost_ret (results_ct rfl _ _ (w.heap.size + 1) 64 #[.int .i64 0, .int .u64 0, .int .u64 0, .int .u64 0, .int .u64 0, .slice none 0 0, .slice none 0 0, .slice none 0 0, .slice none 0 0] (0, 0) _ rfl (nine (HYR.out) _ _ _ _ _ _ _ _ _) Try.underlying64 rfl (by kernel_rfl)) rfl ?_
        exact ⟨_, rfl, HF.empty _ _, nine_below (HB.out.trans_ (HB1.out.alloc_ _)) (by omega) _ _ _ _ _ _ _ _ _⟩
      subst he
      have hr := HR.out
      rw [if_neg (by simp)] at hr
      have HZ := Aside0.mk (show e0 = 0 ∧ ep = 0 ∧ en = 0 by
        have := HE.out
        by_cases c : e0 = 0
        · rw [if_pos c] at this
          by_cases d : ep = 0
          · rw [if_pos d] at this; exact ⟨c, d, this.symm⟩
          · rw [if_neg d] at this; exact absurd this.symm d
        · rw [if_neg c] at this; exact absurd this.symm c)
      have HS1 := Aside0.mk (HS1'.out HZ.out.2.1)
      have HS2 := Aside0.mk (HS2'.out HZ.out.2.2)
      have HC1 := Aside0.mk (HC1'.out HZ.out.2.1)
      have HC2 := Aside0.mk (HC2'.out HZ.out.2.2)
      clear HZ
      cases up with
      | false =>
        simp only [Bool.false_and, Bool.false_eq_true, if_false] at hr
        injection hr with h1 h2
        subst h1; subst h2
        go_wp2_with (first | (go_at_call 151; (with_reducible refine (HS1.out _ v0 a1 g1 (HFO.out.1.at_ ((KA.below (below_alloc (Below.refl _ _) _)).trans (KA.below HB.out))) (SP.out.1.below (HB.out.trans_ (HB1.out.alloc_ _)))).mono ?_); rintro e w3 ⟨q0, rfl, h0, hb⟩; obtain ⟨B0, d0, rfl⟩ := h0.slice; have HSZ := Aside0.mk (show w.heap.size + 1 + 1 ≤ wr.heap.size from by have h1 := HB.out.size; simp at h1; have h2 := blk_lt HY1.out; omega); have HF3 := Aside0.mk (show FI (Kd.int .i64) (w.heap.size + 1 + 1) w3 (.slice B0 du.length d0) du from h0.lower HSZ.out); have HK3 := Aside0.mk (show KA (w.heap.size + 1 + 1) w1 w3 from ((KA.below (below_alloc (Below.refl _ _) _)).trans (KA.below HB.out)).trans (KA.below hb)); have HB3 := Aside0.mk (below_then (HB.out.trans_ (HB1.out.alloc_ _)) (HB.out.trans_ (HB1.out.alloc_ _)).size hb); have HX3 := Aside0.mk (blk_below HXR.out hb); have HY3 := Aside0.mk (blk_below HYR.out hb); clear hfx hzx hfy hzy; have hfx := fun i => blk_cell HX3.out i; have hzx := fun i => blk_frozen HX3.out i; have hfy := fun i => blk_cell HY3.out i; have hzy := fun i => blk_frozen HY3.out i; have HZ3 := Aside0.mk (show w.heap.size + 1 + 1 ≤ w3.heap.size from Nat.le_trans HSZ.out hb.size); clear h0 hb) | (go_at_call 151; (with_reducible refine (HS2.out (w3.setCell ⟨w.heap.size, 7, none⟩ (.slice B0 du.length d0)) v1 a2 g2 (HFO.out.2.at_ (HK3.out.trans (KA.set _ (by omega) _))) (SP.out.2.below (HB3.out.set1 (by omega)))).mono ?_); rintro e w4 ⟨q1, rfl, h1, hb⟩; obtain ⟨B1, d1, rfl⟩ := h1.slice; have HF4 := Aside0.mk (show FI (Kd.int .i64) (w.heap.size + 1 + 1) w4 (.slice B1 dn.length d1) dn from h1.lower (by have := HZ3.out; simp only [World.setCell, Array.size_modify]; omega)); have HK4 := Aside0.mk (show KA (w.heap.size + 1 + 1) w3 w4 from (KA.set _ (by omega) _).trans (KA.below hb)); have HB4 := Aside0.mk (below_then (HB3.out.set1 (by omega)) (HB3.out.set1 (by omega)).size hb); have HX4 := Aside0.mk (blk_below (show (w3.setCell ⟨w.heap.size, 7, none⟩ (.slice B0 du.length d0)).heap[w.heap.size]? = some (.cells #[.int .i64 h.f0, .int .u64 h.f1, .int .u64 h.f2, .int .u64 h.f3, .int .u64 h.f4, .slice A5 h.f5.length c5, .slice A6 h.f6.length c6, .slice B0 du.length d0, .slice A8 h.f8.length c8] 64 (0, 0)) from blk_put HX3.out 7 _ rfl) hb); have HY4 := Aside0.mk (blk_below (show (w3.setCell ⟨w.heap.size, 7, none⟩ (.slice B0 du.length d0)).heap[w.heap.size + 1]? = some (.cells #[.int .i64 0, .int .u64 0, .int .u64 0, .int .u64 0, .int .u64 0, .slice none 0 0, .slice none 0 0, .slice none 0 0, .slice none 0 0] 64 (0, 0)) from blk_far HY3.out (by show w.heap.size + 1 ≠ w.heap.size; omega) _) hb); clear hfx hzx hfy hzy; have hfx := fun i => blk_cell HX4.out i; have hzx := fun i => blk_frozen HX4.out i; have hfy := fun i => blk_cell HY4.out i; have hzy := fun i => blk_frozen HY4.out i; clear h1 hb))
        refine bodyPost_ret (results_ct rfl _ _ (w.heap.size + 1) 64 #[.int .i64 0, .int .u64 0, .int .u64 0, .int .u64 0, .int .u64 0, .slice none 0 0, .slice none 0 0, .slice none 0 0, .slice none 0 0] (0, 0) _ rfl (nine (blk_far HY4.out (by show w.heap.size + 1 ≠ w.heap.size; omega) _) _ _ _ _ _ _ _ _ _) Try.underlying64 rfl (by kernel_rfl)) rfl ?_
        exact ⟨_, rfl, HF.empty _ _, nine_below (HB4.out.set1 (by omega)) (by omega) _ _ _ _ _ _ _ _ _⟩
      | true =>
        cases down with
        | false =>
          simp only [Bool.and_false, Bool.false_eq_true, if_false] at hr
          injection hr with h1 h2
          subst h1; subst h2
          go_wp2_with (first | (go_at_call 151; (with_reducible refine (HS1.out _ v0 a1 g1 (HFO.out.1.at_ ((KA.below (below_alloc (Below.refl _ _) _)).trans (KA.below HB.out))) (SP.out.1.below (HB.out.trans_ (HB1.out.alloc_ _)))).mono ?_); rintro e w3 ⟨q0, rfl, h0, hb⟩; obtain ⟨B0, d0, rfl⟩ := h0.slice; have HSZ := Aside0.mk (show w.heap.size + 1 + 1 ≤ wr.heap.size from by have h1 := HB.out.size; simp at h1; have h2 := blk_lt HY1.out; omega); have HF3 := Aside0.mk (show FI (Kd.int .i64) (w.heap.size + 1 + 1) w3 (.slice B0 du.length d0) du from h0.lower HSZ.out); have HK3 := Aside0.mk (show KA (w.heap.size + 1 + 1) w1 w3 from ((KA.below (below_alloc (Below.refl _ _) _)).trans (KA.below HB.out)).trans (KA.below hb)); have HB3 := Aside0.mk (below_then (HB.out.trans_ (HB1.out.alloc_ _)) (HB.out.trans_ (HB1.out.alloc_ _)).size hb); have HX3 := Aside0.mk (blk_below HXR.out hb); have HY3 := Aside0.mk (blk_below HYR.out hb); clear hfx hzx hfy hzy; have hfx := fun i => blk_cell HX3.out i; have hzx := fun i => blk_frozen HX3.out i; have hfy := fun i => blk_cell HY3.out i; have hzy := fun i => blk_frozen HY3.out i; have HZ3 := Aside0.mk (show w.heap.size + 1 + 1 ≤ w3.heap.size from Nat.le_trans HSZ.out hb.size); clear h0 hb) | (go_at_call 151; (with_reducible refine (HS2.out (w3.setCell ⟨w.heap.size, 7, none⟩ (.slice B0 du.length d0)) v1 a2 g2 (HFO.out.2.at_ (HK3.out.trans (KA.set _ (by omega) _))) (SP.out.2.below (HB3.out.set1 (by omega)))).mono ?_); rintro e w4 ⟨q1, rfl, h1, hb⟩; obtain ⟨B1, d1, rfl⟩ := h1.slice; have HF4 := Aside0.mk (show FI (Kd.int .i64) (w.heap.size + 1 + 1) w4 (.slice B1 dn.length d1) dn from h1.lower (by have := HZ3.out; simp only [World.setCell, Array.size_modify]; omega)); have HK4 := Aside0.mk (show KA (w.heap.size + 1 + 1) w3 w4 from (KA.set _ (by omega) _).trans (KA.below hb)); have HB4 := Aside0.mk (below_then (HB3.out.set1 (by omega)) (HB3.out.set1 (by omega)).size hb); have HX4 := Aside0.mk (blk_below (show (w3.setCell ⟨w.heap.size, 7, none⟩ (.slice B0 du.length d0)).heap[w.heap.size]? = some (.cells #[.int .i64 h.f0, .int .u64 h.f1, .int .u64 h.f2, .int .u64 h.f3, .int .u64 h.f4, .slice A5 h.f5.length c5, .slice A6 h.f6.length c6, .slice B0 du.length d0, .slice A8 h.f8.length c8] 64 (0, 0)) from blk_put HX3.out 7 _ rfl) hb); have HY4 := Aside0.mk (blk_below (show (w3.setCell ⟨w.heap.size, 7, none⟩ (.slice B0 du.length d0)).heap[w.heap.size + 1]? = some (.cells #[.int .i64 0, .int .u64 0, .int .u64 0, .int .u64 0, .int .u64 0, .slice none 0 0, .slice none 0 0, .slice none 0 0, .slice none 0 0] 64 (0, 0)) from blk_far HY3.out (by show w.heap.size + 1 ≠ w.heap.size; omega) _) hb); clear hfx hzx hfy hzy; have hfx := fun i => blk_cell HX4.out i; have hzx := fun i => blk_frozen HX4.out i; have hfy := fun i => blk_cell HY4.out i; have hzy := fun i => blk_frozen HY4.out i; clear h1 hb))
          refine bodyPost_ret (results_ct rfl _ _ (w.heap.size + 1) 64 #[.int .i64 0, .int .u64 0, .int .u64 0, .int .u64 0, .int .u64 0, .slice none 0 0, .slice none 0 0, .slice none 0 0, .slice none 0 0] (0, 0) _ rfl (nine (blk_far HY4.out (by show w.heap.size + 1 ≠ w.heap.size; omega) _) _ _ _ _ _ _ _ _ _) Try.underlying64 rfl (by kernel_rfl)) rfl ?_
          exact ⟨_, rfl, HF.empty _ _, nine_below (HB4.out.set1 (by omega)) (by omega) _ _ _ _ _ _ _ _ _⟩
        | true =>
          simp only [Bool.and_true, if_true] at hr
          injection hr with h1 h2
          subst h1; subst h2
          go_wp2_with (first | (go_at_call 151; (with_reducible refine (HS1.out _ v0 a1 g1 (HFO.out.1.at_ ((KA.below (below_alloc (Below.refl _ _) _)).trans (KA.below HB.out))) (SP.out.1.below (HB.out.trans_ (HB1.out.alloc_ _)))).mono ?_); rintro e w3 ⟨q0, rfl, h0, hb⟩; obtain ⟨B0, d0, rfl⟩ := h0.slice; have HSZ := Aside0.mk (show w.heap.size + 1 + 1 ≤ wr.heap.size from by have h1 := HB.out.size; simp at h1; have h2 := blk_lt HY1.out; omega); have HF3 := Aside0.mk (show FI (Kd.int .i64) (w.heap.size + 1 + 1) w3 (.slice B0 du.length d0) du from h0.lower HSZ.out); have HK3 := Aside0.mk (show KA (w.heap.size + 1 + 1) w1 w3 from ((KA.below (below_alloc (Below.refl _ _) _)).trans (KA.below HB.out)).trans (KA.below hb)); have HB3 := Aside0.mk (below_then (HB.out.trans_ (HB1.out.alloc_ _)) (HB.out.trans_ (HB1.out.alloc_ _)).size hb); have HX3 := Aside0.mk (blk_below HXR.out hb); have HY3 := Aside0.mk (blk_below HYR.out hb); clear hfx hzx hfy hzy; have hfx := fun i => blk_cell HX3.out i; have hzx := fun i => blk_frozen HX3.out i; have hfy := fun i => blk_cell HY3.out i; have hzy := fun i => blk_frozen HY3.out i; have HZ3 := Aside0.mk (show w.heap.size + 1 + 1 ≤ w3.heap.size from Nat.le_trans HSZ.out hb.size); clear h0 hb) | (go_at_call 151; (with_reducible refine (HS2.out (w3.setCell ⟨w.heap.size, 7, none⟩ (.slice B0 du.length d0)) v1 a2 g2 (HFO.out.2.at_ (HK3.out.trans (KA.set _ (by omega) _))) (SP.out.2.below (HB3.out.set1 (by omega)))).mono ?_); rintro e w4 ⟨q1, rfl, h1, hb⟩; obtain ⟨B1, d1, rfl⟩ := h1.slice; have HF4 := Aside0.mk (show FI (Kd.int .i64) (w.heap.size + 1 + 1) w4 (.slice B1 dn.length d1) dn from h1.lower (by have := HZ3.out; simp only [World.setCell, Array.size_modify]; omega)); have HK4 := Aside0.mk (show KA (w.heap.size + 1 + 1) w3 w4 from (KA.set _ (by omega) _).trans (KA.below hb)); have HB4 := Aside0.mk (below_then (HB3.out.set1 (by omega)) (HB3.out.set1 (by omega)).size hb); have HX4 := Aside0.mk (blk_below (show (w3.setCell ⟨w.heap.size, 7, none⟩ (.slice B0 du.length d0)).heap[w.heap.size]? = some (.cells #[.int .i64 h.f0, .int .u64 h.f1, .int .u64 h.f2, .int .u64 h.f3, .int .u64 h.f4, .slice A5 h.f5.length c5, .slice A6 h.f6.length c6, .slice B0 du.length d0, .slice A8 h.f8.length c8] 64 (0, 0)) from blk_put HX3.out 7 _ rfl) hb); have HY4 := Aside0.mk (blk_below (show (w3.setCell ⟨w.heap.size, 7, none⟩ (.slice B0 du.length d0)).heap[w.heap.size + 1]? = some (.cells #[.int .i64 0, .int .u64 0, .int .u64 0, .int .u64 0, .int .u64 0, .slice none 0 0, .slice none 0 0, .slice none 0 0, .slice none 0 0] 64 (0, 0)) from blk_far HY3.out (by show w.heap.size + 1 ≠ w.heap.size; omega) _) hb); clear hfx hzx hfy hzy; have hfx := fun i => blk_cell HX4.out i; have hzx := fun i => blk_frozen HX4.out i; have hfy := fun i => blk_cell HY4.out i; have hzy := fun i => blk_frozen HY4.out i; clear h1 hb) | (go_at_call 147; (with_reducible refine (HC1.out (w4.setCell ⟨w.heap.size, 8, none⟩ (.slice B1 dn.length d1)) a1 g1 (SP.out.1.below (HB4.out.set1 (by omega)))).mono ?_); rintro e w5 ⟨q2, rfl, h2, hb⟩; obtain ⟨B2, d2, rfl⟩ := h2.slice; have HF5 := Aside0.mk (show FI kSp (w.heap.size + 1 + 1) w5 (.slice B2 pos.length d2) pos from h2.lower (by have := HZ3.out; have := HK4.out.1; simp only [World.setCell, Array.size_modify]; omega)); have HK5 := Aside0.mk (show KA (w.heap.size + 1 + 1) w4 w5 from (KA.set _ (by omega) _).trans (KA.below hb)); have HB5 := Aside0.mk (below_then (HB4.out.set1 (by omega)) (HB4.out.set1 (by omega)).size hb); have HX5 := Aside0.mk (blk_below (show (w4.setCell ⟨w.heap.size, 8, none⟩ (.slice B1 dn.length d1)).heap[w.heap.size]? = some (.cells #[.int .i64 h.f0, .int .u64 h.f1, .int .u64 h.f2, .int .u64 h.f3, .int .u64 h.f4, .slice A5 h.f5.length c5, .slice A6 h.f6.length c6, .slice B0 du.length d0, .slice B1 dn.length d1] 64 (0, 0)) from blk_put HX4.out 8 _ rfl) hb); have HY5 := Aside0.mk (blk_below (show (w4.setCell ⟨w.heap.size, 8, none⟩ (.slice B1 dn.length d1)).heap[w.heap.size + 1]? = some (.cells #[.int .i64 0, .int .u64 0, .int .u64 0, .int .u64 0, .int .u64 0, .slice none 0 0, .slice none 0 0, .slice none 0 0, .slice none 0 0] 64 (0, 0)) from blk_far HY4.out (by show w.heap.size + 1 ≠ w.heap.size; omega) _) hb); clear hfx hzx hfy hzy; have hfx := fun i => blk_cell HX5.out i; have hzx := fun i => blk_frozen HX5.out i; have hfy := fun i => blk_cell HY5.out i; have hzy := fun i => blk_frozen HY5.out i; clear h2 hb) | (go_at_call 147; (with_reducible refine (HC2.out w5 a2 g2 (SP.out.2.below HB5.out)).mono ?_); rintro e w6 ⟨q3, rfl, h3, hb⟩; obtain ⟨B3, d3, rfl⟩ := h3.slice; have HF6 := Aside0.mk (show FI kSp (w.heap.size + 1 + 1) w6 (.slice B3 neg.length d3) neg from h3.lower (by have := HZ3.out; have := HK4.out.1; have := HK5.out.1; omega)); have HK6 := Aside0.mk (show KA (w.heap.size + 1 + 1) w5 w6 from KA.below hb); have HB6 := Aside0.mk (below_then HB5.out HB5.out.size hb); have HX6 := Aside0.mk (blk_below HX5.out hb); have HY6 := Aside0.mk (blk_below HY5.out hb); clear hfx hzx hfy hzy; have hfx := fun i => blk_cell HX6.out i; have hzx := fun i => blk_frozen HX6.out i; have hfy := fun i => blk_cell HY6.out i; have hzy := fun i => blk_frozen HY6.out i; clear h3 hb))
          refine bodyPost_ret (results_ct rfl _ _ (w.heap.size + 1) 64 #[.int .i64 h.f0, .int .u64 h.f1, .int .u64 h.f2, .int .u64 h.f3, .int .u64 h.f4, .slice B2 pos.length d2, .slice B3 neg.length d3, .slice B0 du.length d0, .slice B1 dn.length d1] (0, 0) _ rfl (nine (blk_far (blk_far HY6.out (by show w.heap.size + 1 ≠ w.heap.size; omega) _) (by show w.heap.size + 1 ≠ w.heap.size; omega) _) _ _ _ _ _ _ _ _ _) Try.underlying64 rfl (by kernel_rfl)) rfl ?_
          exact ⟨_, rfl, HF.mk (h := ⟨h.f0, h.f1, h.f2, h.f3, h.f4, pos, neg, du, dn⟩) ((HF5.out.step (HK6.out.trans (nine_ka ((KA.set _ (by omega) _).trans (KA.set _ (by omega) _)) (by omega) _ _ _ _ _ _ _ _ _))).lower (by omega)) ((HF6.out.step (nine_ka ((KA.set _ (by omega) _).trans (KA.set _ (by omega) _)) (by omega) _ _ _ _ _ _ _ _ _)).lower (by omega)) ((HF3.out.step (HK4.out.trans (HK5.out.trans (HK6.out.trans (nine_ka ((KA.set _ (by omega) _).trans (KA.set _ (by omega) _)) (by omega) _ _ _ _ _ _ _ _ _))))).lower (by omega)) ((HF4.out.step (HK5.out.trans (HK6.out.trans (nine_ka ((KA.set _ (by omega) _).trans (KA.set _ (by omega) _)) (by omega) _ _ _ _ _ _ _ _ _)))).lower (by omega)), nine_below ((HB6.out.set1 (by omega)).set1 (by omega)) (by omega) _ _ _ _ _ _ _ _ _⟩
end Go.Proofs.Ytacgeafjilipdaa.P
namespace Go.Proofs.Ytacgeafjilipdaa.P
open Go.RowKit Go.Shelf Go.Proofs.YtacgeafjilipdaaW.PrintWords Go.Proofs.YtacgeafjilipdaaW.PrintLast Go.Proofs.YtacgeafjilipdaaW.PrintMore
set_option linter.unusedVariables false
set_option linter.unusedSimpArgs false
def Blk (w : World) (g : Nat) (cs : Array Value) (t : TypeId) : Prop := w.heap[g]? = some (.cells cs t (0, 0))
theorem Blk.below {w w' : World} {g : Nat} {cs : Array Value} {t : TypeId} (h : Blk w g cs t) (hb : Below w.heap.size w w') : Blk w' g cs t := blk_below h hb
theorem Blk.cell {w : World} {g : Nat} {cs : Array Value} {t : TypeId} (h : Blk w g cs t) (i : Nat) : w.cell? ⟨g, i, none⟩ = cs[i]? := blk_cell h i
theorem Blk.new (w : World) (cs : Array Value) (t : TypeId) : Blk (w.alloc (.cells cs t)) w.heap.size cs t := blk_new w _
theorem Blk.alloc {w : World} {g : Nat} {cs : Array Value} {t : TypeId} (h : Blk w g cs t) (o : Obj) : Blk (w.alloc o) g cs t := blk_alloc h o
theorem Blk.at1 {w : World} (o : Obj) (cs : Array Value) (t : TypeId) : Blk ((w.alloc o).alloc (.cells cs t)) (w.heap.size + 1) cs t := by have := Blk.new (w.alloc o) cs t; simpa using this
abbrev kRsp := k147
def HR (w : World) (v : Value) (h : Hi) : Prop :=
  ∃ v5 v6 v7 v8, v = .agg #[.int .i64 h.f0, .int .u64 h.f1, .int .u64 h.f2, .int .u64 h.f3, .int .u64 h.f4, v5, v6, v7, v8] ∧ SI kRsp w v5 (h.f5.map toR) ∧ SI kRsp w v6 (h.f6.map toR) ∧ SI (Kd.int .i64) w v7 h.f7 ∧ SI (Kd.int .i64) w v8 h.f8
theorem HR.below {w w' : World} {v : Value} {h : Hi} (x : HR w v h) (hb : Below w.heap.size w w') : HR w' v h := by
  obtain ⟨v5, v6, v7, v8, e, h5, h6, h7, h8⟩ := x
  exact ⟨v5, v6, v7, v8, e, h5.below hb, h6.below hb, h7.below hb, h8.below hb⟩
theorem HR.open_ {w : World} {v : Value} {h : Hi} (x : HR w v h) : ∃ A5 c5 A6 c6 A7 c7 A8 c8, v = .agg #[.int .i64 h.f0, .int .u64 h.f1, .int .u64 h.f2, .int .u64 h.f3, .int .u64 h.f4, .slice A5 h.f5.length c5, .slice A6 h.f6.length c6, .slice A7 h.f7.length c7, .slice A8 h.f8.length c8] ∧
    SI kRsp w (.slice A5 h.f5.length c5) (h.f5.map toR) ∧ SI kRsp w (.slice A6 h.f6.length c6) (h.f6.map toR) ∧ SI (Kd.int .i64) w (.slice A7 h.f7.length c7) h.f7 ∧ SI (Kd.int .i64) w (.slice A8 h.f8.length c8) h.f8 := by
  obtain ⟨v5, v6, v7, v8, rfl, h5, h6, h7, h8⟩ := x
  obtain ⟨A5, c5, rfl, h51, h52⟩ := h5
  obtain ⟨A6, c6, rfl, h61, h62⟩ := h6
  obtain ⟨A7, c7, rfl, h71, h72⟩ := h7
  obtain ⟨A8, c8, rfl, h81, h82⟩ := h8
  rw [List.length_map]
  rw [List.length_map]
  refine ⟨A5, c5, A6, c6, A7, c7, A8, c8, rfl, ⟨A5, c5, by rw [List.length_map], h51, h52⟩, ⟨A6, c6, by rw [List.length_map], h61, h62⟩, .of h72 h71, .of h82 h81⟩
end Go.Proofs.Ytacgeafjilipdaa.P
namespace Go.Proofs.Ytacgeafjilipdaa.P
open Go.RowKit Go.Shelf Go.Proofs.YtacgeafjilipdaaW.PrintWords Go.Proofs.YtacgeafjilipdaaW.PrintLast Go.Proofs.YtacgeafjilipdaaW.PrintMore
set_option linter.unusedVariables false
set_option linter.unusedSimpArgs false
theorem SI.V {w : World} {e : Nat} {A : Option Addr} {c : Nat} {l : List Int} (hc : l.length ≤ c) (hr : (Kd.int .i64).C w A l.length l) : Kd.V (Kd.int .i64) e w w.heap.size (fun k_ => (fun k => k < w.heap.size) k_) (.slice A l.length c) l := ⟨_, _, rfl, hc, Kd.C_F (Kd.heap_int .i64) hr⟩
theorem refHead_c (s z : Int) (w : World) : Calls Try.prog 75 #[.int .i64 s, .int .u64 z] w fun e w' => e = .returned (.int .i64 (if s < -4 ∨ s > 8 then 21 else if ¬ z < 9218868437227405312 then 11 else 0)) ∧ Below w.heap.size w w' :=
  (tidepoleref09_Head.calls 1 s z _ w (refHead_eq s z 1 (by omega))).mono fun e w1 h => ⟨h.1, h.2.below⟩
theorem refFits_c (zc ct sm : Int) (p n : List Pr) (hz : u64 zc) (hc : u64 ct) (hs : u64 sm) (hp : ∀ x ∈ p, 0 ≤ x.f1 ∧ x.f1 ≤ 9223372036854775807) (hn : ∀ x ∈ n, 0 ≤ x.f1 ∧ x.f1 ≤ 9223372036854775807) (hpm : p.length < 17592186044416) (hnm : n.length < 17592186044416) (w : World) (u v : Value) (hu : SI (Kd.int .i64) w u (p.map (·.f1))) (hv : SI (Kd.int .i64) w v (n.map (·.f1))) :
    Calls Try.prog 138 #[.int .u64 zc, .int .u64 ct, .int .u64 sm, u, v] w fun e w' => e = .returned (.int .i64 (if fits zc ct sm p n = true then 0 else 22)) ∧ Below w.heap.size w w' := by
  obtain ⟨A, c, rfl, hc1, hr⟩ := hu
  obtain ⟨D, g, rfl, hg, hs1⟩ := hv
  exact tidepoleref09_Fits.calls (p.length + n.length + 11) zc ct sm _ A c _ _ D g _ _ w (SI.V hc1 hr) (SI.V hg hs1) (refFits_eq zc ct sm p n hz hc hs hp hn hpm hnm _ (by omega))
def headE (h : Hi) : Int := if h.f0 < -4 ∨ h.f0 > 8 then 21 else if ¬ h.f1 < 9218868437227405312 then 11 else 0
theorem checkR_eq (h : Hi) : checkR h = if headE h ≠ 0 then headE h else if (sideRes h.f5 h.f7).2 ≠ 0 then (sideRes h.f5 h.f7).2 else if (sideRes h.f6 h.f8).2 ≠ 0 then (sideRes h.f6 h.f8).2 else if fits h.f2 h.f3 h.f4 (sideRes h.f5 h.f7).1 (sideRes h.f6 h.f8).1 = true then 0 else 22 := by
  unfold checkR openR openRes headE
  by_cases c1 : h.f0 < -4 ∨ h.f0 > 8
  · rw [if_pos c1, if_pos c1, if_pos (by omega)]
  rw [if_neg c1, if_neg c1]
  by_cases c2 : ¬ h.f1 < 9218868437227405312
  · rw [if_pos c2, if_pos c2, if_pos (by omega)]
  rw [if_neg c2, if_neg c2, if_neg (c := (0 : Int) ≠ 0) (by omega)]
  by_cases c3 : (sideRes h.f5 h.f7).2 ≠ 0
  · rw [if_pos c3, if_pos c3]
  rw [if_neg c3, if_neg c3]
  by_cases c4 : (sideRes h.f6 h.f8).2 ≠ 0
  · rw [if_pos c4, if_pos c4]
  rw [if_neg c4, if_neg c4]
  by_cases c5 : fits h.f2 h.f3 h.f4 (sideRes h.f5 h.f7).1 (sideRes h.f6 h.f8).1 = true
  · rw [if_pos c5, if_pos c5]
  · rw [if_neg c5, if_neg c5]
theorem openR_right {h : Hi} (hc : checkR h = 0) : openR h = ((sideRes h.f5 h.f7).1, (sideRes h.f6 h.f8).1, 0) := by
  unfold checkR openR openRes at *
  split at hc
  · cases hc
  split at hc
  · cases hc
  split at hc
  · rename_i h3; exact absurd hc h3
  split at hc
  · rename_i h3; exact absurd hc h3
  split at hc
  · rename_i h1 h2 h3 h4 h5; rw [if_neg h1, if_neg h2, if_neg h3, if_neg h4, if_pos h5]
  · cases hc
end Go.Proofs.Ytacgeafjilipdaa.P
namespace Go.Proofs.Ytacgeafjilipdaa.P
open Go.RowKit Go.Shelf Go.Proofs.YtacgeafjilipdaaW.PrintWords Go.Proofs.YtacgeafjilipdaaW.PrintLast Go.Proofs.YtacgeafjilipdaaW.PrintMore
set_option linter.unusedVariables false
set_option linter.unusedSimpArgs false
def oneH : Hi := ⟨0, 1, 1, 6, 0, [⟨3, 2⟩], [], [5, -5], []⟩
def canH : Hi := ⟨0, 1, 1, 6, 0, [⟨3, 1⟩], [], [5], []⟩
def badH : Hi := ⟨0, 1, 1, 7, 0, [⟨3, 2⟩], [], [5, -5], []⟩
def oneP : List Pr := [⟨3, 5⟩, ⟨4, 0⟩]
theorem oneH_wf : wfH oneH := by unfold wfH; decide
theorem canH_wf : wfH canH := by unfold wfH; decide
theorem badH_wf : wfH badH := by unfold wfH; decide
theorem aw09_1 : pairsR oneH 0 = (oneP, 0) := by kernel_rfl
theorem aw09_2 : canonR oneH = (canH, 0) := by kernel_rfl
theorem aw09_3 : checkR badH = 22 := by kernel_rfl
theorem aw09_4 : makeR oneH oneP [] = (oneH, 0) := by kernel_rfl
theorem aw09_5 : overR canH oneH.f5 [] = (oneH, 0) := by kernel_rfl
theorem aw09_6 : equalR oneH oneH = true := by kernel_rfl
theorem aw09_7 : equalR oneH canH = true := by kernel_rfl
theorem aw09_8 : equalR oneH badH = false := by kernel_rfl
theorem aw09_9 : hist_NaN.f 9223372036854775807 = some true := by kernel_rfl
theorem aw09_10 : hist_Threshold.f 0 = some true := by kernel_rfl
theorem oneP_wf : wfRow oneP := ⟨by unfold wfPrs oneP; decide, by decide⟩
theorem one_x (w : World) : Calls Try.prog 149 #[] w fun e w' => ∃ oA5 oc5 oA6 oc6 oA7 oc7 oA8 oc8, e = .returned (.agg #[.int .i64 0, .int .u64 1, .int .u64 1, .int .u64 6, .int .u64 0, .slice oA5 1 oc5, .slice oA6 0 oc6, .slice oA7 2 oc7, .slice oA8 0 oc8]) ∧ HI w' (.agg #[.int .i64 0, .int .u64 1, .int .u64 1, .int .u64 6, .int .u64 0, .slice oA5 1 oc5, .slice oA6 0 oc6, .slice oA7 2 oc7, .slice oA8 0 oc8]) oneH ∧ Below w.heap.size w w' := by
  refine (tidepolelaw09_one.calls 0 1 1 6 0 [⟨3, 2⟩] [] [5, -5] [] w (by kernel_rfl)).mono ?_
  rintro e w1 ⟨v5, v6, v7, v8, rfl, h5, h6, h7, h8, hb⟩
  have hi : HI w1 (.agg #[.int .i64 0, .int .u64 1, .int .u64 1, .int .u64 6, .int .u64 0, v5, v6, v7, v8]) oneH := ⟨v5, v6, v7, v8, rfl, .of_R h5, .of_R h6, .of_R h7, .of_R h8⟩
  obtain ⟨a5, c5, a6, c6, a7, c7, a8, c8, e, -⟩ := hi.open_
  rw [e] at hi ⊢
  exact ⟨a5, c5, a6, c6, a7, c7, a8, c8, rfl, hi, hb⟩
theorem pairs_x (w : World) (v : Value) (hv : HI w v oneH) : Calls Try.prog 76 #[v, .int .i64 0] w fun e w' => ∃ A c, e = .returned (.tuple #[.slice A 2 c, .int .i64 0]) ∧ SI kPr w' (.slice A 2 c) oneP ∧ Below w.heap.size w w' := by
  have := pairs_c oneH oneH_wf 0 w v hv
  rw [aw09_1] at this
  refine this.mono ?_
  rintro e w1 ⟨v0, rfl, h0, hb⟩
  have h0' := h0
  obtain ⟨A, c, rfl, -⟩ := h0'
  exact ⟨A, c, rfl, h0, hb⟩
theorem canon_x (w : World) (v : Value) (hv : HI w v oneH) : Calls Try.prog 90 #[v] w fun e w' => ∃ cA5 cc5 cA6 cc6 cA7 cc7 cA8 cc8, e = .returned (.tuple #[.agg #[.int .i64 0, .int .u64 1, .int .u64 1, .int .u64 6, .int .u64 0, .slice cA5 1 cc5, .slice cA6 0 cc6, .slice cA7 1 cc7, .slice cA8 0 cc8], .int .i64 0]) ∧ HI w' (.agg #[.int .i64 0, .int .u64 1, .int .u64 1, .int .u64 6, .int .u64 0, .slice cA5 1 cc5, .slice cA6 0 cc6, .slice cA7 1 cc7, .slice cA8 0 cc8]) canH ∧ Below w.heap.size w w' := by
  have := canon_c oneH oneH_wf w v hv
  rw [aw09_2] at this
  refine this.mono ?_
  rintro e w1 ⟨v0, rfl, h0, hb⟩
  obtain ⟨a5, c5, a6, c6, a7, c7, a8, c8, e, -⟩ := h0.now.open_
  have hi := h0.now
  subst e
  exact ⟨a5, c5, a6, c6, a7, c7, a8, c8, rfl, hi, hb⟩
theorem make_x (w : World) (v vp : Value) (hv : HI w v oneH) (hp : SI kPr w vp oneP) : Calls Try.prog 87 #[v, vp, .slice none 0 0] w fun e w' => ∃ mA5 mc5 mA6 mc6 mA7 mc7 mA8 mc8, e = .returned (.tuple #[.agg #[.int .i64 0, .int .u64 1, .int .u64 1, .int .u64 6, .int .u64 0, .slice mA5 1 mc5, .slice mA6 0 mc6, .slice mA7 2 mc7, .slice mA8 0 mc8], .int .i64 0]) ∧ HI w' (.agg #[.int .i64 0, .int .u64 1, .int .u64 1, .int .u64 6, .int .u64 0, .slice mA5 1 mc5, .slice mA6 0 mc6, .slice mA7 2 mc7, .slice mA8 0 mc8]) oneH ∧ Below w.heap.size w w' := by
  have := make_c oneH oneH_wf oneP [] oneP_wf RowOK.nil.wf w v vp _ hv hp (SI.nil _ _)
  rw [aw09_4] at this
  refine this.mono ?_
  rintro e w1 ⟨v0, rfl, h0, hb⟩
  obtain ⟨a5, c5, a6, c6, a7, c7, a8, c8, e, -⟩ := h0.now.open_
  have hi := h0.now
  subst e
  exact ⟨a5, c5, a6, c6, a7, c7, a8, c8, rfl, hi, hb⟩
theorem over_x (w : World) (v vp : Value) (hv : HI w v canH) (hp : SI kSp w vp oneH.f5) : Calls Try.prog 83 #[v, vp, .slice none 0 0] w fun e w' => ∃ rA5 rc5 rA6 rc6 rA7 rc7 rA8 rc8, e = .returned (.tuple #[.agg #[.int .i64 0, .int .u64 1, .int .u64 1, .int .u64 6, .int .u64 0, .slice rA5 1 rc5, .slice rA6 0 rc6, .slice rA7 2 rc7, .slice rA8 0 rc8], .int .i64 0]) ∧ HF w.heap.size w' (.agg #[.int .i64 0, .int .u64 1, .int .u64 1, .int .u64 6, .int .u64 0, .slice rA5 1 rc5, .slice rA6 0 rc6, .slice rA7 2 rc7, .slice rA8 0 rc8]) oneH ∧ Below w.heap.size w w' := by
  have := over_c canH canH_wf oneH.f5 [] oneH_wf.2.2.2.2.2.1 (fun s hs => by simp at hs) w v vp _ hv hp (SI.nil _ _)
  rw [aw09_5] at this
  refine this.mono ?_
  rintro e w1 ⟨v0, rfl, h0, hb⟩
  obtain ⟨a5, c5, a6, c6, a7, c7, a8, c8, e, -⟩ := h0.now.open_
  subst e
  exact ⟨a5, c5, a6, c6, a7, c7, a8, c8, rfl, h0, hb⟩
theorem equal_x (a b : Hi) (ha : wfH a) (hb : wfH b) (r : Bool) (he : equalR a b = r) (w : World) (u v : Value) (hu : HI w u a) (hv : HI w v b) : Calls Try.prog 80 #[u, v] w fun e w' => e = .returned (.bool r) ∧ Below w.heap.size w w' := he ▸ equal_c a b ha hb w u v hu hv
theorem check_x (a : Hi) (ha : wfH a) (r : Int) (he : checkR a = r) (w : World) (u : Value) (hu : HI w u a) : Calls Try.prog 67 #[u] w fun e w' => e = .returned (.int .i64 r) ∧ Below w.heap.size w w' := he ▸ check_c a ha w u hu
theorem HI.spans {w : World} {h : Hi} {A5 A6 A7 A8 : Option Addr} {n5 n6 n7 n8 c5 c6 c7 c8 : Nat} {x0 x1 x2 x3 x4 : Value} (hv : HI w (.agg #[x0, x1, x2, x3, x4, .slice A5 n5 c5, .slice A6 n6 c6, .slice A7 n7 c7, .slice A8 n8 c8]) h) : SI kSp w (.slice A5 n5 c5) h.f5 := by
  obtain ⟨v5, v6, v7, v8, e, h5, -⟩ := hv
  injection e with e
  have e5 := congrArg (fun a : Array Value => a.getD 5 undef) e
  simp at e5
  rw [e5]; exact h5
theorem HI.bad {w : World} {A5 A6 A7 A8 : Option Addr} {n5 n6 n7 n8 c5 c6 c7 c8 : Nat} (hv : HI w (.agg #[.int .i64 0, .int .u64 1, .int .u64 1, .int .u64 6, .int .u64 0, .slice A5 n5 c5, .slice A6 n6 c6, .slice A7 n7 c7, .slice A8 n8 c8]) oneH) : HI w (.agg #[.int .i64 0, .int .u64 1, .int .u64 1, .int .u64 7, .int .u64 0, .slice A5 n5 c5, .slice A6 n6 c6, .slice A7 n7 c7, .slice A8 n8 c8]) badH := by
  obtain ⟨v5, v6, v7, v8, e, h5, h6, h7, h8⟩ := hv
  injection e with e
  have e5 := congrArg (fun a : Array Value => a.getD 5 undef) e
  have e6 := congrArg (fun a : Array Value => a.getD 6 undef) e
  have e7 := congrArg (fun a : Array Value => a.getD 7 undef) e
  have e8 := congrArg (fun a : Array Value => a.getD 8 undef) e
  simp at e5 e6 e7 e8
  subst e5; subst e6; subst e7; subst e8
  exact ⟨_, _, _, _, rfl, h5, h6, h7, h8⟩
theorem field5_x (a5 a6 a7 a8 : Option Addr) (n5 c5 n6 c6 n7 c7 n8 c8 : Nat) (x0 x1 x2 x3 x4 : Int) (W : World) : (Instr.field 64 (.agg #[.int .i64 x0, .int .u64 x1, .int .u64 x2, .int .u64 x3, .int .u64 x4, .slice a5 n5 c5, .slice a6 n6 c6, .slice a7 n7 c7, .slice a8 n8 c8]) 5).run Try.prog W = .ok (.slice a5 n5 c5) W := by
  kernel_rfl
set_option maxHeartbeats 16000000 in
set_option maxRecDepth 100000 in
theorem awake09_c (w : World) : Calls Try.prog 70 #[] w fun e w' => e = .returned (.bool true) ∧ Below w.heap.size w w' := by
  have hu := Try.underlying64
  have hpu := Try.underlying26
  have hfd := field5_x
  go_enter Try.func70, Try.ntmps70
  go_wp2_with fail
  refine (one_x w).mono ?_
  rintro e w1 ⟨oA5, oc5, oA6, oc6, oA7, oc7, oA8, oc8, rfl, hh, hb⟩
  have B := Aside0.mk hb
  have O := Aside0.mk hh
  clear hb hh
  go_wp2_with fail
  refine (pairs_x _ _ O.out).mono ?_
  rintro e w2 ⟨pA, pc, rfl, hh, hb⟩
  replace B := Aside0.mk (below_then B.out B.out.size hb)
  replace O := Aside0.mk (O.out.below hb)
  have P := Aside0.mk hh
  clear hb hh
  go_wp2_with fail
  refine (one_x _).mono ?_
  rintro e w3 ⟨qA5, qc5, qA6, qc6, qA7, qc7, qA8, qc8, rfl, hh, hb⟩
  replace B := Aside0.mk (below_then B.out B.out.size hb)
  replace O := Aside0.mk (O.out.below hb)
  replace P := Aside0.mk (P.out.below hb)
  have Q := Aside0.mk hh
  clear hb hh
  go_wp2_with fail
  refine (canon_x _ _ Q.out).mono ?_
  rintro e w4 ⟨cA5, cc5, cA6, cc6, cA7, cc7, cA8, cc8, rfl, hh, hb⟩
  replace B := Aside0.mk (below_then B.out B.out.size hb)
  replace O := Aside0.mk (O.out.below hb)
  replace P := Aside0.mk (P.out.below hb)
  replace Q := Aside0.mk (Q.out.below hb)
  have C := Aside0.mk hh
  clear hb hh
  go_wp2_with fail
  refine (one_x _).mono ?_
  rintro e W5 ⟨bA5, bc5, bA6, bc6, bA7, bc7, bA8, bc8, rfl, hh, hb⟩
  have hb0 := hb
  have hb := below_then (below_alloc (Below.refl w4.heap.size w4) (.cells #[.int .i64 0, .int .u64 1, .int .u64 1, .int .u64 6, .int .u64 0, .slice cA5 1 cc5, .slice cA6 0 cc6, .slice cA7 1 cc7, .slice cA8 0 cc8] 64)) ((below_alloc (Below.refl w4.heap.size w4) (.cells #[.int .i64 0, .int .u64 1, .int .u64 1, .int .u64 6, .int .u64 0, .slice cA5 1 cc5, .slice cA6 0 cc6, .slice cA7 1 cc7, .slice cA8 0 cc8] 64))).size hb
  replace B := Aside0.mk (below_then B.out B.out.size hb)
  replace O := Aside0.mk (O.out.below hb)
  replace P := Aside0.mk (P.out.below hb)
  replace Q := Aside0.mk (Q.out.below hb)
  replace C := Aside0.mk (C.out.below hb)
  have T3 := Aside0.mk (show Blk W5 w4.heap.size #[.int .i64 0, .int .u64 1, .int .u64 1, .int .u64 6, .int .u64 0, .slice cA5 1 cc5, .slice cA6 0 cc6, .slice cA7 1 cc7, .slice cA8 0 cc8] 64 from (Blk.new w4 #[.int .i64 0, .int .u64 1, .int .u64 1, .int .u64 6, .int .u64 0, .slice cA5 1 cc5, .slice cA6 0 cc6, .slice cA7 1 cc7, .slice cA8 0 cc8] 64).below hb0)
  have ht3 := fun i => T3.out.cell i
  have D := Aside0.mk hh
  clear hb hb0 hh
  have hbw := below_alloc (Below.refl W5.heap.size W5) (.cells #[.int .i64 0, .int .u64 1, .int .u64 1, .int .u64 7, .int .u64 0, .slice bA5 1 bc5, .slice bA6 0 bc6, .slice bA7 2 bc7, .slice bA8 0 bc8] 64)
  have hP := P.out.below hbw
  obtain ⟨_, _, eP, _, hPC⟩ := hP
  cases eP
  obtain ⟨ad, e1, hx0, hx1⟩ := at_T26 hPC 0 (by decide) (by decide)
  obtain ⟨ad', e1', hy0, hy1⟩ := at_T26 hPC 1 (by decide) (by decide)
  subst e1
  cases e1'
  have hx1' : (W5.alloc (.cells #[.int .i64 0, .int .u64 1, .int .u64 1, .int .u64 7, .int .u64 0, .slice bA5 1 bc5, .slice bA6 0 bc6, .slice bA7 2 bc7, .slice bA8 0 bc8] 64)).cell? ⟨ad.block, ad.off + 1, none⟩ = some (.int .i64 5) := hx1
  have hy0' : (W5.alloc (.cells #[.int .i64 0, .int .u64 1, .int .u64 1, .int .u64 7, .int .u64 0, .slice bA5 1 bc5, .slice bA6 0 bc6, .slice bA7 2 bc7, .slice bA8 0 bc8] 64)).cell? ⟨ad.block, ad.off + 2, none⟩ = some (.int .i64 4) := hy0
  clear hx0 hx1 hy0 hy1 hPC hbw
  replace ht3 := fun i => (T3.out.alloc (.cells #[.int .i64 0, .int .u64 1, .int .u64 1, .int .u64 7, .int .u64 0, .slice bA5 1 bc5, .slice bA6 0 bc6, .slice bA7 2 bc7, .slice bA8 0 bc8] 64)).cell i
  go_wp2_with fail
  refine (check_x badH badH_wf 22 aw09_3 _ _ (D.out.bad.below (below_alloc (Below.refl W5.heap.size W5) (.cells #[.int .i64 0, .int .u64 1, .int .u64 1, .int .u64 7, .int .u64 0, .slice bA5 1 bc5, .slice bA6 0 bc6, .slice bA7 2 bc7, .slice bA8 0 bc8] 64)))).mono ?_
  rintro e W6 ⟨rfl, hb⟩
  have hb0 := hb
  have hb := below_then (below_alloc (Below.refl W5.heap.size W5) (.cells #[.int .i64 0, .int .u64 1, .int .u64 1, .int .u64 7, .int .u64 0, .slice bA5 1 bc5, .slice bA6 0 bc6, .slice bA7 2 bc7, .slice bA8 0 bc8] 64)) ((below_alloc (Below.refl W5.heap.size W5) (.cells #[.int .i64 0, .int .u64 1, .int .u64 1, .int .u64 7, .int .u64 0, .slice bA5 1 bc5, .slice bA6 0 bc6, .slice bA7 2 bc7, .slice bA8 0 bc8] 64))).size hb
  replace B := Aside0.mk (below_then B.out B.out.size hb)
  replace O := Aside0.mk (O.out.below hb)
  replace P := Aside0.mk (P.out.below hb)
  replace Q := Aside0.mk (Q.out.below hb)
  replace C := Aside0.mk (C.out.below hb)
  replace D := Aside0.mk (D.out.below hb)
  replace T3 := Aside0.mk (T3.out.below hb)
  replace ht3 := fun i => T3.out.cell i
  have T5 := Aside0.mk (show Blk W6 W5.heap.size #[.int .i64 0, .int .u64 1, .int .u64 1, .int .u64 7, .int .u64 0, .slice bA5 1 bc5, .slice bA6 0 bc6, .slice bA7 2 bc7, .slice bA8 0 bc8] 64 from (Blk.new W5 #[.int .i64 0, .int .u64 1, .int .u64 1, .int .u64 7, .int .u64 0, .slice bA5 1 bc5, .slice bA6 0 bc6, .slice bA7 2 bc7, .slice bA8 0 bc8] 64).below hb0)
  have ht5 := fun i => T5.out.cell i
  have Bd := Aside0.mk (D.out.bad)
  clear hb hb0
  go_wp2_with fail
  refine (one_x _).mono ?_
  rintro e W7 ⟨eA5, ec5, eA6, ec6, eA7, ec7, eA8, ec8, rfl, hh, hb⟩
  replace B := Aside0.mk (below_then B.out B.out.size hb)
  replace O := Aside0.mk (O.out.below hb)
  replace P := Aside0.mk (P.out.below hb)
  replace Q := Aside0.mk (Q.out.below hb)
  replace C := Aside0.mk (C.out.below hb)
  replace D := Aside0.mk (D.out.below hb)
  replace Bd := Aside0.mk (Bd.out.below hb)
  replace T3 := Aside0.mk (T3.out.below hb)
  replace ht3 := fun i => T3.out.cell i
  replace T5 := Aside0.mk (T5.out.below hb)
  replace ht5 := fun i => T5.out.cell i
  have E := Aside0.mk hh
  clear hb hh
  go_wp2_with fail
  refine (make_x _ _ _ E.out P.out).mono ?_
  rintro e W8 ⟨mA5, mc5, mA6, mc6, mA7, mc7, mA8, mc8, rfl, hh, hb⟩
  replace B := Aside0.mk (below_then B.out B.out.size hb)
  replace O := Aside0.mk (O.out.below hb)
  replace P := Aside0.mk (P.out.below hb)
  replace Q := Aside0.mk (Q.out.below hb)
  replace C := Aside0.mk (C.out.below hb)
  replace D := Aside0.mk (D.out.below hb)
  replace Bd := Aside0.mk (Bd.out.below hb)
  replace E := Aside0.mk (E.out.below hb)
  replace T3 := Aside0.mk (T3.out.below hb)
  replace ht3 := fun i => T3.out.cell i
  replace T5 := Aside0.mk (T5.out.below hb)
  replace ht5 := fun i => T5.out.cell i
  have M := Aside0.mk hh
  clear hb hh
  have hw := below_alloc (Below.refl W8.heap.size W8) (.cells #[.int .i64 0, .int .u64 1, .int .u64 1, .int .u64 6, .int .u64 0, .slice mA5 1 mc5, .slice mA6 0 mc6, .slice mA7 2 mc7, .slice mA8 0 mc8] 64)
  replace B := Aside0.mk (below_then B.out B.out.size hw)
  replace C := Aside0.mk (C.out.below hw)
  replace Bd := Aside0.mk (Bd.out.below hw)
  replace M := Aside0.mk (M.out.below hw)
  replace T3 := Aside0.mk (T3.out.below hw)
  replace T5 := Aside0.mk (T5.out.below hw)
  have T6 := Aside0.mk (Blk.new W8 #[.int .i64 0, .int .u64 1, .int .u64 1, .int .u64 6, .int .u64 0, .slice mA5 1 mc5, .slice mA6 0 mc6, .slice mA7 2 mc7, .slice mA8 0 mc8] 64)
  replace ht3 := fun i => T3.out.cell i
  clear hw ht5 hx1' hy0'
  go_upto_region 8 with fail
  go_cut [8, 9] (fun s8 s9 wx => s9 = .int .i64 0 ∧ ∃ g : Nat, s8 = .pointer (some ⟨g, 0, none⟩) ∧ Aside0 ((W8.alloc (.cells #[.int .i64 0, .int .u64 1, .int .u64 1, .int .u64 6, .int .u64 0, .slice mA5 1 mc5, .slice mA6 0 mc6, .slice mA7 2 mc7, .slice mA8 0 mc8] 64)).heap.size ≤ g ∧ Below (W8.alloc (.cells #[.int .i64 0, .int .u64 1, .int .u64 1, .int .u64 6, .int .u64 0, .slice mA5 1 mc5, .slice mA6 0 mc6, .slice mA7 2 mc7, .slice mA8 0 mc8] 64)).heap.size (W8.alloc (.cells #[.int .i64 0, .int .u64 1, .int .u64 1, .int .u64 6, .int .u64 0, .slice mA5 1 mc5, .slice mA6 0 mc6, .slice mA7 2 mc7, .slice mA8 0 mc8] 64)) wx ∧ ∃ rA5 rc5 rA6 rc6 rA7 rc7 rA8 rc8, Blk wx g #[.int .i64 0, .int .u64 1, .int .u64 1, .int .u64 6, .int .u64 0, .slice rA5 1 rc5, .slice rA6 0 rc6, .slice rA7 2 rc7, .slice rA8 0 rc8] 64 ∧ HI wx (.agg #[.int .i64 0, .int .u64 1, .int .u64 1, .int .u64 6, .int .u64 0, .slice rA5 1 rc5, .slice rA6 0 rc6, .slice rA7 2 rc7, .slice rA8 0 rc8]) oneH))
  case first =>
    have ht3a := fun i => (T3.out.alloc (.cells #[.int .i64 0, .int .u64 0, .int .u64 0, .int .u64 0, .int .u64 0, .slice none 0 0, .slice none 0 0, .slice none 0 0, .slice none 0 0] 64)).cell i
    go_region_with (first | (go_at_call 149; (with_reducible refine (one_x (W8.alloc (.cells #[.int .i64 0, .int .u64 1, .int .u64 1, .int .u64 6, .int .u64 0, .slice mA5 1 mc5, .slice mA6 0 mc6, .slice mA7 2 mc7, .slice mA8 0 mc8] 64)).drew).mono ?_); rintro e W9 ⟨fA5, fc5, fA6, fc6, fA7, fc7, fA8, fc8, rfl, hh, hb⟩; have F := Aside0.mk hh; have B9 := Aside0.mk (below_then (below_drew (Below.refl (W8.alloc (.cells #[.int .i64 0, .int .u64 1, .int .u64 1, .int .u64 6, .int .u64 0, .slice mA5 1 mc5, .slice mA6 0 mc6, .slice mA7 2 mc7, .slice mA8 0 mc8] 64)).heap.size (W8.alloc (.cells #[.int .i64 0, .int .u64 1, .int .u64 1, .int .u64 6, .int .u64 0, .slice mA5 1 mc5, .slice mA6 0 mc6, .slice mA7 2 mc7, .slice mA8 0 mc8] 64)))) (Nat.le_refl _) hb); replace ht3 := fun i => (T3.out.below B9.out).cell i; have ht3b := fun i => ((T3.out.below B9.out).alloc (.cells #[.int .i64 0, .int .u64 0, .int .u64 0, .int .u64 0, .int .u64 0, .slice none 0 0, .slice none 0 0, .slice none 0 0, .slice none 0 0] 64)).cell i; clear hh hb) | (go_at_call 149; (with_reducible refine (one_x ((W8.alloc (.cells #[.int .i64 0, .int .u64 1, .int .u64 1, .int .u64 6, .int .u64 0, .slice mA5 1 mc5, .slice mA6 0 mc6, .slice mA7 2 mc7, .slice mA8 0 mc8] 64)).alloc (.cells #[.int .i64 0, .int .u64 0, .int .u64 0, .int .u64 0, .int .u64 0, .slice none 0 0, .slice none 0 0, .slice none 0 0, .slice none 0 0] 64)).drew).mono ?_); rintro e W9 ⟨fA5, fc5, fA6, fc6, fA7, fc7, fA8, fc8, rfl, hh, hb⟩; have F := Aside0.mk hh; have B9 := Aside0.mk (below_then (below_drew (below_alloc (Below.refl (W8.alloc (.cells #[.int .i64 0, .int .u64 1, .int .u64 1, .int .u64 6, .int .u64 0, .slice mA5 1 mc5, .slice mA6 0 mc6, .slice mA7 2 mc7, .slice mA8 0 mc8] 64)).heap.size (W8.alloc (.cells #[.int .i64 0, .int .u64 1, .int .u64 1, .int .u64 6, .int .u64 0, .slice mA5 1 mc5, .slice mA6 0 mc6, .slice mA7 2 mc7, .slice mA8 0 mc8] 64))) (.cells #[.int .i64 0, .int .u64 0, .int .u64 0, .int .u64 0, .int .u64 0, .slice none 0 0, .slice none 0 0, .slice none 0 0, .slice none 0 0] 64))) (by simp) hb); have Z9 := Aside0.mk (show Blk W9 (W8.heap.size + 1) #[.int .i64 0, .int .u64 0, .int .u64 0, .int .u64 0, .int .u64 0, .slice none 0 0, .slice none 0 0, .slice none 0 0, .slice none 0 0] 64 from (show Blk ((W8.alloc (.cells #[.int .i64 0, .int .u64 1, .int .u64 1, .int .u64 6, .int .u64 0, .slice mA5 1 mc5, .slice mA6 0 mc6, .slice mA7 2 mc7, .slice mA8 0 mc8] 64)).alloc (.cells #[.int .i64 0, .int .u64 0, .int .u64 0, .int .u64 0, .int .u64 0, .slice none 0 0, .slice none 0 0, .slice none 0 0, .slice none 0 0] 64)) (W8.heap.size + 1) #[.int .i64 0, .int .u64 0, .int .u64 0, .int .u64 0, .int .u64 0, .slice none 0 0, .slice none 0 0, .slice none 0 0, .slice none 0 0] 64 from Blk.at1 (w := W8) (.cells #[.int .i64 0, .int .u64 1, .int .u64 1, .int .u64 6, .int .u64 0, .slice mA5 1 mc5, .slice mA6 0 mc6, .slice mA7 2 mc7, .slice mA8 0 mc8] 64) #[.int .i64 0, .int .u64 0, .int .u64 0, .int .u64 0, .int .u64 0, .slice none 0 0, .slice none 0 0, .slice none 0 0, .slice none 0 0] 64).below (below_then (below_drew (Below.refl _ _)) (Nat.le_refl _) hb)); have HL9 := Aside0.mk (blk_lt Z9.out); replace ht3 := fun i => (T3.out.below B9.out).cell i; clear hh hb) | (go_at_call 83; (with_reducible refine (over_x W9 _ _ (C.out.below B9.out) F.out.spans).mono ?_); rintro e W10 ⟨rA5, rc5, rA6, rc6, rA7, rc7, rA8, rc8, rfl, hh, hb⟩; have R := Aside0.mk hh; have B10 := Aside0.mk (below_then B9.out B9.out.size hb); (try (replace Z9 := Aside0.mk (Z9.out.below hb); have hz := fun i => Z9.out.cell i; have hzf := fun i => blk_frozen Z9.out i)); replace ht3 := fun i => (T3.out.below B10.out).cell i; clear hh hb) | (go_at_call 83; (with_reducible refine (over_x (W9.alloc (.cells #[.int .i64 0, .int .u64 0, .int .u64 0, .int .u64 0, .int .u64 0, .slice none 0 0, .slice none 0 0, .slice none 0 0, .slice none 0 0] 64)) _ _ (C.out.below (below_then B9.out B9.out.size (below_alloc (Below.refl _ _) _))) (F.out.below (below_alloc (Below.refl _ _) _)).spans).mono ?_); rintro e W10 ⟨rA5, rc5, rA6, rc6, rA7, rc7, rA8, rc8, rfl, hh, hb⟩; have R := Aside0.mk hh; have B10 := Aside0.mk (below_then (below_then B9.out B9.out.size (below_alloc (Below.refl _ _) _)) (below_then B9.out B9.out.size (below_alloc (Below.refl _ _) _)).size hb); have Z9 := Aside0.mk (show Blk W10 W9.heap.size #[.int .i64 0, .int .u64 0, .int .u64 0, .int .u64 0, .int .u64 0, .slice none 0 0, .slice none 0 0, .slice none 0 0, .slice none 0 0] 64 from (Blk.new W9 #[.int .i64 0, .int .u64 0, .int .u64 0, .int .u64 0, .int .u64 0, .slice none 0 0, .slice none 0 0, .slice none 0 0, .slice none 0 0] 64).below hb); have hz := fun i => Z9.out.cell i; have hzf := fun i => blk_frozen Z9.out i; replace ht3 := fun i => (T3.out.below B10.out).cell i; clear hh hb))
    all_goals go_wp2_with fail
    all_goals go_meet
    all_goals (first | exact ⟨rfl, _, rfl, ⟨B10.out.size, B10.out.alloc B10.out.size _, _, _, _, _, _, _, _, _, Blk.new W10 _ _, R.out.now.below (below_alloc (Below.refl _ _) _)⟩⟩ | exact ⟨rfl, _, rfl, ⟨B9.out.size, nine_below B10.out B9.out.size _ _ _ _ _ _ _ _ _, _, _, _, _, _, _, _, _, nine Z9.out _ _ _ _ _ _ _ _ _, (R.out.step (nine_ka (KA.refl _ _) (by simp) _ _ _ _ _ _ _ _ _)).now⟩⟩ | exact ⟨rfl, _, rfl, ⟨by simp, nine_below B10.out (by simp) _ _ _ _ _ _ _ _ _, _, _, _, _, _, _, _, _, nine Z9.out _ _ _ _ _ _ _ _ _, (R.out.step (nine_ka (KA.refl _ _) HL9.out _ _ _ _ _ _ _ _ _)).now⟩⟩)
  case rest =>
    obtain ⟨rfl, g, rfl, HG⟩ := hcut
    obtain ⟨hg, hbb, rA5, rc5, rA6, rc6, rA7, rc7, rA8, rc8, t8, hr⟩ := HG.out
    replace B := Aside0.mk (below_then B.out B.out.size hbb)
    replace C := Aside0.mk (C.out.below hbb)
    replace Bd := Aside0.mk (Bd.out.below hbb)
    replace M := Aside0.mk (M.out.below hbb)
    have R := Aside0.mk hr
    replace T3 := Aside0.mk (T3.out.below hbb)
    replace T5 := Aside0.mk (T5.out.below hbb)
    replace T6 := Aside0.mk (T6.out.below hbb)
    have T8 := Aside0.mk t8
    replace ht3 := fun i => T3.out.cell i
    have ht5 := fun i => T5.out.cell i
    have ht6 := fun i => T6.out.cell i
    have ht8 := fun i => T8.out.cell i
    clear hg hbb t8 hr HG
    go_wp2_with fail
    go_region_held3 (fun W => (∀ i, W.cell? ⟨w4.heap.size, i, none⟩ = (#[.int .i64 0, .int .u64 1, .int .u64 1, .int .u64 6, .int .u64 0, .slice cA5 1 cc5, .slice cA6 0 cc6, .slice cA7 1 cc7, .slice cA8 0 cc8] : Array Value)[i]?) ∧ (∀ i, W.cell? ⟨W5.heap.size, i, none⟩ = (#[.int .i64 0, .int .u64 1, .int .u64 1, .int .u64 7, .int .u64 0, .slice bA5 1 bc5, .slice bA6 0 bc6, .slice bA7 2 bc7, .slice bA8 0 bc8] : Array Value)[i]?) ∧ (∀ i, W.cell? ⟨W8.heap.size, i, none⟩ = (#[.int .i64 0, .int .u64 1, .int .u64 1, .int .u64 6, .int .u64 0, .slice mA5 1 mc5, .slice mA6 0 mc6, .slice mA7 2 mc7, .slice mA8 0 mc8] : Array Value)[i]?) ∧ (∀ i, W.cell? ⟨g, i, none⟩ = (#[.int .i64 0, .int .u64 1, .int .u64 1, .int .u64 6, .int .u64 0, .slice rA5 1 rc5, .slice rA6 0 rc6, .slice rA7 2 rc7, .slice rA8 0 rc8] : Array Value)[i]?)) (exact ⟨fun i => T3.out.cell i, fun i => T5.out.cell i, fun i => T6.out.cell i, fun i => T8.out.cell i⟩) (first | (go_at_call 149; (with_reducible refine (one_x wc.drew).mono ?_); rintro e V1 ⟨xA5, xc5, xA6, xc6, xA7, xc7, xA8, xc8, rfl, hh, hb⟩; have hb0 := hb; have hb := below_then (below_drew (Below.refl wc.heap.size wc)) ((below_drew (Below.refl wc.heap.size wc))).size hb; replace B := Aside0.mk (below_then B.out B.out.size hb); replace C := Aside0.mk (C.out.below hb); replace Bd := Aside0.mk (Bd.out.below hb); replace M := Aside0.mk (M.out.below hb); replace R := Aside0.mk (R.out.below hb); replace T3 := Aside0.mk (T3.out.below hb); replace ht3 := fun i => T3.out.cell i; replace T5 := Aside0.mk (T5.out.below hb); replace ht5 := fun i => T5.out.cell i; replace T6 := Aside0.mk (T6.out.below hb); replace ht6 := fun i => T6.out.cell i; replace T8 := Aside0.mk (T8.out.below hb); replace ht8 := fun i => T8.out.cell i; have X1 := Aside0.mk hh; clear hb hb0 hh) | (go_at_call 80; (with_reducible refine (equal_x oneH oneH oneH_wf oneH_wf true aw09_6 V1 _ _ M.out X1.out).mono ?_); rintro e V2 ⟨rfl, hb⟩; replace B := Aside0.mk (below_then B.out B.out.size hb); replace C := Aside0.mk (C.out.below hb); replace Bd := Aside0.mk (Bd.out.below hb); replace M := Aside0.mk (M.out.below hb); replace R := Aside0.mk (R.out.below hb); replace X1 := Aside0.mk (X1.out.below hb); replace T3 := Aside0.mk (T3.out.below hb); replace ht3 := fun i => T3.out.cell i; replace T5 := Aside0.mk (T5.out.below hb); replace ht5 := fun i => T5.out.cell i; replace T6 := Aside0.mk (T6.out.below hb); replace ht6 := fun i => T6.out.cell i; replace T8 := Aside0.mk (T8.out.below hb); replace ht8 := fun i => T8.out.cell i; clear hb) | (go_at_call 80; (with_reducible refine (equal_x oneH canH oneH_wf canH_wf true aw09_7 V2 _ _ R.out C.out).mono ?_); rintro e V3 ⟨rfl, hb⟩; replace B := Aside0.mk (below_then B.out B.out.size hb); replace C := Aside0.mk (C.out.below hb); replace Bd := Aside0.mk (Bd.out.below hb); replace M := Aside0.mk (M.out.below hb); replace R := Aside0.mk (R.out.below hb); replace T3 := Aside0.mk (T3.out.below hb); replace ht3 := fun i => T3.out.cell i; replace T5 := Aside0.mk (T5.out.below hb); replace ht5 := fun i => T5.out.cell i; replace T6 := Aside0.mk (T6.out.below hb); replace ht6 := fun i => T6.out.cell i; replace T8 := Aside0.mk (T8.out.below hb); replace ht8 := fun i => T8.out.cell i; clear hb) | (go_at_call 149; (with_reducible refine (one_x V3).mono ?_); rintro e V4 ⟨yA5, yc5, yA6, yc6, yA7, yc7, yA8, yc8, rfl, hh, hb⟩; replace B := Aside0.mk (below_then B.out B.out.size hb); replace C := Aside0.mk (C.out.below hb); replace Bd := Aside0.mk (Bd.out.below hb); replace M := Aside0.mk (M.out.below hb); replace R := Aside0.mk (R.out.below hb); replace T3 := Aside0.mk (T3.out.below hb); replace ht3 := fun i => T3.out.cell i; replace T5 := Aside0.mk (T5.out.below hb); replace ht5 := fun i => T5.out.cell i; replace T6 := Aside0.mk (T6.out.below hb); replace ht6 := fun i => T6.out.cell i; replace T8 := Aside0.mk (T8.out.below hb); replace ht8 := fun i => T8.out.cell i; have X4 := Aside0.mk hh; clear hb hh) | (go_at_call 80; (with_reducible refine (equal_x oneH badH oneH_wf badH_wf false aw09_8 V4 _ _ X4.out Bd.out).mono ?_); rintro e V5 ⟨rfl, hb⟩; replace B := Aside0.mk (below_then B.out B.out.size hb); replace C := Aside0.mk (C.out.below hb); replace Bd := Aside0.mk (Bd.out.below hb); replace M := Aside0.mk (M.out.below hb); replace R := Aside0.mk (R.out.below hb); replace X4 := Aside0.mk (X4.out.below hb); replace T3 := Aside0.mk (T3.out.below hb); replace ht3 := fun i => T3.out.cell i; replace T5 := Aside0.mk (T5.out.below hb); replace ht5 := fun i => T5.out.cell i; replace T6 := Aside0.mk (T6.out.below hb); replace ht6 := fun i => T6.out.cell i; replace T8 := Aside0.mk (T8.out.below hb); replace ht8 := fun i => T8.out.cell i; clear hb) | (go_at_call 72; (with_reducible refine (hist_NaN.calls _ _ V5 aw09_9).mono ?_); rintro e V6 ⟨rfl, hb0⟩; have hb := hb0.below; replace B := Aside0.mk (below_then B.out B.out.size hb); replace C := Aside0.mk (C.out.below hb); replace Bd := Aside0.mk (Bd.out.below hb); replace M := Aside0.mk (M.out.below hb); replace R := Aside0.mk (R.out.below hb); replace T3 := Aside0.mk (T3.out.below hb); replace ht3 := fun i => T3.out.cell i; replace T5 := Aside0.mk (T5.out.below hb); replace ht5 := fun i => T5.out.cell i; replace T6 := Aside0.mk (T6.out.below hb); replace ht6 := fun i => T6.out.cell i; replace T8 := Aside0.mk (T8.out.below hb); replace ht8 := fun i => T8.out.cell i; clear hb; clear hb0) | (go_at_call 74; (with_reducible refine (hist_Threshold.calls _ _ V6 aw09_10).mono ?_); rintro e V7 ⟨rfl, hb0⟩; have hb := hb0.below; replace B := Aside0.mk (below_then B.out B.out.size hb); replace C := Aside0.mk (C.out.below hb); replace Bd := Aside0.mk (Bd.out.below hb); replace M := Aside0.mk (M.out.below hb); replace R := Aside0.mk (R.out.below hb); replace T3 := Aside0.mk (T3.out.below hb); replace ht3 := fun i => T3.out.cell i; replace T5 := Aside0.mk (T5.out.below hb); replace ht5 := fun i => T5.out.cell i; replace T6 := Aside0.mk (T6.out.below hb); replace ht6 := fun i => T6.out.cell i; replace T8 := Aside0.mk (T8.out.below hb); replace ht8 := fun i => T8.out.cell i; clear hb; clear hb0))
    all_goals go_wp2
    all_goals go_ret
    all_goals exact ⟨rfl, B.out⟩
end Go.Proofs.Ytacgeafjilipdaa.P
namespace Go.Proofs.Ytacgeafjilipdaa.P
open Go.RowKit Go.Shelf Go.Proofs.YtacgeafjilipdaaW.PrintWords Go.Proofs.YtacgeafjilipdaaW.PrintLast Go.Proofs.YtacgeafjilipdaaW.PrintMore
set_option linter.unusedVariables false
set_option linter.unusedSimpArgs false
def wfI (h : Hi) : Prop := i64 h.f0 ∧ u64 h.f1 ∧ u64 h.f2 ∧ u64 h.f3 ∧ u64 h.f4 ∧ wfSps h.f5 ∧ wfSps h.f6 ∧ i64s h.f7 ∧ i64s h.f8
instance (h : Hi) : Decidable (wfI h) := by unfold wfI; exact inferInstance
theorem wfI_of {x : S64} (h : wf64 x) : wfI x := ⟨i64_of h.1, u64_of h.2.1, u64_of h.2.2.1, u64_of h.2.2.2.1, u64_of h.2.2.2.2.1, wfSps_of h.2.2.2.2.2.1, wfSps_of h.2.2.2.2.2.2.1, i64_all h.2.2.2.2.2.2.2.1, i64_all h.2.2.2.2.2.2.2.2⟩
end Go.Proofs.Ytacgeafjilipdaa.P
namespace Go.Proofs.Ytacgeafjilipdaa.P
open Go.RowKit Go.Proofs.YtacgeafjilipdaaW.PrintWords Go.Proofs.YtacgeafjilipdaaW.PrintLast Go.Proofs.YtacgeafjilipdaaW.PrintMore
set_option linter.unusedVariables false
set_option linter.unusedSimpArgs false
theorem sums_diffs : ∀ (o : List Int) (a : Int) (l : List Int), (∀ x ∈ o, i64 x) → diffsFrom a o = some l → sumsFrom a l = some o
  | [], a, l, _, h => by cases h; rfl
  | x :: o, a, l, hw, h => by
    simp only [diffsFrom] at h
    split at h
    · rename_i hx
      cases hq : diffsFrom x o with
      | none => rw [hq] at h; simp at h
      | some l' =>
        rw [hq] at h; simp at h; subst h
        have ih := sums_diffs o x l' (fun y hy => hw y (List.mem_cons_of_mem _ hy)) hq
        have hx1 := hw x (List.mem_cons_self ..)
        have e : a + (x - a) = x := by omega
        simp only [sumsFrom]
        rw [e, if_pos hx1, ih]; rfl
    · cases h
theorem zip_self : ∀ (l : List Pr), List.zipWith (fun p x => (⟨p, x⟩ : Pr)) (l.map (·.f0)) (l.map (·.f1)) = l
  | [] => rfl
  | x :: l => by simp only [List.map_cons, List.zipWith_cons_cons, zip_self l]
theorem unzip_ok {l : List Pr} (hr : rises (-1048576) (l.map (·.f0)) = true) (hl : l.length ≤ 1024) : unzipRes l = (spansOf (l.map (·.f0)), l.map (·.f1), 0) := by
  have hs := spInv_take _ hr
  have h1 := hs.len
  rw [List.length_map] at h1
  have hf : fromRes (l.map (·.f0)) = (spansOf (l.map (·.f0)), 0) := by
    unfold fromRes
    rw [if_pos hr, if_neg (by rw [List.length_map]; omega), if_neg (by omega)]
  unfold unzipRes; rw [hf]; simp
theorem unzip_no {l : List Pr} (hr : rises (-1048576) (l.map (·.f0)) = false) : (unzipRes l).2.2 = 11 := by
  unfold unzipRes fromRes; rw [hr]; simp
theorem side_laid {l : List Pr} (hw : wfRow l) (hr : rises (-1048576) (l.map (·.f0)) = true) (hl : l.length ≤ 1024) {d : List Int} (hd : diffsFrom 0 (l.map (·.f1)) = some d) :
    sideRes (spansOf (l.map (·.f0))) d = if (l.map (·.f1)).any (fun x => decide (x < 0)) = true then ([], 22) else (l, 0) := by
  have hs := spInv_take _ hr
  have h1 := hs.len
  rw [List.length_map] at h1
  have hc := spansOf_check hr (by rw [List.length_map]; omega) (by omega)
  have hsum := sums_diffs _ _ _ (by intro x hx; obtain ⟨p, hp, rfl⟩ := List.mem_map.1 hx; exact (hw.1 p hp).2) hd
  have hdl := sumsFrom_length d 0 _ hsum
  have hcn := hs.cnt
  rw [List.length_map] at hdl hcn
  unfold sideRes
  rw [if_pos hc, if_pos (by omega), hsum]
  simp only
  rw [hs.pl, zip_self]
theorem checkR_zero {h : Hi} (hc : checkR h = 0) : headE h = 0 ∧ (sideRes h.f5 h.f7).2 = 0 ∧ (sideRes h.f6 h.f8).2 = 0 ∧ fits h.f2 h.f3 h.f4 (sideRes h.f5 h.f7).1 (sideRes h.f6 h.f8).1 = true := by
  rw [checkR_eq] at hc
  by_cases c1 : headE h = 0
  rotate_left
  · rw [if_pos c1] at hc; exact absurd hc c1
  rw [if_neg (by simp [c1])] at hc
  by_cases c2 : (sideRes h.f5 h.f7).2 = 0
  rotate_left
  · rw [if_pos c2] at hc; exact absurd hc c2
  rw [if_neg (by simp [c2])] at hc
  by_cases c3 : (sideRes h.f6 h.f8).2 = 0
  rotate_left
  · rw [if_pos c3] at hc; exact absurd hc c3
  rw [if_neg (by simp [c3])] at hc
  by_cases c4 : fits h.f2 h.f3 h.f4 (sideRes h.f5 h.f7).1 (sideRes h.f6 h.f8).1 = true
  · exact ⟨c1, c2, c3, c4⟩
  · rw [if_neg c4] at hc; cases hc
end Go.Proofs.Ytacgeafjilipdaa.P
namespace Go.Proofs.Ytacgeafjilipdaa.P
open Go.RowKit Go.Shelf Go.Proofs.YtacgeafjilipdaaW.PrintWords Go.Proofs.YtacgeafjilipdaaW.PrintLast Go.Proofs.YtacgeafjilipdaaW.PrintMore
set_option linter.unusedVariables false
set_option linter.unusedSimpArgs false
theorem canonical_c (l : List Sp) (hw : wfSps l) (hc : canonB true l = true) (hk : spCheck l = 0) (w : World) (v : Value) (hv : SI kSp w v l) : Calls Try.prog 47 #[v] w fun e w' => e = .returned (.bool true) ∧ Below w.heap.size w w' := by
  obtain ⟨A, c, rfl, hcc, hr⟩ := hv
  have hl := (spCheck_zero hk).1
  exact span_Canonical.calls (l.length + 2050) A c l true w hr hcc (by rw [canonical_eq l hw (by omega) _ (by omega), hc, hk]; rfl)
theorem empty_x (a5 a6 a7 a8 : Option Addr) (c5 c6 c7 c8 : Nat) (w : World) :
    Calls Try.prog 85 #[.agg #[.int .i64 0, .int .u64 0, .int .u64 0, .int .u64 0, .int .u64 0, .slice a5 0 c5, .slice a6 0 c6, .slice a7 0 c7, .slice a8 0 c8]] w fun e w' => e = .returned (.bool true) ∧ Below w.heap.size w w' := by
  have hu := Try.underlying64
  go_enter Try.func85, Try.ntmps85
  go_wp2
  go_ret
  exact ⟨rfl, below_alloc (Below.refl _ _) _⟩
theorem HF.empty_ {b : Nat} {w : World} {v : Value} (h : HF b w v emptyH) : ∃ A5 c5 A6 c6 A7 c7 A8 c8, v = .agg #[.int .i64 0, .int .u64 0, .int .u64 0, .int .u64 0, .int .u64 0, .slice A5 0 c5, .slice A6 0 c6, .slice A7 0 c7, .slice A8 0 c8] := by
  obtain ⟨A5, c5, A6, c6, A7, c7, A8, c8, e⟩ := h.open_
  exact ⟨A5, c5, A6, c6, A7, c7, A8, c8, e⟩
end Go.Proofs.Ytacgeafjilipdaa.P
