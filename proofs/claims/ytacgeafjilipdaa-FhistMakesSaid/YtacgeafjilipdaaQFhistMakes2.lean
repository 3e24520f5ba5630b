/- FhistMakes: the part that this text bears of the proof that the statement answers true for every input. No condition. -/
import Derived.Test.YtacgeafjilipdaaProg
import Derived.Below
import Derived.Deep.Draws
import Derived.Deep.AppendLies
import Derived.Maps.AppendAt
import Derived.OwnWalk
import Derived.Laws.BytesArg
import Derived.Laws.MakeOwn
import Derived.Laws.OwnMore
import Derived.Deep.OwnRows
import Derived.Tactics
import Derived.Lib.ConvBytes
import Derived.Laws.Slices
import Derived.WalkKit
import Derived.KernelRfl
import Derived.RowKit3
import Derived.Deep.LoopGhost
import Derived.Deep.QuietTactic
import Derived.BigQuiet
import Derived.WideLaws
import Derived.Deep.DeepCutAuto
import Derived.Deep.CutBlock
import Derived.Deep.RegionHeld3
import Derived.Laws.Rows
import Derived.Lib.AppendStr
import Derived.ArgAppend
import Derived.Laws.IdiomCopy
import Derived.OrdersHeld
import Derived.Laws.BitsLemmas
import Derived.RowKit
import Derived.Deep.Slices
import Derived.ChangeArms
import Derived.Shelf.Abstract
import Derived.WalkSpells
import Derived.RangeFuncNested
import Derived.RangeFuncBound
import Derived.RangeFuncCalls
import Derived.RangeFuncLeaves
import Derived.RangeFuncBox
import Derived.OwnWalkIn
import Derived.TacticsInMore
import Derived.LoopNIn
import Derived.LoopIn
import Derived.RegionIn
import Derived.Sort.QuietTacIn
import Derived.Deep.RegionWith
import Derived.ChangeKeysEq
import Derived.Great.Frames
import Derived.Laws.Externs
import Derived.SizedLaws
import Derived.ProofKit
import Derived.JoinedOf
import Derived.OpenShut
import Derived.ShutString
import Derived.ChangeOld
import Derived.Test.YtacgeafjilipdaaQFhistMakesWWords
import Derived.Test.YtacgeafjilipdaaQFhistMakesWLast
import Derived.Test.YtacgeafjilipdaaQFhistMakesWTab
import Derived.Test.YtacgeafjilipdaaQFhistMakesWFour
import Derived.Test.YtacgeafjilipdaaQFhistMakesWQPut
import Derived.Test.YtacgeafjilipdaaQFhistMakesWApart
import Derived.Test.YtacgeafjilipdaaQFhistMakesWArr
import Derived.Test.YtacgeafjilipdaaQFhistMakesWZeros
import Derived.Test.YtacgeafjilipdaaQFhistMakesWFoot
import Derived.Test.YtacgeafjilipdaaQFhistMakesWKept
import Derived.Test.YtacgeafjilipdaaQFhistMakesWShare
import Derived.Test.YtacgeafjilipdaaQFhistMakesWN
import Derived.Test.YtacgeafjilipdaaQFhistMakesWFootNe
import Derived.Test.YtacgeafjilipdaaQFhistMakesWAt
import Derived.Test.YtacgeafjilipdaaQFhistMakesWEqStruct
import Derived.Test.YtacgeafjilipdaaQFhistMakesWRepsOne
import Derived.Test.YtacgeafjilipdaaQFhistMakesWInv
import Derived.Test.YtacgeafjilipdaaQFhistMakesWInvWords
import Derived.Test.YtacgeafjilipdaaQFhistMakesWGuard
import Derived.Test.YtacgeafjilipdaaQFhistMakesWNEv
import Derived.Test.YtacgeafjilipdaaQFhistMakesWMore
import Derived.Test.YtacgeafjilipdaaRows
import Derived.Test.YtacgeafjilipdaaQFhistMakes0
import Derived.Test.YtacgeafjilipdaaQFhistMakes1
namespace Go.Proofs.Ytacgeafjilipdaa.P
open Go.RowKit Go.Shelf Go.Proofs.YtacgeafjilipdaaW.PrintWords Go.Proofs.YtacgeafjilipdaaW.PrintLast Go.Proofs.YtacgeafjilipdaaW.PrintMore
set_option linter.unusedVariables false
set_option linter.unusedSimpArgs false
set_option maxRecDepth 100000 in
set_option maxHeartbeats 4000000 in
theorem all1P_in (n : Nat) (hn : 1 ≤ n) (L n0 n1 Bn : Nat) (v : Value) (l : List S144) (k : Nat) (hck : span_Check.f k l = some 0) (hN : (placesAt 0 l).length ≤ 4611686018427387904) (J Jx : List (Int × Int) → World → Prop)
    (hJ : ∀ s W W', J s W → W.grownBy W' none → J s W')
    (hY : ∀ pre x W, J pre W → pre ++ [x] <+: numd (placesAt 0 l) → YieldAt Fence.wide (n - 1) Try.prog L #[.int .i64 x.1, .int .i64 x.2] W fun e W' =>
      (e = .returned (.bool true) ∧ J (pre ++ [x]) W' ∧ KeepR n0 n1 W W') ∨ (e = .returned (.bool false) ∧ Jx (pre ++ [x]) W'))
    (W : World) (hS : HoldsSp n0 n1 Bn v l W) (h0 : J [] W) :
    CallsIn Fence.wide n Try.prog 190 #[.func (.yield L) #[] #[], .pointer (some ⟨Bn, 0, none⟩)] W fun e W' => (∃ v, e = .returned v) ∧
      ((∃ ys, ys = numd (placesAt 0 l) ∧ J ys W') ∨ (∃ pre, pre <+: numd (placesAt 0 l) ∧ Jx pre W')) := by
  have hu := Try.underlying144
  have hf : Fence.wide.fn 130 := trivial
  obtain ⟨A, c, rfl, hlc, hC⟩ := Kd.R_reads hS.2.2.2
  have hcell : W.cell? ⟨Bn, 0, none⟩ = some (.slice A l.length c) := by
    have := blk_cell (i := 0) hS.2.2.1
    rw [this]; rfl
  have hm : l.length ≤ 9223372036854775807 := hC.2.1
  have HCk := Aside0.mk (span_Check.calls k A c l 0 W hC hlc hck)
  have HJ := Aside0.mk hJ
  have HY := Aside0.mk hY
  have HS := Aside0.mk hS
  have H0 := Aside0.mk h0
  clear hJ hY hS h0 hC
  refine callsIn_of_wp Try.func190 rfl trivial ?_ rfl
  simp only [Try.ntmps190, List.size_toArray, List.length_cons, List.length_nil, Nat.reduceAdd, Nat.reduceSub, Array.replicate_succ, Array.replicate_zero, List.push_toArray, List.append_toArray, List.nil_append, List.cons_append]
  gi_wp2_with (gi_at_call 130; refine (callsIn_wide.2 HCk.out).mono ?_; rintro e w1 ⟨rfl, hb⟩; have HB := Aside0.mk hb; have hcell1 := (hb.cell (World.block_lt_of_cell? W _ hcell)).trans hcell; clear hb hcell)
  have HS1 := Aside0.mk (HS.out.keep (KeepR.of_below HB.out HS.out.2.1))
  have H1 := Aside0.mk (HJ.out _ _ _ H0.out (grown_of_below HB.out none))
  clear HS H0 HB HCk
  gi_loopw [3, 4, 12] (fun s3 s4 s12 wr => ∃ kk : Nat, kk ≤ l.length ∧ s12 = .int .i64 kk ∧ s3 = .int .i64 (endAt 0 (l.take kk)) ∧ s4 = .int .i64 ((placesAt 0 (l.take kk)).length : Int) ∧ Aside0 (HoldsSp n0 n1 Bn (.slice A l.length c) l wr) ∧ Aside0 (J (numd (placesAt 0 (l.take kk))) wr)) (fun _ _ s12 _ => l.length - (intOf s12).toNat)
  case atStart => exact ⟨0, Nat.zero_le _, rfl, by simp [endAt], by simp [placesAt], HS1, by simpa [placesAt, numd] using H1⟩
  case round =>
    obtain ⟨kk, hkk, rfl, rfl, rfl, HS, HJ0⟩ := hrel
    clear HS1 H1
    by_cases hlt : kk < l.length
    · have hlti : (kk : Int) < (l.length : Int) := by omega
      have hC := (Kd.R_reads' HS.out.2.2.2).2.2
      obtain ⟨ad, e1, hx0, hx1⟩ := at_T144 hC kk (by omega) (by omega)
      cases e1
      clear hC
      have hrd : rd_T144 l (kk : Int) = l[kk] := by unfold rd_T144; simp [List.getD, hlt]
      rw [hrd, Int.toNat_natCast] at hx0 hx1
      have HT := Aside0.mk (List.take_succ_eq_append_getElem hlt)
      generalize l[kk] = y at hx0 hx1 HT hrd
      clear hrd
      obtain ⟨wo, rfl⟩ : ∃ wo : World, wo = wr := ⟨_, rfl⟩
      have hple : (placesAt 0 (l.take kk)).length ≤ 4611686018427387904 := Nat.le_trans (placesAt_take_le l kk) hN
      have HP1 := Aside0.mk (placesAt_snoc y (l.take kk) 0)
      have HE1 := Aside0.mk (endAt_snoc y (l.take kk) 0)
      have HLE : Aside0 ((placesAt 0 (l.take kk)).length + y.f1.toNat ≤ (placesAt 0 l).length ∧ placesAt 0 (l.take kk) ++ runAt (wrap64 (endAt 0 (l.take kk) + y.f0)) y.f1.toNat <+: placesAt 0 l) := by
        have h := placesAt_prefix (l.take (kk + 1)) (l.drop (kk + 1))
        rw [List.take_append_drop, HT.out, HP1.out] at h
        refine ⟨⟨?_, h⟩⟩
        have := h.length_le
        rwa [List.length_append, runAt_length] at this
      rw [← HT.out] at HP1 HE1
      clear HT
      generalize endAt 0 (l.take kk) = at0 at HP1 HE1 HLE
      generalize placesAt 0 (l.take kk) = ps at HP1 HLE HJ0 hple
      have HS0 := Aside0.mk (HS.out.keep (KeepR.of_below (below_alloc (Below.refl _ wo) (.cells #[.int .i64 y.f0, .int .i64 y.f1] 144)) HS.out.2.1))
      have HJ1 := Aside0.mk (HJ.out _ _ _ HJ0.out (grown_of_below (below_alloc (Below.refl _ wo) (.cells #[.int .i64 y.f0, .int .i64 y.f1] 144)) none))
      clear HS HJ0
      gi_wp2
      gi_loopw [3, 4, 22] (fun s3 s4 s22 wr => ∃ i : Nat, i ≤ y.f1.toNat ∧ s22 = .int .i64 i ∧ s3 = .int .i64 (runEnd (wrap64 (at0 + y.f0)) i) ∧ s4 = .int .i64 ((ps.length : Int) + (i : Int)) ∧ Aside0 (HoldsSp n0 n1 Bn (.slice (some ad) l.length c) l wr) ∧ Aside0 (J (numd (ps ++ runAt (wrap64 (at0 + y.f0)) i)) wr)) (fun _ _ s22 _ => (y.f1 - intOf s22).toNat)
      case atStart => exact ⟨0, Nat.zero_le _, rfl, rfl, by simp, HS0, by simpa [runAt] using HJ1⟩
      case round =>
        obtain ⟨i, hi, rfl, rfl, rfl, HS, HJ0⟩ := hrel
        clear HS0 HJ1
        by_cases hli : (i : Int) < y.f1
        · have hlen : (ps ++ runAt (wrap64 (at0 + y.f0)) i).length = ps.length + i := by rw [List.length_append, runAt_length]
          have hlt2 : ps.length + i < (placesAt 0 l).length := by have := HLE.out.1; omega
          have hnx : (ps.length : Int) + (i : Int) + 1 ≤ 4611686018427387904 := by omega
          have hn0 : 0 ≤ (ps.length : Int) + (i : Int) := by omega
          have hy1 : y.f1 ≤ 4611686018427387904 := by have := HLE.out.1; omega
          have HRUN : Aside0 (numd (ps ++ runAt (wrap64 (at0 + y.f0)) i) ++ [((ps.length : Int) + (i : Int), runEnd (wrap64 (at0 + y.f0)) i)] <+: numd (placesAt 0 l)) := by
            refine ⟨?_⟩
            have h1 := numd_prefix HLE.out.2
            have hi1 : i + 1 ≤ y.f1.toNat := by omega
            have h2 : ps ++ runAt (wrap64 (at0 + y.f0)) (i + 1) <+: ps ++ runAt (wrap64 (at0 + y.f0)) y.f1.toNat := by
              refine (List.prefix_append_right_inj _).2 ?_
              have : ∀ (m j : Nat) (a : Int), j ≤ m → runAt a j <+: runAt a m := by
                intro m
                induction m with
                | zero => intro j a hj; obtain rfl : j = 0 := by omega
                          exact List.prefix_rfl
                | succ m ih =>
                  intro j a hj
                  cases j with
                  | zero => exact List.nil_prefix
                  | succ j => exact (List.cons_prefix_cons).2 ⟨rfl, ih j _ (by omega)⟩
              exact this _ _ _ hi1
            have h3 := (numd_prefix h2).trans h1
            rw [runAt_snoc, ← List.append_assoc, numd_snoc, hlen] at h3
            exact h3
          obtain ⟨fn, tmps, assign, body, hy, hR⟩ := HY.out (numd (ps ++ runAt (wrap64 (at0 + y.f0)) i)) ((ps.length : Int) + (i : Int), runEnd (wrap64 (at0 + y.f0)) i) wr HJ0.out HRUN.out
          dsimp only at hy
          have HA := Aside0.mk (runAt_snoc i (wrap64 (at0 + y.f0)))
          have HE := Aside0.mk (runEnd_snoc i (wrap64 (at0 + y.f0)))
          have HNS := Aside0.mk (numd_snoc (ps ++ runAt (wrap64 (at0 + y.f0)) i) (runEnd (wrap64 (at0 + y.f0)) i))
          have HL := Aside0.mk hlen
          have HRR := Aside0.mk hR
          clear hR hlen HJ0 HRUN
          gi_wp2
          refine HRR.out.mono ?_
          rintro e W3 (⟨rfl, hJ3, hk3⟩ | ⟨rfl, hJx3⟩)
          · have HJ3 := Aside0.mk hJ3
            have HS3 := Aside0.mk (HS.out.keep hk3)
            clear hJ3 hk3
            gi_wp2
            go_roundw
            case rel => 
              refine ⟨i + 1, by omega, by go_num, by rw [HE.out], by go_num, HS3, ⟨?_⟩⟩
              rw [HA.out, ← List.append_assoc, HNS.out, HL.out]
              exact HJ3.out
            case measure => simp [intOf]; omega
          · have HX := Aside0.mk hJx3
            clear hJx3
            gi_wp2
            refine bodyPost_ret (results_none rfl _ _ _) rfl ?_
            refine ⟨⟨_, rfl⟩, .inr ⟨_, ?_, HX.out⟩⟩
            have h1 := numd_prefix HLE.out.2
            have hi1 : i + 1 ≤ y.f1.toNat := by omega
            have h2 : ps ++ runAt (wrap64 (at0 + y.f0)) (i + 1) <+: ps ++ runAt (wrap64 (at0 + y.f0)) y.f1.toNat := by
              refine (List.prefix_append_right_inj _).2 ?_
              have : ∀ (m j : Nat) (a : Int), j ≤ m → runAt a j <+: runAt a m := by
                intro m
                induction m with
                | zero => intro j a hj; obtain rfl : j = 0 := by omega
                          exact List.prefix_rfl
                | succ m ih =>
                  intro j a hj
                  cases j with
                  | zero => exact List.nil_prefix
                  | succ j => exact (List.cons_prefix_cons).2 ⟨rfl, ih j _ (by omega)⟩
              exact this _ _ _ hi1
            have h3 := (numd_prefix h2).trans h1
            rw [HA.out, ← List.append_assoc, HNS.out, HL.out] at h3
            exact h3
        · have hie : i = y.f1.toNat := by omega
          have hli' : ¬ (i : Int) < y.f1 := hli
          gi_wp2
          go_roundw
          case rel =>
            refine ⟨kk + 1, by omega, by go_num, ?_, ?_, HS, ?_⟩
            · rw [HE1.out, hie]
            · rw [HP1.out, List.length_append, runAt_length, hie]; go_num
            · rw [HP1.out, ← hie]; exact HJ0
          case measure => simp [intOf]; omega
    · have hlti : ¬ (kk : Int) < (l.length : Int) := by omega
      have hk : l.take kk = l := List.take_of_length_le (by omega)
      have HK := Aside0.mk hk
      clear hk
      gi_wp2
      go_end0
      have hj := HJ0.out
      rw [HK.out] at hj
      exact ⟨⟨_, rfl⟩, .inl hj⟩
def atN (D : List Int) (k : Nat) : Int × Int := ((k : Int), D.getD k 0)
theorem numd_getElem? (D : List Int) (k : Nat) (h : k < D.length) : (numd D)[k]? = some (atN D k) := by
  unfold numd atN
  rw [List.getElem?_map, List.getElem?_zipIdx, List.getElem?_eq_getElem h]
  simp [List.getD, h]
theorem prefix_at {D : List Int} {pre : List (Int × Int)} {x : Int × Int} (h : pre ++ [x] <+: numd D) : pre.length < D.length ∧ x = atN D pre.length := by
  have hl := h.length_le
  rw [List.length_append, numd_length] at hl
  simp only [List.length_cons, List.length_nil] at hl
  refine ⟨by omega, ?_⟩
  obtain ⟨t, ht⟩ := h
  have h1 := numd_getElem? D pre.length (by omega)
  rw [← ht, List.append_assoc, List.getElem?_append_right (Nat.le_refl _)] at h1
  simp at h1
  exact h1
theorem all_stopsN (n : Nat) (hn : 1 ≤ n) (n0 Bn : Nat) (v : Value) (l : List S144) (k : Nat) (hck : span_Check.f k l = some 0) (hN : (placesAt 0 l).length ≤ 4611686018427387904) (w : World) (hS : HoldsSp n0 w.heap.size Bn v l w) :
    SeqStopsK Fence.wide n Try.prog 190 #[.pointer (some ⟨Bn, 0, none⟩)] (fun x : Fin (placesAt 0 l).length => #[Value.int .i64 (x.val : Int), Value.int .i64 ((placesAt 0 l).getD x.val 0)]) (KeepR n0 w.heap.size) (fun ys => ys.map (·.val) = List.range (placesAt 0 l).length) (fun _ => True) (placesAt 0 l).length w := by
  intro L J Jx W hW hJ hJx hY h0
  generalize hD : placesAt 0 l = D at *
  have hlen : ∀ xs : List (Fin D.length), (xs.map (fun x => atN D x.val)).length = xs.length := fun xs => List.length_map ..
  have main := all1P_in n hn L n0 w.heap.size Bn v l k hck (by rw [hD]; exact hN) (fun pre W => ∃ xs : List (Fin D.length), pre = xs.map (fun x => atN D x.val) ∧ J xs W) (fun pre W => ∃ xs : List (Fin D.length), pre = xs.map (fun x => atN D x.val) ∧ Jx xs W)
    (fun s A B ⟨xs, e, h⟩ hg => ⟨xs, e, hJ xs A B none h hg (fun r e => by cases e)⟩)
    (by
      rintro pre x W1 ⟨xs, rfl, h⟩ hp
      rw [hD] at hp
      obtain ⟨h1, h2⟩ := prefix_at hp
      rw [hlen] at h1 h2
      subst h2
      have hy := hY xs ⟨xs.length, h1⟩ W1 h h1
      obtain ⟨fn, tmps, assign, body, hyy, hR⟩ := hy
      refine ⟨fn, tmps, assign, body, hyy, hR.mono ?_⟩
      rintro e W' (⟨e1, e2, e3⟩ | ⟨e1, e2⟩)
      · exact .inl ⟨e1, ⟨xs ++ [⟨xs.length, h1⟩], by simp [List.map_append], e2⟩, e3⟩
      · exact .inr ⟨e1, ⟨xs ++ [⟨xs.length, h1⟩], by simp [List.map_append], e2⟩⟩)
    W (hS.keep (KeepR.of_below hW (Nat.le_refl _))) ⟨[], rfl, h0⟩
  refine main.mono ?_
  rintro e W' ⟨hv, ⟨ys, rfl, xs, e1, hj⟩ | ⟨pre, -, xs, -, hj⟩⟩
  · refine ⟨hv, .inl ⟨xs, ?_, hj⟩⟩
    rw [hD] at e1
    have hl := congrArg List.length e1
    rw [numd_length, hlen] at hl
    refine List.ext_getElem (by rw [List.length_map, List.length_range]; exact hl.symm) ?_
    intro i h1 h2
    rw [List.length_map] at h1
    have h3 := numd_getElem? D i (by omega)
    rw [e1, List.getElem?_map, List.getElem?_eq_getElem h1] at h3
    have h4 := Option.some.inj h3
    have h5 := congrArg Prod.fst h4
    simp only [atN] at h5
    rw [List.getElem_map, List.getElem_range]
    omega
  · exact ⟨hv, .inr ⟨xs, trivial, hj⟩⟩
end Go.Proofs.Ytacgeafjilipdaa.P
namespace Go.Proofs.Ytacgeafjilipdaa.P
open Go
set_option linter.unusedVariables false
set_option linter.unusedSimpArgs false
theorem count_set (l : Array Bool) (i : Nat) (h : l.getD i true = false) : (l.setIfInBounds i true).toList.count false + 1 = l.toList.count false := by
  have hlt : i < l.size := by
    rcases Nat.lt_or_ge i l.size with h1 | h1
    · exact h1
    · rw [Array.getD_eq_getD_getElem?, Array.getElem?_eq_none h1] at h; cases h
  have hv : l.toList[i]'(by simpa using hlt) = false := by
    rw [Array.getD_eq_getD_getElem?, Array.getElem?_eq_getElem hlt] at h; simpa using h
  rw [Array.toList_setIfInBounds]
  have key : ∀ (xs : List Bool) (i : Nat) (hi : i < xs.length), xs[i] = false → (xs.set i true).count false + 1 = xs.count false := by
    intro xs
    induction xs with
    | nil => intro i hi; simp at hi
    | cons x xs ih =>
      intro i hi hx
      cases i with
      | zero => simp only [List.getElem_cons_zero] at hx; subst hx; simp
      | succ i =>
        simp only [List.getElem_cons_succ] at hx
        have := ih i (by simpa using hi) hx
        simp only [List.set_cons_succ, List.count_cons]
        omega
  exact key _ _ (by simpa using hlt) hv
theorem wpAnyIn_held {F : Fence} {n : Nat} {P : Program} {md : Region.Mode} {ops : Array Oper} {Q : Exit → Act → World → Prop} (St : Array Bool → Act → World → Prop)
    (hstep : ∀ (i : Nat) (listed : Array Bool) (a : Act) (w : World), St listed a w → listed.getD i true = false → (∀ o, ops[i]? = some o → ∀ e ∈ o.after, Region.binds md e = true → listed.getD e.on false = true) → i < ops.size →
      wpOpIn F n P ops Q i (fun a' w' => St (listed.setIfInBounds i true) a' w') a w)
    (hdone : ∀ (listed : Array Bool) (a : Act) (w : World), St listed a w → Region.ready md ops listed = [] → Q .normal a w) :
    ∀ (fuel : Nat) (listed : Array Bool) (a : Act) (w : World), listed.toList.count false ≤ fuel → St listed a w → wpAnyIn F n P md ops Q fuel listed a w := by
  intro fuel
  induction fuel with
  | zero =>
    intro listed a w hc h
    have hr : Region.ready md ops listed = [] := by
      rw [List.eq_nil_iff_forall_not_mem]
      intro i hi
      have := count_set listed i (mem_ready.1 hi).1
      omega
    exact ⟨hr, hdone _ _ _ h hr⟩
  | succ fuel ih =>
    intro listed a w hc h
    refine ⟨hdone _ _ _ h, fun i hi => ?_⟩
    obtain ⟨h1, o, ho, h2⟩ := mem_ready.1 hi
    have hcs := count_set listed i h1
    exact wpOpIn_mono (fun a' w' h' => ih _ a' w' (by omega) h') (hstep i listed a w h h1 (fun o' ho' => by rw [ho] at ho'; cases ho'; exact h2) ((Array.getElem?_eq_some_iff.1 ho).1))
structure HeldAt (a0 : Act) (s0 nv : Nat) (val : Nat → Value) (Wf : Array Bool → World) (listed : Array Bool) (a : Act) (w : World) : Prop where
  sz : a.tmps.size = a0.tmps.size
  fix : ∀ d, d < s0 → a.eval (.tmp d) = a0.eval (.tmp d)
  got : ∀ i, i < nv → listed.getD i false = true → a.eval (.tmp (s0 + i)) = val i
  wd : w = Wf listed
theorem getD_set_of (l : Array Bool) (i j : Nat) (h : (l.setIfInBounds i true).getD j false = true) : j = i ∨ l.getD j false = true := by
  by_cases e : j = i
  · exact .inl e
  · refine .inr ?_
    rw [Array.getD_eq_getD_getElem?, Array.getElem?_setIfInBounds_ne (fun x => e x.symm)] at h
    rwa [Array.getD_eq_getD_getElem?]
theorem HeldAt.put {a0 : Act} {s0 nv : Nat} {val : Nat → Value} {Wf : Array Bool → World} {listed : Array Bool} {a : Act} {w : World} (h : HeldAt a0 s0 nv val Wf listed a w) (i : Nat) (hi : i < nv) (hs : s0 + nv ≤ a0.tmps.size)
    (hw : Wf (listed.setIfInBounds i true) = Wf listed) : HeldAt a0 s0 nv val Wf (listed.setIfInBounds i true) (a.put (some (s0 + i)) (val i)) w := by
  have hlt : s0 + i < a.tmps.size := by rw [h.sz]; omega
  refine ⟨by simpa [Act.put] using h.sz, fun d hd => ?_, fun j hj hl => ?_, by rw [hw]; exact h.wd⟩
  · rw [Act.eval_put_ne _ _ _ _ (by omega)]; exact h.fix d hd
  · by_cases e : j = i
    · subst e; exact Act.eval_put_same _ _ _ hlt
    · rw [Act.eval_put_ne _ _ _ _ (by omega)]
      rcases getD_set_of _ _ _ hl with h1 | h1
      · exact absurd h1 e
      · exact h.got j hj h1
theorem HeldAt.put_ {a0 : Act} {s0 nv : Nat} {val : Nat → Value} {Wf : Array Bool → World} {listed : Array Bool} {a : Act} {w : World} (h : HeldAt a0 s0 nv val Wf listed a w) (i : Nat) (hi : i < nv) (hs : s0 + nv ≤ a0.tmps.size)
    (hw : Wf (listed.setIfInBounds i true) = Wf listed) {v : Value} (hv : v = val i) : HeldAt a0 s0 nv val Wf (listed.setIfInBounds i true) (a.put (some (s0 + i)) v) w := hv ▸ h.put i hi hs hw
theorem HeldAt.store {a0 : Act} {s0 nv : Nat} {val : Nat → Value} {Wf : Array Bool → World} {listed : Array Bool} {a : Act} {w w' : World} (h : HeldAt a0 s0 nv val Wf listed a w) (i : Nat) (hi : nv ≤ i) (hw : w' = Wf (listed.setIfInBounds i true)) :
    HeldAt a0 s0 nv val Wf (listed.setIfInBounds i true) (a.put none undef) w' := by
  refine ⟨h.sz, h.fix, fun j hj hl => ?_, hw⟩
  rcases getD_set_of _ _ _ hl with h1 | h1
  · omega
  · exact h.got j hj h1
theorem getD_set_self (l : Array Bool) (i : Nat) (d : Bool) (h : i < l.size) : (l.setIfInBounds i true).getD i d = true := by
  rw [Array.getD_eq_getD_getElem?, Array.getElem?_setIfInBounds_self_of_lt h]; rfl
theorem getD_set_mono (l : Array Bool) (i j : Nat) (h : l.getD j false = true) : (l.setIfInBounds i true).getD j false = true := by
  have hj : j < l.size := by
    rcases Nat.lt_or_ge j l.size with h1 | h1
    · exact h1
    · rw [Array.getD_eq_getD_getElem?, Array.getElem?_eq_none h1] at h; cases h
  by_cases e : i = j
  · subst e; exact getD_set_self l i false hj
  · rw [Array.getD_eq_getD_getElem?, Array.getElem?_setIfInBounds_ne e, ← Array.getD_eq_getD_getElem?]; exact h
theorem getD_set_ne' (l : Array Bool) (i j : Nat) (d : Bool) (e : i ≠ j) : (l.setIfInBounds i true).getD j d = l.getD j d := by
  rw [Array.getD_eq_getD_getElem?, Array.getElem?_setIfInBounds_ne e, ← Array.getD_eq_getD_getElem?]
theorem getD_tf (l : Array Bool) (i : Nat) (h : i < l.size) : l.getD i true = l.getD i false := by
  rw [Array.getD_eq_getD_getElem?, Array.getD_eq_getD_getElem?, Array.getElem?_eq_getElem h]; rfl
theorem ready_all {md : Region.Mode} {ops : Array Oper} {listed : Array Bool} (hs : listed.size = ops.size) (hd : (ops.toList.zipIdx.all fun p => p.1.after.all fun e => decide (e.on < p.2)) = true) (h : Region.ready md ops listed = []) : ∀ i, i < ops.size → listed.getD i true = true := by
  intro i
  induction i using Nat.strongRecOn with
  | ind i ih =>
    intro hi
    cases hq : listed.getD i true with
    | true => rfl
    | false =>
      have ho : ops[i]? = some ops[i] := Array.getElem?_eq_getElem hi
      have hm : i ∈ Region.ready md ops listed := mem_ready.2 ⟨hq, _, ho, fun e he _ => by
        have h1 := List.all_eq_true.1 hd (ops[i], i) (by rw [List.mem_iff_getElem?]; exact ⟨i, by rw [List.getElem?_zipIdx]; simp [hi]⟩)
        have h2 := Array.all_eq_true_iff_forall_mem.1 h1 e he
        have h3 := ih e.on (of_decide_eq_true h2) (by have := of_decide_eq_true h2; omega)
        rw [getD_tf _ _ (by have := of_decide_eq_true h2; omega)] at h3
        exact h3⟩
      rw [h] at hm; cases hm
end Go.Proofs.Ytacgeafjilipdaa.P
namespace Go.Proofs.Ytacgeafjilipdaa.P
open Go.RowKit Go.Shelf Go.Proofs.YtacgeafjilipdaaW.PrintWords Go.Proofs.YtacgeafjilipdaaW.PrintLast Go.Proofs.YtacgeafjilipdaaW.PrintMore
set_option linter.unusedVariables false
set_option linter.unusedSimpArgs false
attribute [local go_sem] Oper.semAt_some
def fStep (l : List Pu) (D : List Int) (s : List Int × Nat) (k : Nat) : List Int × Nat :=
  if s.2 < l.length ∧ (l.getD s.2 ⟨0, 0⟩).f0 = D.getD k 0 then (s.1.set k (l.getD s.2 ⟨0, 0⟩).f1, s.2 + 1) else s
def fSt (l : List Pu) (D : List Int) (xs : List Nat) : List Int × Nat := xs.foldl (fStep l D) (List.replicate D.length 0, 0)
theorem fSt_snoc (l : List Pu) (D : List Int) (xs : List Nat) (k : Nat) : fSt l D (xs ++ [k]) = fStep l D (fSt l D xs) k := by unfold fSt; rw [List.foldl_append]; rfl
theorem fSt_ok (l : List Pu) (D : List Int) (xs : List Nat) : (fSt l D xs).1.length = D.length ∧ (fSt l D xs).2 ≤ l.length := by
  have : ∀ (xs : List Nat) (s : List Int × Nat), s.2 ≤ l.length → (xs.foldl (fStep l D) s).1.length = s.1.length ∧ (xs.foldl (fStep l D) s).2 ≤ l.length := by
    intro xs
    induction xs with
    | nil => intro s hs; exact ⟨rfl, hs⟩
    | cons k xs ih =>
      intro s hs
      rw [List.foldl_cons]
      have h1 : (fStep l D s k).1.length = s.1.length ∧ (fStep l D s k).2 ≤ l.length := by
        unfold fStep
        split
        · rename_i h; exact ⟨by simp, h.1⟩
        · exact ⟨rfl, hs⟩
      have := ih _ h1.2
      exact ⟨by rw [this.1, h1.1], this.2⟩
  have h := this xs (List.replicate D.length 0, 0) (Nat.zero_le _)
  exact ⟨by rw [fSt, h.1]; simp, h.2⟩
def spreadF (l : List Pu) (on : List Sp) : List Int × Bool := ((fSt l (plN 0 on) (List.range (plN 0 on).length)).1, decide ((fSt l (plN 0 on) (List.range (plN 0 on).length)).2 = l.length))
theorem run_make_blk {P : Program} (t e : TypeId) (i : TypeInfo) (z : Value) (h1 : P.underlying t = some (.slice e)) (h2 : P.info? e = some i) (h3 : i.zero = some z) (h4 : i.size = 1) (h5 : z.cells = #[z])
    (m : Nat) (b2 : (i.bytes : Int) * m ≤ 281474976710656) (b3 : (m : Int) ≤ 9223372036854775807) (w : World) :
    (Instr.makeSlice t (.int .i64 m) (.int .i64 m)).run P w = .ok (.slice (some ⟨w.heap.size, 0, none⟩) m m) (w.alloc (.cells (List.replicate m z).toArray e)) := by
  have hrun := run_make (P := P) w t e i z h1 h2 h3 .i64 .i64 m m (by omega) (Int.le_refl _) b2 b3
  rw [h4, h5, Nat.mul_one, Int.toNat_natCast] at hrun
  have hm : madeCells #[z] m = (List.replicate m z).toArray := by rw [← toList_madeCells_one z m]
  rw [hm] at hrun
  exact hrun
theorem keepR_set {n0 n1 B i : Nat} (W : World) (hB : B < n0) (u : Value) : KeepR n0 n1 W (W.setCell ⟨B, i, none⟩ u) :=
  ⟨by simp [World.setCell], fun q h0 h1 => Below.heap_setCell W ⟨B, i, none⟩ u q (by show q ≠ B; omega)⟩
theorem boxed_far {W : World} {b g i : Nat} {t : TypeId} {v : Value} (h : Boxed W b t v) (hne : b ≠ g) (u : Value) : Boxed (W.setCell ⟨g, i, none⟩ u) b t v := blk_far h hne u
theorem putObj_far {W : World} {b D : Nat} {o : Obj} {x : Obj} (hne : b ≠ D) (h : W.heap[b]? = some x) : (W.putObj D o).heap[b]? = some x := by
  simp only [World.putObj]
  rw [Array.getElem?_setIfInBounds_ne (fun e => hne e.symm)]
  exact h
theorem World.grownBy_set (W : World) (b i : Nat) (v : Value) : W.grownBy (W.setCell ⟨b, i, none⟩ v) (some b) :=
  ⟨rfl, rfl, rfl, by simp [World.setCell], fun k _ hk => Below.heap_setCell W ⟨b, i, none⟩ v k (fun e => hk (by rw [e]))⟩
def SpI (w : World) (b0 bo g n1 : Nat) (l : List Pu) (D : List Int) (xs : List Nat) (W : World) : Prop :=
  ((∃ (A : Option Addr) (c : Nat), Boxed W b0 119 (.slice A (l.drop (fSt l D xs).2).length c) ∧ Kd.C kPu w A (l.drop (fSt l D xs).2).length (l.drop (fSt l D xs).2) ∧ (l.drop (fSt l D xs).2).length ≤ c) ∧
    Boxed W bo 77 (.slice (some ⟨g, 0, none⟩) D.length D.length) ∧ W.heap[g]? = some (.cells ((fSt l D xs).1.map (Value.int .u64)).toArray 62 (0, 0))) ∧ (Below w.heap.size w W ∧ n1 ≤ W.heap.size)
theorem SpI.own (w : World) (b0 bo g n1 : Nat) (l : List Pu) (D : List Int) (hn : w.heap.size ≤ n1) : OwnFrom n1 (fun (xs : List (Fin D.length)) W => SpI w b0 bo g n1 l D (xs.map (·.val)) W) := by
  intro xs W W' row h hg hr
  obtain ⟨⟨⟨A, c, h1, h2, h3⟩, h4, h5⟩, h6, h7⟩ := h
  have hb : ∀ {q : Nat} {o : Obj}, W.heap[q]? = some o → o.isCells = true → W'.heap[q]? = some o := fun {q o} h hc => by
    refine (hg.block q (blk_lt h) (fun e => ?_)).trans h
    obtain ⟨-, o', e1, e2⟩ := hr q e.symm
    rw [h] at e1; cases e1; rw [hc] at e2; cases e2
  exact ⟨⟨⟨A, c, hb h1 rfl, h2, h3⟩, hb h4 rfl, hb h5 rfl⟩, h6.grown hg (Nat.le_trans (Nat.le_refl _) h6.size) (fun k e => Nat.le_trans hn (hr k e).1), Nat.le_trans h7 hg.size⟩
set_option maxRecDepth 100000 in
set_option maxHeartbeats 8000000 in
theorem fspread_c (l : List Pu) (on : List Sp) (hw : wfSps on) (hck : spCheck on = 0) (hm : l.length ≤ 4096) (w : World) (u v : Value) (hu : SI kPu w u l) (hv : SI kSp w v on) : Calls Try.prog 164 #[u, v] w fun e w' =>
    ∃ v0 : Value, e = .returned (.tuple #[v0, .bool (spreadF l on).2]) ∧ FI (Kd.int .u64) w.heap.size w' v0 (spreadF l on).1 ∧ Below w.heap.size w w' := by
  obtain ⟨A0, c0, rfl, hc0, hr0⟩ := hu
  obtain ⟨A1, c1, rfl, hc1, hr1⟩ := hv
  have hlen := places_len hck
  have hpl : placesAt 0 on = plN 0 on := placesAt_plN on _ _ _ (spCheck_zero hck).2
  have hon : on.length ≤ 1024 := (spCheck_zero hck).1
  have HCk := check_eq on hw 3000 (by omega)
  rw [hck] at HCk
  have hct := spCount_c on hw hck
  have hcn : cntN on = ((plN 0 on).length : Int) := (plN_length on 0 (fun s hs => (spRight_pos on _ _ _ (spCheck_zero hck).2 s hs).1)).symm
  rw [hcn] at hct
  refine (callsIn_wide (n := 5)).1 ?_
  have hf1 : Fence.wide.fn 173 := trivial
  have hf2 : Fence.wide.fn 187 := trivial
  have hpu := Try.underlying123
  have HR1 := Aside0.mk (And.intro hr1 hc1)
  have HR0 := Aside0.mk (And.intro hr0 hc0)
  have HM := Aside0.mk (And.intro hm (And.intro hon (And.intro hlen hpl)))
  have HCK := Aside0.mk HCk
  have HCT := Aside0.mk hct
  unfold spreadF
  generalize hD : plN 0 on = D at *
  have HD := Aside0.mk hD
  obtain ⟨i0, hi, hz0, hz1, hz2⟩ := info_parts info62
  have hmk := run_make_blk (P := Try.prog) 77 62 i0 (.int .u64 0) Try.underlying77 hi hz0 hz1 rfl D.length (by rw [hz2]; omega) (by omega)
  clear hr0 hr1 hc0 hc1 hm hon hlen hpl HCk hw hck hct hcn hD
  refine callsIn_of_wp_marks Try.func164 rfl trivial ?_ rfl
  simp only [Try.ntmps164, List.size_toArray, List.length_cons, List.length_nil, Nat.reduceAdd, Nat.reduceSub, Array.replicate_succ, Array.replicate_zero, List.push_toArray, List.append_toArray, List.nil_append, List.cons_append]
  gi_wp2_with (first | (gi_at_call 187; refine (callsIn_wide.2 (HCT.out _ _ (.of (Kd.C_below HR1.out.1 (below_alloc (Below.refl _ _) _)) HR1.out.2))).mono ?_; rintro e w1 ⟨rfl, hb⟩; have HB1 := Aside0.mk hb; clear hb) | (gi_at_call 173; refine (all_in _ (by omega) A1 c1 on _ (Kd.C_below HR1.out.1 (below_then (below_then (below_alloc (Below.refl _ _) _) (by simp) HB1.out) (by have := HB1.out.size; simp at this; omega) (below_alloc (below_alloc (Below.refl _ _) _) _))) HR1.out.2 (by have := HM.out.2.1; omega)).mono ?_; rintro e w2 ⟨Bn, vv, rfl, hS, hb2⟩; have HS := Aside0.mk hS; have HB2 := Aside0.mk hb2; clear hS hb2))
  clear hmk
  have hsz : w.heap.size + 1 ≤ w1.heap.size := by have := HB1.out.size; simpa using this
  have hB1 : Below w.heap.size w w1 := below_then (below_alloc (Below.refl _ _) _) (by simp) HB1.out
  have g0 : Boxed w1 w.heap.size 119 (.slice A0 l.length c0) := boxed_below (Boxed.new w _ _) HB1.out
  generalize hwa : w1.alloc (Obj.cells (Array.replicate D.length (Value.int .u64 0)) 62) = wa at *
  have hwas : wa.heap.size = w1.heap.size + 1 := by rw [← hwa]; simp
  have g0a : Boxed wa w.heap.size 119 (.slice A0 l.length c0) := by rw [← hwa]; exact g0.alloc _
  have g1a : wa.heap[w1.heap.size]? = some (.cells (Array.replicate D.length (Value.int .u64 0)) 62 (0, 0)) := by rw [← hwa]; exact blk_new w1 _
  have hBa : Below w.heap.size w wa := by rw [← hwa]; exact below_alloc hB1 _
  have g2a : Boxed (wa.alloc (.cells #[.slice (some ⟨w1.heap.size, 0, none⟩) D.length D.length] 77)) (w1.heap.size + 1) 77 (.slice (some ⟨w1.heap.size, 0, none⟩) D.length D.length) := box_new hwas _ _
  have hBW : Below w.heap.size w w2 := below_then (below_alloc hBa _) (by simp; omega) HB2.out
  have g0 : Boxed w2 w.heap.size 119 (.slice A0 l.length c0) := boxed_below (g0a.alloc _) HB2.out
  have g1 : w2.heap[w1.heap.size]? = some (.cells (Array.replicate D.length (Value.int .u64 0)) 62 (0, 0)) := blk_below (blk_alloc g1a _) HB2.out
  have g2 : Boxed w2 (w1.heap.size + 1) 77 (.slice (some ⟨w1.heap.size, 0, none⟩) D.length D.length) := boxed_below g2a HB2.out
  have hw2 : w1.heap.size + 1 + 1 ≤ w2.heap.size := by have := HB2.out.size; simp [hwas] at this; omega
  have hS2 : HoldsSp (w1.heap.size + 1 + 1) w2.heap.size Bn vv on w2 := by have := HS.out; simpa [hwas] using this
  have hseq := all_stopsN 4 (by omega) (w1.heap.size + 1 + 1) Bn vv on 3000 HCK.out (by have := HM.out.2.2.1; rw [HM.out.2.2.2]; omega) w2 hS2
  rw [HM.out.2.2.2] at hseq
  clear g0a g1a g2a hBa hwa hwas HS
  refine wpIn_rangeFunc_ownG rfl (by omega) (gf := 190) (lb := #[.pointer (some ⟨Bn, 0, none⟩)]) rfl trivial (enters_of Try.func190 (by kernel_rfl) rfl)
    hseq KeepR.trans (KeepR.put (Nat.le_refl _)) (Below.refl _ _) (fun _ => rfl)
    (fun (xs : List (Fin D.length)) W => SpI w w.heap.size (w1.heap.size + 1) w1.heap.size w2.heap.size l D (xs.map (·.val)) W)
    (fun _ _ _ => False) (SpI.own _ _ _ _ _ _ _ (by omega)) (fun _ _ _ _ _ hs _ _ => hs)
    ⟨⟨⟨A0, c0, by simpa [fSt] using g0, by simpa [fSt] using HR0.out.1, by simpa [fSt] using HR0.out.2⟩, g2, by simpa [fSt] using g1⟩, hBW, Nat.le_refl _⟩
    (fun x => { tmps := #[.slice A0 l.length c0, .slice A1 on.length c1, .pointer (some ⟨w.heap.size, 0, none⟩), undef, .slice none 0 0, .bool false, .pointer (some ⟨w1.heap.size + 1, 0, none⟩), .int .i64 (x.val : Int), .int .i64 (D.getD x.val 0), .slice A1 on.length c1, .int .i64 (D.length : Int), .slice (some ⟨w1.heap.size, 0, none⟩) D.length D.length, .slice A1 on.length c1, .func (.func 190) #[] #[.pointer (some ⟨Bn, 0, none⟩)], .int .i64 (x.val : Int), .int .i64 (D.getD x.val 0), undef, undef, undef, undef, undef, undef, undef, undef, undef, undef, undef, undef, undef, undef, undef, undef, undef, undef, undef, undef, undef, undef, undef, undef], defers := [] }) ?assign ?body ?done ?stop
  case assign =>
    intro l x W K hK
    gi_wp2
    first | exact hK | simpa using hK
  case body =>
    rintro lo pre x W ⟨⟨⟨A, c, h1, h2, h3⟩, h4, h5⟩, h6, h7⟩ hlt
    have HSN := Aside0.mk (fSt_snoc l D (pre.map (·.val)) x.val)
    have hok := fSt_ok l D (pre.map (·.val))
    have hmap : (pre ++ [x]).map (·.val) = pre.map (·.val) ++ [x.val] := by simp
    have HMP := Aside0.mk hmap
    generalize fSt l D (pre.map (·.val)) = s at h1 h2 h3 h5 HSN hok
    obtain ⟨o, k⟩ := s
    simp only at h1 h2 h3 h5 hok
    obtain ⟨ho, hkl⟩ := hok
    clear hmap g0 g1 g2 hBW hS2 hseq
    have hxl := x.isLt
    have hx0 : (0 : Int) ≤ (x.val : Int) := by omega
    have hx1 : (x.val : Int) < (D.length : Int) := by omega
    have HPP := Aside0.mk (show ∀ z, D.getD x.val 0 = z → fStep l D (o, k) x.val = if k < l.length ∧ (l.getD k ⟨0, 0⟩).f0 = z then (o.set x.val (l.getD k ⟨0, 0⟩).f1, k + 1) else (o, k) from fun z e => by subst e; rfl)
    generalize hpp : D.getD x.val 0 = p
    have HPE := Aside0.mk hpp
    clear hpp
    by_cases hk : k < l.length
    · rw [drop_at hk] at h1 h2 h3
      have hd1 := drop_at hk
      have HG := Aside0.mk (show l.getD k ⟨0, 0⟩ = l[k] by simp [List.getD, hk])
      generalize l[k] = y at h1 h2 h3 HG hd1
      have HRD := Aside0.mk hd1
      have hq2 := h2
      obtain ⟨ad, e1, hy0, hy1⟩ := at_T123 (Kd.C_below h2 h6) 0 (by omega) (by simp)
      subst e1
      obtain ⟨ad', e1', -, hyw1⟩ := at_T123 hq2 0 (by omega) (by simp)
      cases e1'
      clear hq2
      rw [show rd_T123 (y :: l.drop (k + 1)) 0 = y from rfl] at hyw1
      simp only [Int.toNat_zero, Nat.zero_mul] at hyw1
      (try rw [Addr.add_zero'] at hyw1)
      rw [show rd_T123 (y :: l.drop (k + 1)) 0 = y from rfl] at hy0 hy1
      simp only [Int.toNat_zero, Nat.zero_mul] at hy0 hy1
      (try rw [Addr.add_zero'] at hy0)
      (try rw [Addr.add_zero'] at hy1)
      have HC := Aside0.mk (And.intro h2 h3)
      generalize hml : (y :: l.drop (k + 1)).length = m at *
      have hm1 : m = (l.drop (k + 1)).length + 1 := by rw [← hml]; simp
      have hpos : (0 : Int) < (m : Int) := by omega
      have HB0 := Aside0.mk (And.intro h1 (And.intro h4 (And.intro h5 (And.intro h6 h7))))
      have hb0 := h1.cell
      have hz0 := h1.frozen
      have hb1 := h4.cell
      have HML := Aside0.mk hml
      have HM1 := Aside0.mk hm1
      obtain ⟨i1, hi1, _, hsz1, _⟩ := info_parts info123
      have hcut := cut_from (P := Try.prog) 119 123 .i64 Try.underlying119 hi1 2 hsz1 (some ad) m c 1 (by omega) (by omega)
      obtain ⟨Ad, hAd⟩ : ∃ A1 : Option Addr, A1 = (if c = (1 : Int).toNat then (some ad) else ((some ad) : Option Addr).map (·.add ((1 : Int).toNat * 2))) := ⟨_, rfl⟩
      rw [← hAd] at hcut
      have HAD := Aside0.mk hAd
      obtain ⟨m', hm'⟩ : ∃ m', m' = m - (1 : Int).toNat := ⟨_, rfl⟩
      obtain ⟨c', hc'⟩ : ∃ c', c' = c - (1 : Int).toNat := ⟨_, rfl⟩
      rw [← hm', ← hc'] at hcut
      have HMC := Aside0.mk (And.intro hm' hc')
      have hq1 : (1 : Int) ≤ (m : Int) := by omega
      have hgc : W.cell? ⟨w1.heap.size, x.val, none⟩ = some (.int .u64 (o[x.val]'(by omega))) := by rw [blk_cell h5 x.val]; simp [ho]
      have hgz := blk_frozen h5 x.val
      clear h1 h2 h3 h4 h5 h6 h7 hd1 hml hm1 hAd hm' hc' hi1 hsz1
      by_cases hp : y.f0 = p
      · have hpe : (y.f0 == p) = true := beq_iff_eq.2 hp
        clear hp
        gi_wp2
        refine wpIn_region_any (by kernel_rfl) ?_
        change wpAnyIn _ _ _ _ _ _ _ _ _ (World.drew _)
        obtain ⟨val, hval⟩ : ∃ val : Nat → Value, val = fun i => (#[Value.slice (some ⟨w1.heap.size, 0, none⟩) D.length D.length, .int .i64 (x.val : Int), .slice (some ad) m c, .pointer (some ad), .pointer (some (ad.add 1)), .int .u64 y.f1, .slice (some ad) m c, .slice Ad m' c', .pointer (some ⟨w1.heap.size, x.val, none⟩)] : Array Value).getD i undef := ⟨_, rfl⟩
        obtain ⟨Wf, hWf⟩ : ∃ Wf : Array Bool → World, Wf = fun l => if l.getD 10 false = true then ((W.drew.setCell ⟨w1.heap.size, x.val, none⟩ (.int .u64 y.f1)).setCell ⟨w.heap.size, 0, none⟩ (.slice Ad m' c')) else if l.getD 9 false = true then W.drew.setCell ⟨w1.heap.size, x.val, none⟩ (.int .u64 y.f1) else W.drew := ⟨_, rfl⟩
        obtain ⟨h1, h4, h5, h6, h7⟩ := HB0.out
        have hoN : w.heap.size ≤ w1.heap.size := by omega
        have hBl : ∀ lz, Below w.heap.size w (Wf lz) := fun lz => by
          rw [hWf]; simp only
          split
          · exact ((h6.drew).setCell (p := ⟨w1.heap.size, x.val, none⟩) (by show w.heap.size ≤ w1.heap.size; omega) _).setCell (p := ⟨w.heap.size, 0, none⟩) (Nat.le_refl _) _
          split
          · exact (h6.drew).setCell (p := ⟨w1.heap.size, x.val, none⟩) (by show w.heap.size ≤ w1.heap.size; omega) _
          · exact h6.drew
        have hBo : ∀ lz, Boxed (Wf lz) (w1.heap.size + 1) 77 (.slice (some ⟨w1.heap.size, 0, none⟩) D.length D.length) := fun lz => by
          rw [hWf]; simp only
          split
          · exact boxed_far (boxed_far (show Boxed W.drew _ _ _ from h4) (by omega) _) (by omega) _
          split
          · exact boxed_far (show Boxed W.drew _ _ _ from h4) (by omega) _
          · exact h4
        have hB0 : ∀ lz : Array Bool, lz.getD 10 false = false → Boxed (Wf lz) w.heap.size 119 (.slice (some ad) m c) := fun lz hz => by
          rw [hWf]; simp only
          rw [if_neg (by rw [hz]; simp)]
          split
          · exact boxed_far (show Boxed W.drew _ _ _ from h1) (by omega) _
          · exact h1
        have hBg : ∀ lz : Array Bool, lz.getD 10 false = false → lz.getD 9 false = false → (Wf lz).heap[w1.heap.size]? = some (.cells (o.map (Value.int .u64)).toArray 62 (0, 0)) := fun lz hz hz9 => by
          rw [hWf]; simp only
          rw [if_neg (by rw [hz]; simp), if_neg (by rw [hz9]; simp)]
          exact h5
        have HS := Aside0.mk (And.intro hBl (And.intro hBo (And.intro hB0 hBg)))
        have HYW := Aside0.mk hyw1
        have hsame : ∀ (lz : Array Bool) (i : Nat), i ≠ 9 → i ≠ 10 → Wf (lz.setIfInBounds i true) = Wf lz := fun lz i h9 h10 => by
          rw [hWf]; simp only
          rw [getD_set_ne' _ _ _ _ h9, getD_set_ne' _ _ _ _ h10]
        have HWS := Aside0.mk hsame
        have HWD := Aside0.mk hWf
        have HVD := Aside0.mk hval
        clear h1 h4 h5 h6 h7 hBl hBo hB0 hBg hsame hWf hval hb0 hz0 hb1 hgc hgz
        refine wpAnyIn_held (fun lz a w' => lz.size = 11 ∧ (lz.getD 10 false = true → ∀ j, j < 10 → lz.getD j false = true) ∧ HeldAt ({ tmps := #[.slice A0 l.length c0, .slice A1 on.length c1, .pointer (some ⟨w.heap.size, 0, none⟩), undef, .slice none 0 0, .bool false, .pointer (some ⟨w1.heap.size + 1, 0, none⟩), .int .i64 (x.val : Int), .int .i64 p, .slice A1 on.length c1, .int .i64 (D.length : Int), .slice (some ⟨w1.heap.size, 0, none⟩) D.length D.length, .slice A1 on.length c1, .func (.func 190) #[] #[.pointer (some ⟨Bn, 0, none⟩)], .int .i64 (x.val : Int), .int .i64 p, .slice (some ad) m c, .int .i64 (m : Int), .bool true, .bool true, .slice (some ad) m c, .pointer (some ad), .pointer (some ad), .int .i64 y.f0, .int .i64 p, .bool true, .bool true, undef, undef, undef, undef, undef, undef, undef, undef, undef, undef, undef, undef, undef], defers := [] }) 27 9 val Wf lz a w') ?stepR ?doneR _ _ _ _ (by simp) ⟨by simp, fun h => by simp at h, ⟨rfl, fun _ _ => rfl, fun i hi hl => ?_, by rw [HWD.out]; simp⟩⟩
        case stepR =>
          rintro i lz a w' ⟨hsz, h10, hS⟩ hl hd hi
          have hi11 : i < 11 := by simpa using hi
          clear hi
          obtain rfl := hS.wd
          have hlf : lz.getD i false = false := by rw [← getD_tf _ _ (by omega)]; exact hl
          have n10 : i ≠ 10 → lz.getD 10 false = false := fun hne => by
            cases hq : lz.getD 10 false with
            | false => rfl
            | true => have := h10 hq i (by omega); rw [hlf] at this; cases this
          have N10 := Aside0.mk n10
          have H10 := Aside0.mk h10
          have HH := Aside0.mk hS
          clear n10 h10 hl
          obtain h | h | h | h | h | h | h | h | h | h | h : i = 0 ∨ i = 1 ∨ i = 2 ∨ i = 3 ∨ i = 4 ∨ i = 5 ∨ i = 6 ∨ i = 7 ∨ i = 8 ∨ i = 9 ∨ i = 10 := by omega
          all_goals subst h
          · have e6 := hS.fix 6 (by omega)
            simp only [Act.eval] at e6
            have hc := (HS.out.2.1 lz).cell
            refine wpOpIn_step rfl (fun K hK => ?_)
            clear hd hS
            go_simp
            refine hK _ _ ⟨by simpa using hsz, fun h => absurd h (by rw [getD_set_ne' _ _ _ _ (by omega), N10.out (by omega)]; simp), ?_⟩
            exact HH.out.put_ 0 (by omega) (by simp) (HWS.out _ _ (by omega) (by omega)) (by rw [HVD.out]; rfl)
          · have e7 := hS.fix 7 (by omega)
            simp only [Act.eval] at e7
            refine wpOpIn_step rfl (fun K hK => ?_)
            clear hd hS
            go_simp
            refine hK _ _ ⟨by simpa using hsz, fun h => absurd h (by rw [getD_set_ne' _ _ _ _ (by omega), N10.out (by omega)]; simp), ?_⟩
            exact HH.out.put_ 1 (by omega) (by simp) (HWS.out _ _ (by omega) (by omega)) (by rw [HVD.out]; rfl)
          · have e2 := hS.fix 2 (by omega)
            simp only [Act.eval] at e2
            have hc := (HS.out.2.2.1 lz (N10.out (by omega))).cell
            refine wpOpIn_step rfl (fun K hK => ?_)
            clear hd hS
            go_simp
            refine hK _ _ ⟨by simpa using hsz, fun h => absurd h (by rw [getD_set_ne' _ _ _ _ (by omega), N10.out (by omega)]; simp), ?_⟩
            exact HH.out.put_ 2 (by omega) (by simp) (HWS.out _ _ (by omega) (by omega)) (by rw [HVD.out]; rfl)
          · have d2 : a.eval (.tmp (27 + 2)) = val 2 := hS.got 2 (by omega) (hd _ rfl ⟨2, .data⟩ (by simp) (by kernel_rfl))
            rw [HVD.out] at d2
            simp [Act.eval] at d2
            refine wpOpIn_step rfl (fun K hK => ?_)
            clear hd hS
            go_simp
            refine hK _ _ ⟨by simpa using hsz, fun h => absurd h (by rw [getD_set_ne' _ _ _ _ (by omega), N10.out (by omega)]; simp), ?_⟩
            exact HH.out.put_ 3 (by omega) (by simp) (HWS.out _ _ (by omega) (by omega)) (by rw [HVD.out]; rfl)
          · have d3 : a.eval (.tmp (27 + 3)) = val 3 := hS.got 3 (by omega) (hd _ rfl ⟨3, .data⟩ (by simp) (by kernel_rfl))
            rw [HVD.out] at d3
            simp [Act.eval] at d3
            refine wpOpIn_step rfl (fun K hK => ?_)
            clear hd hS
            go_simp
            refine hK _ _ ⟨by simpa using hsz, fun h => absurd h (by rw [getD_set_ne' _ _ _ _ (by omega), N10.out (by omega)]; simp), ?_⟩
            exact HH.out.put_ 4 (by omega) (by simp) (HWS.out _ _ (by omega) (by omega)) (by rw [HVD.out]; rfl)
          · have d4 : a.eval (.tmp (27 + 4)) = val 4 := hS.got 4 (by omega) (hd _ rfl ⟨4, .data⟩ (by simp) (by kernel_rfl))
            rw [HVD.out] at d4
            simp [Act.eval] at d4
            have hc := ((HS.out.1 lz).cell (World.block_lt_of_cell? w _ HYW.out)).trans HYW.out
            refine wpOpIn_step rfl (fun K hK => ?_)
            clear hd hS
            go_simp
            refine hK _ _ ⟨by simpa using hsz, fun h => absurd h (by rw [getD_set_ne' _ _ _ _ (by omega), N10.out (by omega)]; simp), ?_⟩
            exact HH.out.put_ 5 (by omega) (by simp) (HWS.out _ _ (by omega) (by omega)) (by rw [HVD.out]; rfl)
          · have e2 := hS.fix 2 (by omega)
            simp only [Act.eval] at e2
            have hc := (HS.out.2.2.1 lz (N10.out (by omega))).cell
            refine wpOpIn_step rfl (fun K hK => ?_)
            clear hd hS
            go_simp
            refine hK _ _ ⟨by simpa using hsz, fun h => absurd h (by rw [getD_set_ne' _ _ _ _ (by omega), N10.out (by omega)]; simp), ?_⟩
            exact HH.out.put_ 6 (by omega) (by simp) (HWS.out _ _ (by omega) (by omega)) (by rw [HVD.out]; rfl)
          · have d6 : a.eval (.tmp (27 + 6)) = val 6 := hS.got 6 (by omega) (hd _ rfl ⟨6, .data⟩ (by simp) (by kernel_rfl))
            rw [HVD.out] at d6
            simp [Act.eval] at d6
            refine wpOpIn_step rfl (fun K hK => ?_)
            clear hd hS
            go_simp
            refine hK _ _ ⟨by simpa using hsz, fun h => absurd h (by rw [getD_set_ne' _ _ _ _ (by omega), N10.out (by omega)]; simp), ?_⟩
            exact HH.out.put_ 7 (by omega) (by simp) (HWS.out _ _ (by omega) (by omega)) (by rw [HVD.out]; rfl)
          · have d0 : a.eval (.tmp (27 + 0)) = val 0 := hS.got 0 (by omega) (hd _ rfl ⟨0, .data⟩ (by simp) (by kernel_rfl))
            rw [HVD.out] at d0
            simp [Act.eval] at d0
            have d1 : a.eval (.tmp (27 + 1)) = val 1 := hS.got 1 (by omega) (hd _ rfl ⟨1, .data⟩ (by simp) (by kernel_rfl))
            rw [HVD.out] at d1
            simp [Act.eval] at d1
            refine wpOpIn_step rfl (fun K hK => ?_)
            clear hd hS
            go_simp
            refine hK _ _ ⟨by simpa using hsz, fun h => absurd h (by rw [getD_set_ne' _ _ _ _ (by omega), N10.out (by omega)]; simp), ?_⟩
            exact HH.out.put_ 8 (by omega) (by simp) (HWS.out _ _ (by omega) (by omega)) (by rw [HVD.out]; rfl)
          · -- the store into the row
            have d8 : a.eval (.tmp (27 + 8)) = val 8 := hS.got 8 (by omega) (hd _ rfl ⟨8, .data⟩ (by simp) (by kernel_rfl))
            rw [HVD.out] at d8
            simp [Act.eval] at d8
            have d5 : a.eval (.tmp (27 + 5)) = val 5 := hS.got 5 (by omega) (hd _ rfl ⟨5, .data⟩ (by simp) (by kernel_rfl))
            rw [HVD.out] at d5
            simp [Act.eval] at d5
            have hbg := HS.out.2.2.2 lz (N10.out (by omega)) hlf
            have hgc : (Wf lz).cell? ⟨w1.heap.size, x.val, none⟩ = some (.int .u64 (o[x.val]'(by omega))) := by rw [blk_cell hbg x.val]; simp [ho]
            have hgz := blk_frozen hbg x.val
            refine wpOpIn_step rfl (fun K hK => ?_)
            clear hd hS hbg
            go_simp
            refine hK _ _ ⟨by simpa using hsz, fun h => absurd h (by rw [getD_set_ne' _ _ _ _ (by omega), N10.out (by omega)]; simp), HH.out.store 9 (by omega) ?_⟩
            have h10f := N10.out (by omega)
            rw [HWD.out]
            simp only
            rw [getD_set_ne' _ _ _ _ (by omega), h10f, hlf, getD_set_self _ _ _ (by omega)]
            simp
          · -- the store into the row's box
            have e2 := hS.fix 2 (by omega)
            simp only [Act.eval] at e2
            have d7 : a.eval (.tmp (27 + 7)) = val 7 := hS.got 7 (by omega) (hd _ rfl ⟨7, .data⟩ (by simp) (by kernel_rfl))
            rw [HVD.out] at d7
            simp [Act.eval] at d7
            have hb := HS.out.2.2.1 lz hlf
            have hc := hb.cell
            have hz := hb.frozen
            have h9 := hd _ rfl ⟨9, .chain⟩ (by simp) (by kernel_rfl)
            simp only at h9
            have hal : ∀ j, j < 10 → (lz.setIfInBounds 10 true).getD j false = true := fun j hj => by
              obtain h | h | h | h | h | h | h | h | h | h : j = 0 ∨ j = 1 ∨ j = 2 ∨ j = 3 ∨ j = 4 ∨ j = 5 ∨ j = 6 ∨ j = 7 ∨ j = 8 ∨ j = 9 := by omega
              all_goals subst h
              all_goals exact getD_set_mono _ _ _ (hd _ rfl ⟨_, .phase⟩ (by simp) (by kernel_rfl))
            have HAL := Aside0.mk hal
            refine wpOpIn_step rfl (fun K hK => ?_)
            clear hd hS hb hal
            go_simp
            refine hK _ _ ⟨by simpa using hsz, fun _ => HAL.out, HH.out.store 10 (by omega) ?_⟩
            rw [HWD.out]
            simp only
            rw [hlf, h9, getD_set_self _ _ _ (by omega)]
            simp
        case doneR =>
          rintro lz a w' ⟨hsz, h10, hS⟩ hr
          have hall := ready_all (by simpa using hsz) (by kernel_rfl) hr
          have l10 := hall 10 (by simp)
          rw [getD_tf _ _ (by omega)] at l10
          have hw' := hS.wd
          rw [HWD.out] at hw'
          simp only at hw'
          rw [if_pos l10] at hw'
          subst hw'
          obtain ⟨h1, h4, h5, h6, h7⟩ := HB0.out
          have HF : fSt l D ((pre ++ [x]).map (·.val)) = (o.set x.val y.f1, k + 1) := by rw [HMP.out, HSN.out, HPP.out p HPE.out, HG.out, if_pos ⟨hk, beq_iff_eq.1 hpe⟩]
          refine ⟨?_, ?_, ?_⟩
          · exact (((show KeepsFrom w2.heap.size W W.drew from ⟨Nat.le_refl _, fun k o _ hk _ => hk⟩).trans (KeepsFrom.of_grownBy (World.grownBy_set W.drew w1.heap.size x.val _) (fun j e => by cases e; omega))).trans (KeepsFrom.of_grownBy (World.grownBy_set _ w.heap.size 0 _) (fun j e => by cases e; omega)))
          · exact ((keepR_set _ (by omega) _ : KeepR _ _ W.drew _)).trans (keepR_set _ (by omega) _)
          · show SpI _ _ _ _ _ _ _ _ _
            unfold SpI
            rw [HF]
            simp only
            have hcd := Kd.C_drop (k := kPu) (m := 1) (c := c) (HML.out.symm ▸ HC.out.1) (by simp) (by rw [HML.out]; exact HC.out.2)
            have hme : (l.drop (k + 1)).length = m' := by have := HMC.out.1; have := HM1.out; simp at *; omega
            rw [hme]
            have hgb : ((W.drew.setCell ⟨w1.heap.size, x.val, none⟩ (.int .u64 y.f1)).setCell ⟨w.heap.size, 0, none⟩ (.slice Ad m' c')).heap[w1.heap.size]? = some (.cells (((o.map (Value.int .u64)).toArray).setIfInBounds x.val (.int .u64 y.f1)) 62 (0, 0)) := blk_far (blk_put (show W.drew.heap[w1.heap.size]? = _ from h5) x.val _ rfl) (by show w1.heap.size ≠ w.heap.size; omega) _
            have hcs : ((o.map (Value.int .u64)).toArray).setIfInBounds x.val (.int .u64 y.f1) = ((o.set x.val y.f1).map (Value.int .u64)).toArray := by simp [List.map_set]
            rw [hcs] at hgb
            refine ⟨⟨⟨Ad, c', Boxed.set _ (boxed_far (show Boxed W.drew _ _ _ from h1) (by omega) _), ?_, ?_⟩, boxed_far (boxed_far (show Boxed W.drew _ _ _ from h4) (by omega) _) (by omega) _, hgb⟩, ?_, ?_⟩
            · rw [HAD.out, ← hme]; exact hcd
            · have := HMC.out.1; have := HMC.out.2; have := HC.out.2; simp at *; omega
            · exact ((h6.drew).setCell (p := ⟨w1.heap.size, x.val, none⟩) (by show w.heap.size ≤ w1.heap.size; omega) _).setCell (p := ⟨w.heap.size, 0, none⟩) (Nat.le_refl _) _
            · simpa [World.setCell] using h7
        · exfalso
          rw [Array.getD_eq_getD_getElem?] at hl
          rcases Nat.lt_or_ge i 11 with h | h
          · rw [Array.getElem?_eq_getElem (by simpa using h)] at hl; simp at hl
          · rw [Array.getElem?_eq_none (by simpa using h)] at hl; simp at hl
      · have hpe : (y.f0 == p) = false := beq_eq_false_iff_ne.2 hp
        have HN := Aside0.mk hp
        clear hp hcut hgc hgz
        gi_wp2
        have HF : fSt l D ((pre ++ [x]).map (·.val)) = (o, k) := by rw [HMP.out, HSN.out, HPP.out p HPE.out, HG.out, if_neg (fun h => HN.out h.2)]
        obtain ⟨h1, h4, h5, h6, h7⟩ := HB0.out
        refine ⟨KeepsFrom.refl _ _, KeepR.refl _ _ _, ?_⟩
        show SpI _ _ _ _ _ _ _ _ _
        unfold SpI
        rw [HF]
        simp only
        rw [HRD.out, HML.out]
        exact ⟨⟨⟨some ad, c, h1, HC.out.1, HC.out.2⟩, h4, h5⟩, h6, h7⟩
    · have hke : l.drop k = [] := List.drop_eq_nil_of_le (by omega)
      have HN := Aside0.mk hk
      have HB0 := Aside0.mk (And.intro h1 (And.intro h4 (And.intro h5 (And.intro h6 h7))))
      have HC := Aside0.mk (And.intro h2 h3)
      rw [hke] at h1
      have hb0 := h1.cell
      simp only [List.length_nil] at hb0
      clear h1 h2 h3 h4 h5 h6 h7 hk
      gi_wp2
      have HF : fSt l D ((pre ++ [x]).map (·.val)) = (o, k) := by rw [HMP.out, HSN.out, HPP.out p HPE.out, if_neg (fun h => HN.out h.1)]
      obtain ⟨h1, h4, h5, h6, h7⟩ := HB0.out
      refine ⟨KeepsFrom.refl _ _, KeepR.refl _ _ _, ?_⟩
      show SpI _ _ _ _ _ _ _ _ _
      unfold SpI
      rw [HF]
      exact ⟨⟨⟨A, c, h1, HC.out.1, HC.out.2⟩, h4, h5⟩, h6, h7⟩
  case done =>
    rintro Dd ys W hD hys ⟨⟨⟨A, c, h1, h2, h3⟩, h4, h5⟩, h6, h7⟩ hK
    rw [hys] at h1 h2 h3 h5
    have hok := fSt_ok l D (List.range D.length)
    generalize hs : fSt l D (List.range D.length) = s at h1 h2 h3 h5 hok
    obtain ⟨o, k⟩ := s
    have HSE := Aside0.mk hs
    clear hs
    simp only at h1 h2 h3 h5 hok
    have HP := Aside0.mk (And.intro h5 (And.intro h6 h7))
    have HKK := Aside0.mk hK
    have HOK := Aside0.mk hok
    have hb0 := h1.cell
    have hb1 := h4.cell
    clear h1 h2 h3 h4 h5 h6 h7 hK hseq g0 g1 g2 hBW hS2 hok
    gi_wp2
    gi_quiet_th (fail)
    gi_wp2
    refine ⟨by simp, .inl ⟨_, _, rfl, run_takeDeferred (by simpa using HKK.out), ?_⟩⟩
    obtain ⟨h5, h6, h7⟩ := HP.out
    have hol := HOK.out.1
    have hkl := HOK.out.2
    have hbq : (((l.length - k : Nat) : Int) == 0) = decide (k = l.length) := by
      rw [Bool.eq_iff_iff, beq_iff_eq, decide_eq_true_eq]; omega
    have hne : w1.heap.size ≠ Dd := by omega
    refine ⟨_, results_tmp2 rfl _ _ _, .slice (some ⟨w1.heap.size, 0, none⟩) D.length D.length, by rw [HSE.out, ← hbq]; rfl, ?_, ?_⟩
    · rw [HSE.out]
      intro w' hk'
      have hgf : w'.heap[w1.heap.size]? = some (.cells (o.map (Value.int .u64)).toArray 62 (0, 0)) := by
        have h0 := putObj_far (W := W.drewN nq) (o := .deferred none) hne (show (W.drewN nq).heap[w1.heap.size]? = _ from h5)
        exact (hk'.2 _ (by omega) (blk_lt h0)).trans h0
      have hC := C_of_blk (d := Kd.int .u64) o hgf (reps_nums _ .u64 o) (by have := HM.out.2.2.1; omega)
      rw [← hol]
      exact .of hC (Nat.le_refl _)
    · exact (pw_below_drewN h6 nq).trans (belowK_b (w := w2) (by omega) (W.drewN nq) Dd _ _ hD (show (W.drewN nq).heap[Dd]? = _ from HKK.out) rfl rfl)
  case stop =>
    rintro D c pre W _ _ h _
    exact h.elim
end Go.Proofs.Ytacgeafjilipdaa.P
namespace Go.Proofs.Ytacgeafjilipdaa.P
open Go.RowKit Go.Shelf Go.Proofs.YtacgeafjilipdaaW.PrintWords Go.Proofs.YtacgeafjilipdaaW.PrintLast Go.Proofs.YtacgeafjilipdaaW.PrintMore
set_option linter.unusedVariables false
set_option linter.unusedSimpArgs false
theorem FI.below {α : Type} {d : Kd α} {base : Nat} {w w' : World} {v : Value} {l : List α} (h : FI d base w v l) (hb : Below w.heap.size w w') : FI d base w' v l := h.step (KA.below hb)
def overEF (h : Fh) (pos neg : List Sp) : Int := if checkF h = 0 then (if spCheck pos = 0 then spCheck neg else spCheck pos) else checkF h
def overF (h : Fh) (pos neg : List Sp) : Fh × Int := if overEF h pos neg ≠ 0 then (emptyF, overEF h pos neg)
  else if (spreadF (openF h).1 pos).2 && (spreadF (openF h).2.1 neg).2 then (⟨h.f0, h.f1, h.f2, h.f3, h.f4, pos, neg, (spreadF (openF h).1 pos).1, (spreadF (openF h).2.1 neg).1⟩, 0) else (emptyF, 23)
set_option maxHeartbeats 16000000 in
set_option maxRecDepth 100000 in
theorem fover_c (h : Fh) (hw : wfF h) (pos neg : List Sp) (hwp : wfSps pos) (hwn : wfSps neg) (w : World) (v vp vn : Value) (hv : GI w v h) (hvp : SI kSp w vp pos) (hvn : SI kSp w vn neg) : Calls Try.prog 106 #[v, vp, vn] w fun e w' =>
    ∃ v', e = .returned (.tuple #[v', .int .i64 (overF h pos neg).2]) ∧ GF w.heap.size w' v' (overF h pos neg).1 ∧ Below w.heap.size w w' := by
  have hud := Try.underlying79
  obtain ⟨A5, c5, A6, c6, A7, c7, A8, c8, e, -⟩ := hv.open_
  subst e
  have hvp' := hvp
  have hvn' := hvn
  obtain ⟨a1, g1, e1, -⟩ := hvp'; subst e1
  obtain ⟨a2, g2, e2, -⟩ := hvn'; subst e2
  have ho := fopen_f h hw
  have kp := spanCheck_c pos hwp
  have kn := spanCheck_c neg hwn
  have hrow := openF_row hw
  have hs1 := fun (hk : spCheck pos = 0) => fspread_c (openF h).1 pos hwp hk hrow.1.len
  have hs2 := fun (hk : spCheck neg = 0) => fspread_c (openF h).2.1 neg hwn hk hrow.2.len
  have hc1 := fun (hk : spCheck pos = 0) => cloneSp_c pos (by have := (spCheck_zero hk).1; omega)
  have hc2 := fun (hk : spCheck neg = 0) => cloneSp_c neg (by have := (spCheck_zero hk).1; omega)
  have SP := Aside0.mk hvp
  have SN := Aside0.mk hvn
  have he : ∀ (e0 : Int), checkF h = e0 → overEF h pos neg = if e0 = 0 then (if spCheck pos = 0 then spCheck neg else spCheck pos) else e0 := fun e0 q => by subst q; rfl
  have B := Aside0.mk (below_alloc (below_alloc (Below.refl w.heap.size w) (.cells #[.int .i64 h.f0, .int .u64 h.f1, .int .u64 h.f2, .int .u64 h.f3, .int .u64 h.f4, .slice A5 h.f5.length c5, .slice A6 h.f6.length c6, .slice A7 h.f7.length c7, .slice A8 h.f8.length c8] 79)) (.cells #[.int .i64 0, .int .u64 0, .int .u64 0, .int .u64 0, .int .u64 0, .slice none 0 0, .slice none 0 0, .slice none 0 0, .slice none 0 0] 79))
  have X := Aside0.mk ((Blk.new w #[.int .i64 h.f0, .int .u64 h.f1, .int .u64 h.f2, .int .u64 h.f3, .int .u64 h.f4, .slice A5 h.f5.length c5, .slice A6 h.f6.length c6, .slice A7 h.f7.length c7, .slice A8 h.f8.length c8] 79).alloc (.cells #[.int .i64 0, .int .u64 0, .int .u64 0, .int .u64 0, .int .u64 0, .slice none 0 0, .slice none 0 0, .slice none 0 0, .slice none 0 0] 79))
  have Y := Aside0.mk (Blk.at1 (w := w) (.cells #[.int .i64 h.f0, .int .u64 h.f1, .int .u64 h.f2, .int .u64 h.f3, .int .u64 h.f4, .slice A5 h.f5.length c5, .slice A6 h.f6.length c6, .slice A7 h.f7.length c7, .slice A8 h.f8.length c8] 79) #[.int .i64 0, .int .u64 0, .int .u64 0, .int .u64 0, .int .u64 0, .slice none 0 0, .slice none 0 0, .slice none 0 0, .slice none 0 0] 79)
  have hx := fun i => X.out.cell i
  have hy := fun i => Y.out.cell i
  have zx := fun i => blk_frozen X.out i
  have zy := fun i => blk_frozen Y.out i
  have HV := Aside0.mk (hv.below B.out)
  clear hv hvp hvn hw hwp hwn hrow
  obtain ⟨⟨rh, re⟩, hr⟩ : ∃ r, r = overF h pos neg := ⟨_, rfl⟩
  rw [← hr]
  unfold overF at hr
  have hce : checkF h = (openF h).2.2 := rfl
  rw [he _ hce] at hr
  clear he hce
  generalize spreadF (openF h).1 pos = ru at *
  generalize spreadF (openF h).2.1 neg = rn at *
  generalize openF h = oo at *
  obtain ⟨p, n, e0⟩ := oo
  obtain ⟨du, up⟩ := ru
  obtain ⟨dn, down⟩ := rn
  simp only at ho hs1 hs2 hr ⊢
  generalize spCheck pos = ep at *
  generalize spCheck neg = en at *
  have HO := Aside0.mk ho
  have KP := Aside0.mk kp
  have KN := Aside0.mk kn
  clear ho kp kn
  by_cases c0 : e0 = 0
  rotate_left
  · rw [if_neg c0, if_pos c0] at hr
    injection hr with r1 r2
    subst r1; subst r2
    have d0 : (re == 0) = false := beq_eq_false_iff_ne.2 c0
    have d1 : (re != 0) = true := bne_iff_ne.2 c0
    clear c0 hs1 hs2 hc1 hc2
    go_enter Try.func106, Try.ntmps106
    go_wp2_with (first | (go_at_call 159; (with_reducible refine (HO.out _ _ HV.out).mono ?_); rintro e W1 ⟨v0, v1, rfl, h0, h1, hb⟩; replace B := Aside0.mk (below_then B.out B.out.size hb); replace X := Aside0.mk (X.out.below hb); replace hx := fun i => X.out.cell i; replace zx := fun i => blk_frozen X.out i; replace Y := Aside0.mk (Y.out.below hb); replace hy := fun i => Y.out.cell i; replace zy := fun i => blk_frozen Y.out i; have P := Aside0.mk (show FI kPu (w.heap.size + 1 + 1) W1 v0 p by simpa using h0); have N := Aside0.mk (show FI kPu (w.heap.size + 1 + 1) W1 v1 n by simpa using h1); clear h0 h1 hb))
    refine bodyPost_ret (results_ct rfl _ _ (w.heap.size + 1) 79 #[.int .i64 0, .int .u64 0, .int .u64 0, .int .u64 0, .int .u64 0, .slice none 0 0, .slice none 0 0, .slice none 0 0, .slice none 0 0] (0, 0) _ rfl (nine (Y.out) _ _ _ _ _ _ _ _ _) Try.underlying79 rfl (by kernel_rfl)) rfl ?_
    exact ⟨_, rfl, GF.empty _ _, nine_below B.out (by omega) _ _ _ _ _ _ _ _ _⟩
  subst c0
  rw [if_pos rfl] at hr
  by_cases c1 : ep = 0
  rotate_left
  · rw [if_neg c1, if_pos c1] at hr
    injection hr with r1 r2
    subst r1; subst r2
    have d0 : (re == 0) = false := beq_eq_false_iff_ne.2 c1
    have d1 : (re != 0) = true := bne_iff_ne.2 c1
    clear c1 hs1 hs2 hc1 hc2
    go_enter Try.func106, Try.ntmps106
    go_wp2_with (first | (go_at_call 159; (with_reducible refine (HO.out _ _ HV.out).mono ?_); rintro e W1 ⟨v0, v1, rfl, h0, h1, hb⟩; replace B := Aside0.mk (below_then B.out B.out.size hb); replace X := Aside0.mk (X.out.below hb); replace hx := fun i => X.out.cell i; replace zx := fun i => blk_frozen X.out i; replace Y := Aside0.mk (Y.out.below hb); replace hy := fun i => Y.out.cell i; replace zy := fun i => blk_frozen Y.out i; have P := Aside0.mk (show FI kPu (w.heap.size + 1 + 1) W1 v0 p by simpa using h0); have N := Aside0.mk (show FI kPu (w.heap.size + 1 + 1) W1 v1 n by simpa using h1); clear h0 h1 hb) | (go_at_call 130; (with_reducible refine (KP.out _ _ (SP.out.below B.out)).mono ?_); rintro e W2 ⟨rfl, hb⟩; replace B := Aside0.mk (below_then B.out B.out.size hb); replace P := Aside0.mk (P.out.below hb); replace N := Aside0.mk (N.out.below hb); replace X := Aside0.mk (X.out.below hb); replace hx := fun i => X.out.cell i; replace zx := fun i => blk_frozen X.out i; replace Y := Aside0.mk (Y.out.below hb); replace hy := fun i => Y.out.cell i; replace zy := fun i => blk_frozen Y.out i; clear  hb))
    refine bodyPost_ret (results_ct rfl _ _ (w.heap.size + 1) 79 #[.int .i64 0, .int .u64 0, .int .u64 0, .int .u64 0, .int .u64 0, .slice none 0 0, .slice none 0 0, .slice none 0 0, .slice none 0 0] (0, 0) _ rfl (nine (Y.out) _ _ _ _ _ _ _ _ _) Try.underlying79 rfl (by kernel_rfl)) rfl ?_
    exact ⟨_, rfl, GF.empty _ _, nine_below B.out (by omega) _ _ _ _ _ _ _ _ _⟩
  subst c1
  rw [if_pos rfl] at hr
  have HS1 := Aside0.mk (hs1 rfl)
  have HC1 := Aside0.mk (hc1 rfl)
  by_cases c2 : en = 0
  rotate_left
  · rw [if_pos c2] at hr
    injection hr with r1 r2
    subst r1; subst r2
    have d1 : (re != 0) = true := bne_iff_ne.2 c2
    clear c2 hs1 hs2 hc1 hc2
    go_enter Try.func106, Try.ntmps106
    go_wp2_with (first | (go_at_call 159; (with_reducible refine (HO.out _ _ HV.out).mono ?_); rintro e W1 ⟨v0, v1, rfl, h0, h1, hb⟩; replace B := Aside0.mk (below_then B.out B.out.size hb); replace X := Aside0.mk (X.out.below hb); replace hx := fun i => X.out.cell i; replace zx := fun i => blk_frozen X.out i; replace Y := Aside0.mk (Y.out.below hb); replace hy := fun i => Y.out.cell i; replace zy := fun i => blk_frozen Y.out i; have P := Aside0.mk (show FI kPu (w.heap.size + 1 + 1) W1 v0 p by simpa using h0); have N := Aside0.mk (show FI kPu (w.heap.size + 1 + 1) W1 v1 n by simpa using h1); clear h0 h1 hb) | (go_at_call 130; (with_reducible refine (KP.out _ _ (SP.out.below B.out)).mono ?_); rintro e W2 ⟨rfl, hb⟩; replace B := Aside0.mk (below_then B.out B.out.size hb); replace P := Aside0.mk (P.out.below hb); replace N := Aside0.mk (N.out.below hb); replace X := Aside0.mk (X.out.below hb); replace hx := fun i => X.out.cell i; replace zx := fun i => blk_frozen X.out i; replace Y := Aside0.mk (Y.out.below hb); replace hy := fun i => Y.out.cell i; replace zy := fun i => blk_frozen Y.out i; clear  hb) | (go_at_call 130; (with_reducible refine (KN.out _ _ (SN.out.below B.out)).mono ?_); rintro e W3 ⟨rfl, hb⟩; replace B := Aside0.mk (below_then B.out B.out.size hb); replace P := Aside0.mk (P.out.below hb); replace N := Aside0.mk (N.out.below hb); replace X := Aside0.mk (X.out.below hb); replace hx := fun i => X.out.cell i; replace zx := fun i => blk_frozen X.out i; replace Y := Aside0.mk (Y.out.below hb); replace hy := fun i => Y.out.cell i; replace zy := fun i => blk_frozen Y.out i; clear  hb))
    refine bodyPost_ret (results_ct rfl _ _ (w.heap.size + 1) 79 #[.int .i64 0, .int .u64 0, .int .u64 0, .int .u64 0, .int .u64 0, .slice none 0 0, .slice none 0 0, .slice none 0 0, .slice none 0 0] (0, 0) _ rfl (nine (Y.out) _ _ _ _ _ _ _ _ _) Try.underlying79 rfl (by kernel_rfl)) rfl ?_
    exact ⟨_, rfl, GF.empty _ _, nine_below B.out (by omega) _ _ _ _ _ _ _ _ _⟩
  subst c2
  have HS2 := Aside0.mk (hs2 rfl)
  have HC2 := Aside0.mk (hc2 rfl)
  rw [if_neg (by simp)] at hr
  clear hs1 hs2 hc1 hc2
  cases up with
  | false =>
    simp only [Bool.false_and, Bool.false_eq_true, if_false] at hr
    injection hr with r1 r2
    subst r1; subst r2
    go_enter Try.func106, Try.ntmps106
    go_wp2_with (first | (go_at_call 159; (with_reducible refine (HO.out _ _ HV.out).mono ?_); rintro e W1 ⟨v0, v1, rfl, h0, h1, hb⟩; replace B := Aside0.mk (below_then B.out B.out.size hb); replace X := Aside0.mk (X.out.below hb); replace hx := fun i => X.out.cell i; replace zx := fun i => blk_frozen X.out i; replace Y := Aside0.mk (Y.out.below hb); replace hy := fun i => Y.out.cell i; replace zy := fun i => blk_frozen Y.out i; have P := Aside0.mk (show FI kPu (w.heap.size + 1 + 1) W1 v0 p by simpa using h0); have N := Aside0.mk (show FI kPu (w.heap.size + 1 + 1) W1 v1 n by simpa using h1); clear h0 h1 hb) | (go_at_call 130; (with_reducible refine (KP.out _ _ (SP.out.below B.out)).mono ?_); rintro e W2 ⟨rfl, hb⟩; replace B := Aside0.mk (below_then B.out B.out.size hb); replace P := Aside0.mk (P.out.below hb); replace N := Aside0.mk (N.out.below hb); replace X := Aside0.mk (X.out.below hb); replace hx := fun i => X.out.cell i; replace zx := fun i => blk_frozen X.out i; replace Y := Aside0.mk (Y.out.below hb); replace hy := fun i => Y.out.cell i; replace zy := fun i => blk_frozen Y.out i; clear  hb) | (go_at_call 130; (with_reducible refine (KN.out _ _ (SN.out.below B.out)).mono ?_); rintro e W3 ⟨rfl, hb⟩; replace B := Aside0.mk (below_then B.out B.out.size hb); replace P := Aside0.mk (P.out.below hb); replace N := Aside0.mk (N.out.below hb); replace X := Aside0.mk (X.out.below hb); replace hx := fun i => X.out.cell i; replace zx := fun i => blk_frozen X.out i; replace Y := Aside0.mk (Y.out.below hb); replace hy := fun i => Y.out.cell i; replace zy := fun i => blk_frozen Y.out i; clear  hb) | (go_at_call 164; (with_reducible refine (HS1.out _ _ _ P.out.now (SP.out.below B.out)).mono ?_); have hsz : w.heap.size + 1 + 1 ≤ W3.heap.size := blk_lt Y.out; rintro e W4 ⟨q0, rfl, hq, hb⟩; replace B := Aside0.mk (below_then B.out B.out.size hb); replace P := Aside0.mk (P.out.below hb); replace N := Aside0.mk (N.out.below hb); replace X := Aside0.mk (X.out.below hb); replace hx := fun i => X.out.cell i; replace zx := fun i => blk_frozen X.out i; replace Y := Aside0.mk (Y.out.below hb); replace hy := fun i => Y.out.cell i; replace zy := fun i => blk_frozen Y.out i; have Q0 := Aside0.mk (show FI (Kd.int .u64) (w.heap.size + 1 + 1) W4 q0 du from hq.lower hsz); have hq' := Q0.out.slice; obtain ⟨B0, d0, eq0⟩ := hq'; subst eq0; clear hq hb) | (go_at_call 164; replace B := Aside0.mk (B.out.set1 (g := w.heap.size) (i := 7) (u := .slice B0 du.length d0) (Nat.le_refl _)); replace X := Aside0.mk (show Blk (W4.setCell ⟨w.heap.size, 7, none⟩ (.slice B0 du.length d0)) w.heap.size #[.int .i64 h.f0, .int .u64 h.f1, .int .u64 h.f2, .int .u64 h.f3, .int .u64 h.f4, .slice A5 h.f5.length c5, .slice A6 h.f6.length c6, .slice B0 du.length d0, .slice A8 h.f8.length c8] 79 from blk_put X.out 7 (.slice B0 du.length d0) rfl); replace Y := Aside0.mk (show Blk (W4.setCell ⟨w.heap.size, 7, none⟩ (.slice B0 du.length d0)) (w.heap.size + 1) #[.int .i64 0, .int .u64 0, .int .u64 0, .int .u64 0, .int .u64 0, .slice none 0 0, .slice none 0 0, .slice none 0 0, .slice none 0 0] 79 from blk_far Y.out (by show w.heap.size + 1 ≠ w.heap.size; omega) (.slice B0 du.length d0)); replace P := Aside0.mk (P.out.step (KA.set (i := 7) _ (by omega : w.heap.size < w.heap.size + 1 + 1) (.slice B0 du.length d0))); replace N := Aside0.mk (N.out.step (KA.set (i := 7) _ (by omega : w.heap.size < w.heap.size + 1 + 1) (.slice B0 du.length d0))); replace Q0 := Aside0.mk (Q0.out.step (KA.set (i := 7) _ (by omega : w.heap.size < w.heap.size + 1 + 1) (.slice B0 du.length d0))); (with_reducible refine (HS2.out _ _ _ N.out.now (SN.out.below B.out)).mono ?_); have hsz := blk_lt Y.out; rintro e W5 ⟨q1, rfl, hq, hb⟩; replace B := Aside0.mk (below_then B.out B.out.size hb); replace P := Aside0.mk (P.out.below hb); replace N := Aside0.mk (N.out.below hb); replace Q0 := Aside0.mk (Q0.out.below hb); replace X := Aside0.mk (X.out.below hb); replace hx := fun i => X.out.cell i; replace zx := fun i => blk_frozen X.out i; replace Y := Aside0.mk (Y.out.below hb); replace hy := fun i => Y.out.cell i; replace zy := fun i => blk_frozen Y.out i; have Q1 := Aside0.mk (show FI (Kd.int .u64) (w.heap.size + 1 + 1) W5 q1 dn from hq.lower (by simp [World.setCell] at hsz ⊢; omega)); have hq' := Q1.out.slice; obtain ⟨B1, d1, eq1⟩ := hq'; subst eq1; clear hq hb))
    refine bodyPost_ret (results_ct rfl _ _ (w.heap.size + 1) 79 #[.int .i64 0, .int .u64 0, .int .u64 0, .int .u64 0, .int .u64 0, .slice none 0 0, .slice none 0 0, .slice none 0 0, .slice none 0 0] (0, 0) _ rfl (nine (blk_far (p := ⟨w.heap.size, 8, none⟩) (Y.out) (by show w.heap.size + 1 ≠ w.heap.size; omega) _) _ _ _ _ _ _ _ _ _) Try.underlying79 rfl (by kernel_rfl)) rfl ?_
    exact ⟨_, rfl, GF.empty _ _, nine_below (B.out.set1 (Nat.le_refl _)) (by omega) _ _ _ _ _ _ _ _ _⟩
  | true =>
    cases down with
    | false =>
      simp only [Bool.and_false, Bool.false_eq_true, if_false] at hr
      injection hr with r1 r2
      subst r1; subst r2
      go_enter Try.func106, Try.ntmps106
      go_wp2_with (first | (go_at_call 159; (with_reducible refine (HO.out _ _ HV.out).mono ?_); rintro e W1 ⟨v0, v1, rfl, h0, h1, hb⟩; replace B := Aside0.mk (below_then B.out B.out.size hb); replace X := Aside0.mk (X.out.below hb); replace hx := fun i => X.out.cell i; replace zx := fun i => blk_frozen X.out i; replace Y := Aside0.mk (Y.out.below hb); replace hy := fun i => Y.out.cell i; replace zy := fun i => blk_frozen Y.out i; have P := Aside0.mk (show FI kPu (w.heap.size + 1 + 1) W1 v0 p by simpa using h0); have N := Aside0.mk (show FI kPu (w.heap.size + 1 + 1) W1 v1 n by simpa using h1); clear h0 h1 hb) | (go_at_call 130; (with_reducible refine (KP.out _ _ (SP.out.below B.out)).mono ?_); rintro e W2 ⟨rfl, hb⟩; replace B := Aside0.mk (below_then B.out B.out.size hb); replace P := Aside0.mk (P.out.below hb); replace N := Aside0.mk (N.out.below hb); replace X := Aside0.mk (X.out.below hb); replace hx := fun i => X.out.cell i; replace zx := fun i => blk_frozen X.out i; replace Y := Aside0.mk (Y.out.below hb); replace hy := fun i => Y.out.cell i; replace zy := fun i => blk_frozen Y.out i; clear  hb) | (go_at_call 130; (with_reducible refine (KN.out _ _ (SN.out.below B.out)).mono ?_); rintro e W3 ⟨rfl, hb⟩; replace B := Aside0.mk (below_then B.out B.out.size hb); replace P := Aside0.mk (P.out.below hb); replace N := Aside0.mk (N.out.below hb); replace X := Aside0.mk (X.out.below hb); replace hx := fun i => X.out.cell i; replace zx := fun i => blk_frozen X.out i; replace Y := Aside0.mk (Y.out.below hb); replace hy := fun i => Y.out.cell i; replace zy := fun i => blk_frozen Y.out i; clear  hb) | (go_at_call 164; (with_reducible refine (HS1.out _ _ _ P.out.now (SP.out.below B.out)).mono ?_); have hsz : w.heap.size + 1 + 1 ≤ W3.heap.size := blk_lt Y.out; rintro e W4 ⟨q0, rfl, hq, hb⟩; replace B := Aside0.mk (below_then B.out B.out.size hb); replace P := Aside0.mk (P.out.below hb); replace N := Aside0.mk (N.out.below hb); replace X := Aside0.mk (X.out.below hb); replace hx := fun i => X.out.cell i; replace zx := fun i => blk_frozen X.out i; replace Y := Aside0.mk (Y.out.below hb); replace hy := fun i => Y.out.cell i; replace zy := fun i => blk_frozen Y.out i; have Q0 := Aside0.mk (show FI (Kd.int .u64) (w.heap.size + 1 + 1) W4 q0 du from hq.lower hsz); have hq' := Q0.out.slice; obtain ⟨B0, d0, eq0⟩ := hq'; subst eq0; clear hq hb) | (go_at_call 164; replace B := Aside0.mk (B.out.set1 (g := w.heap.size) (i := 7) (u := .slice B0 du.length d0) (Nat.le_refl _)); replace X := Aside0.mk (show Blk (W4.setCell ⟨w.heap.size, 7, none⟩ (.slice B0 du.length d0)) w.heap.size #[.int .i64 h.f0, .int .u64 h.f1, .int .u64 h.f2, .int .u64 h.f3, .int .u64 h.f4, .slice A5 h.f5.length c5, .slice A6 h.f6.length c6, .slice B0 du.length d0, .slice A8 h.f8.length c8] 79 from blk_put X.out 7 (.slice B0 du.length d0) rfl); replace Y := Aside0.mk (show Blk (W4.setCell ⟨w.heap.size, 7, none⟩ (.slice B0 du.length d0)) (w.heap.size + 1) #[.int .i64 0, .int .u64 0, .int .u64 0, .int .u64 0, .int .u64 0, .slice none 0 0, .slice none 0 0, .slice none 0 0, .slice none 0 0] 79 from blk_far Y.out (by show w.heap.size + 1 ≠ w.heap.size; omega) (.slice B0 du.length d0)); replace P := Aside0.mk (P.out.step (KA.set (i := 7) _ (by omega : w.heap.size < w.heap.size + 1 + 1) (.slice B0 du.length d0))); replace N := Aside0.mk (N.out.step (KA.set (i := 7) _ (by omega : w.heap.size < w.heap.size + 1 + 1) (.slice B0 du.length d0))); replace Q0 := Aside0.mk (Q0.out.step (KA.set (i := 7) _ (by omega : w.heap.size < w.heap.size + 1 + 1) (.slice B0 du.length d0))); (with_reducible refine (HS2.out _ _ _ N.out.now (SN.out.below B.out)).mono ?_); have hsz := blk_lt Y.out; rintro e W5 ⟨q1, rfl, hq, hb⟩; replace B := Aside0.mk (below_then B.out B.out.size hb); replace P := Aside0.mk (P.out.below hb); replace N := Aside0.mk (N.out.below hb); replace Q0 := Aside0.mk (Q0.out.below hb); replace X := Aside0.mk (X.out.below hb); replace hx := fun i => X.out.cell i; replace zx := fun i => blk_frozen X.out i; replace Y := Aside0.mk (Y.out.below hb); replace hy := fun i => Y.out.cell i; replace zy := fun i => blk_frozen Y.out i; have Q1 := Aside0.mk (show FI (Kd.int .u64) (w.heap.size + 1 + 1) W5 q1 dn from hq.lower (by simp [World.setCell] at hsz ⊢; omega)); have hq' := Q1.out.slice; obtain ⟨B1, d1, eq1⟩ := hq'; subst eq1; clear hq hb))
      refine bodyPost_ret (results_ct rfl _ _ (w.heap.size + 1) 79 #[.int .i64 0, .int .u64 0, .int .u64 0, .int .u64 0, .int .u64 0, .slice none 0 0, .slice none 0 0, .slice none 0 0, .slice none 0 0] (0, 0) _ rfl (nine (blk_far (p := ⟨w.heap.size, 8, none⟩) (Y.out) (by show w.heap.size + 1 ≠ w.heap.size; omega) _) _ _ _ _ _ _ _ _ _) Try.underlying79 rfl (by kernel_rfl)) rfl ?_
      exact ⟨_, rfl, GF.empty _ _, nine_below (B.out.set1 (Nat.le_refl _)) (by omega) _ _ _ _ _ _ _ _ _⟩
    | true =>
      simp only [Bool.and_true, if_true] at hr
      injection hr with r1 r2
      subst r1; subst r2
      go_enter Try.func106, Try.ntmps106
      go_wp2_with (first | (go_at_call 159; (with_reducible refine (HO.out _ _ HV.out).mono ?_); rintro e W1 ⟨v0, v1, rfl, h0, h1, hb⟩; replace B := Aside0.mk (below_then B.out B.out.size hb); replace X := Aside0.mk (X.out.below hb); replace hx := fun i => X.out.cell i; replace zx := fun i => blk_frozen X.out i; replace Y := Aside0.mk (Y.out.below hb); replace hy := fun i => Y.out.cell i; replace zy := fun i => blk_frozen Y.out i; have P := Aside0.mk (show FI kPu (w.heap.size + 1 + 1) W1 v0 p by simpa using h0); have N := Aside0.mk (show FI kPu (w.heap.size + 1 + 1) W1 v1 n by simpa using h1); clear h0 h1 hb) | (go_at_call 130; (with_reducible refine (KP.out _ _ (SP.out.below B.out)).mono ?_); rintro e W2 ⟨rfl, hb⟩; replace B := Aside0.mk (below_then B.out B.out.size hb); replace P := Aside0.mk (P.out.below hb); replace N := Aside0.mk (N.out.below hb); replace X := Aside0.mk (X.out.below hb); replace hx := fun i => X.out.cell i; replace zx := fun i => blk_frozen X.out i; replace Y := Aside0.mk (Y.out.below hb); replace hy := fun i => Y.out.cell i; replace zy := fun i => blk_frozen Y.out i; clear  hb) | (go_at_call 130; (with_reducible refine (KN.out _ _ (SN.out.below B.out)).mono ?_); rintro e W3 ⟨rfl, hb⟩; replace B := Aside0.mk (below_then B.out B.out.size hb); replace P := Aside0.mk (P.out.below hb); replace N := Aside0.mk (N.out.below hb); replace X := Aside0.mk (X.out.below hb); replace hx := fun i => X.out.cell i; replace zx := fun i => blk_frozen X.out i; replace Y := Aside0.mk (Y.out.below hb); replace hy := fun i => Y.out.cell i; replace zy := fun i => blk_frozen Y.out i; clear  hb) | (go_at_call 164; (with_reducible refine (HS1.out _ _ _ P.out.now (SP.out.below B.out)).mono ?_); have hsz : w.heap.size + 1 + 1 ≤ W3.heap.size := blk_lt Y.out; rintro e W4 ⟨q0, rfl, hq, hb⟩; replace B := Aside0.mk (below_then B.out B.out.size hb); replace P := Aside0.mk (P.out.below hb); replace N := Aside0.mk (N.out.below hb); replace X := Aside0.mk (X.out.below hb); replace hx := fun i => X.out.cell i; replace zx := fun i => blk_frozen X.out i; replace Y := Aside0.mk (Y.out.below hb); replace hy := fun i => Y.out.cell i; replace zy := fun i => blk_frozen Y.out i; have Q0 := Aside0.mk (show FI (Kd.int .u64) (w.heap.size + 1 + 1) W4 q0 du from hq.lower hsz); have hq' := Q0.out.slice; obtain ⟨B0, d0, eq0⟩ := hq'; subst eq0; clear hq hb) | (go_at_call 164; replace B := Aside0.mk (B.out.set1 (g := w.heap.size) (i := 7) (u := .slice B0 du.length d0) (Nat.le_refl _)); replace X := Aside0.mk (show Blk (W4.setCell ⟨w.heap.size, 7, none⟩ (.slice B0 du.length d0)) w.heap.size #[.int .i64 h.f0, .int .u64 h.f1, .int .u64 h.f2, .int .u64 h.f3, .int .u64 h.f4, .slice A5 h.f5.length c5, .slice A6 h.f6.length c6, .slice B0 du.length d0, .slice A8 h.f8.length c8] 79 from blk_put X.out 7 (.slice B0 du.length d0) rfl); replace Y := Aside0.mk (show Blk (W4.setCell ⟨w.heap.size, 7, none⟩ (.slice B0 du.length d0)) (w.heap.size + 1) #[.int .i64 0, .int .u64 0, .int .u64 0, .int .u64 0, .int .u64 0, .slice none 0 0, .slice none 0 0, .slice none 0 0, .slice none 0 0] 79 from blk_far Y.out (by show w.heap.size + 1 ≠ w.heap.size; omega) (.slice B0 du.length d0)); replace P := Aside0.mk (P.out.step (KA.set (i := 7) _ (by omega : w.heap.size < w.heap.size + 1 + 1) (.slice B0 du.length d0))); replace N := Aside0.mk (N.out.step (KA.set (i := 7) _ (by omega : w.heap.size < w.heap.size + 1 + 1) (.slice B0 du.length d0))); replace Q0 := Aside0.mk (Q0.out.step (KA.set (i := 7) _ (by omega : w.heap.size < w.heap.size + 1 + 1) (.slice B0 du.length d0))); (with_reducible refine (HS2.out _ _ _ N.out.now (SN.out.below B.out)).mono ?_); have hsz := blk_lt Y.out; rintro e W5 ⟨q1, rfl, hq, hb⟩; replace B := Aside0.mk (below_then B.out B.out.size hb); replace P := Aside0.mk (P.out.below hb); replace N := Aside0.mk (N.out.below hb); replace Q0 := Aside0.mk (Q0.out.below hb); replace X := Aside0.mk (X.out.below hb); replace hx := fun i => X.out.cell i; replace zx := fun i => blk_frozen X.out i; replace Y := Aside0.mk (Y.out.below hb); replace hy := fun i => Y.out.cell i; replace zy := fun i => blk_frozen Y.out i; have Q1 := Aside0.mk (show FI (Kd.int .u64) (w.heap.size + 1 + 1) W5 q1 dn from hq.lower (by simp [World.setCell] at hsz ⊢; omega)); have hq' := Q1.out.slice; obtain ⟨B1, d1, eq1⟩ := hq'; subst eq1; clear hq hb) | (go_at_call 147; replace B := Aside0.mk (B.out.set1 (g := w.heap.size) (i := 8) (u := .slice B1 dn.length d1) (Nat.le_refl _)); replace X := Aside0.mk (show Blk (W5.setCell ⟨w.heap.size, 8, none⟩ (.slice B1 dn.length d1)) w.heap.size #[.int .i64 h.f0, .int .u64 h.f1, .int .u64 h.f2, .int .u64 h.f3, .int .u64 h.f4, .slice A5 h.f5.length c5, .slice A6 h.f6.length c6, .slice B0 du.length d0, .slice B1 dn.length d1] 79 from blk_put X.out 8 (.slice B1 dn.length d1) rfl); replace Y := Aside0.mk (show Blk (W5.setCell ⟨w.heap.size, 8, none⟩ (.slice B1 dn.length d1)) (w.heap.size + 1) #[.int .i64 0, .int .u64 0, .int .u64 0, .int .u64 0, .int .u64 0, .slice none 0 0, .slice none 0 0, .slice none 0 0, .slice none 0 0] 79 from blk_far Y.out (by show w.heap.size + 1 ≠ w.heap.size; omega) (.slice B1 dn.length d1)); replace P := Aside0.mk (P.out.step (KA.set (i := 8) _ (by omega : w.heap.size < w.heap.size + 1 + 1) (.slice B1 dn.length d1))); replace N := Aside0.mk (N.out.step (KA.set (i := 8) _ (by omega : w.heap.size < w.heap.size + 1 + 1) (.slice B1 dn.length d1))); replace Q0 := Aside0.mk (Q0.out.step (KA.set (i := 8) _ (by omega : w.heap.size < w.heap.size + 1 + 1) (.slice B1 dn.length d1))); replace Q1 := Aside0.mk (Q1.out.step (KA.set (i := 8) _ (by omega : w.heap.size < w.heap.size + 1 + 1) (.slice B1 dn.length d1))); (with_reducible refine (HC1.out _ a1 g1 (SP.out.below B.out)).mono ?_); have hsz := blk_lt Y.out; rintro e W6 ⟨q2, rfl, hq, hb⟩; replace B := Aside0.mk (below_then B.out B.out.size hb); replace P := Aside0.mk (P.out.below hb); replace N := Aside0.mk (N.out.below hb); replace Q0 := Aside0.mk (Q0.out.below hb); replace Q1 := Aside0.mk (Q1.out.below hb); replace X := Aside0.mk (X.out.below hb); replace hx := fun i => X.out.cell i; replace zx := fun i => blk_frozen X.out i; replace Y := Aside0.mk (Y.out.below hb); replace hy := fun i => Y.out.cell i; replace zy := fun i => blk_frozen Y.out i; have R2 := Aside0.mk (show FI kSp (w.heap.size + 1 + 1) W6 q2 pos from hq.lower (by simp [World.setCell] at hsz ⊢; omega)); have hq' := R2.out.slice; obtain ⟨B2, d2, eq2⟩ := hq'; subst eq2; clear hq hb) | (go_at_call 147; (with_reducible refine (HC2.out _ a2 g2 (SN.out.below B.out)).mono ?_); have hsz : w.heap.size + 1 + 1 ≤ W6.heap.size := blk_lt Y.out; rintro e W7 ⟨q3, rfl, hq, hb⟩; replace B := Aside0.mk (below_then B.out B.out.size hb); replace P := Aside0.mk (P.out.below hb); replace N := Aside0.mk (N.out.below hb); replace Q0 := Aside0.mk (Q0.out.below hb); replace Q1 := Aside0.mk (Q1.out.below hb); replace R2 := Aside0.mk (R2.out.below hb); replace X := Aside0.mk (X.out.below hb); replace hx := fun i => X.out.cell i; replace zx := fun i => blk_frozen X.out i; replace Y := Aside0.mk (Y.out.below hb); replace hy := fun i => Y.out.cell i; replace zy := fun i => blk_frozen Y.out i; have R3 := Aside0.mk (show FI kSp (w.heap.size + 1 + 1) W7 q3 neg from hq.lower hsz); have hq' := R3.out.slice; obtain ⟨B3, d3, eq3⟩ := hq'; subst eq3; have hxa := fun i => blk_cell (show Blk ((W7.setCell ⟨w.heap.size, 5, none⟩ (.slice B2 pos.length d2)).setCell ⟨w.heap.size, 6, none⟩ (.slice B3 neg.length d3)) w.heap.size #[.int .i64 h.f0, .int .u64 h.f1, .int .u64 h.f2, .int .u64 h.f3, .int .u64 h.f4, .slice B2 pos.length d2, .slice B3 neg.length d3, .slice B0 du.length d0, .slice B1 dn.length d1] 79 from blk_put (show Blk (W7.setCell ⟨w.heap.size, 5, none⟩ (.slice B2 pos.length d2)) w.heap.size #[.int .i64 h.f0, .int .u64 h.f1, .int .u64 h.f2, .int .u64 h.f3, .int .u64 h.f4, .slice B2 pos.length d2, .slice A6 h.f6.length c6, .slice B0 du.length d0, .slice B1 dn.length d1] 79 from blk_put X.out 5 (.slice B2 pos.length d2) rfl) 6 (.slice B3 neg.length d3) rfl) i; clear hq hb))
      refine bodyPost_ret (results_ct rfl _ _ (w.heap.size + 1) 79 #[.int .i64 h.f0, .int .u64 h.f1, .int .u64 h.f2, .int .u64 h.f3, .int .u64 h.f4, .slice B2 pos.length d2, .slice B3 neg.length d3, .slice B0 du.length d0, .slice B1 dn.length d1] (0, 0) _ rfl (nine (blk_far (p := ⟨w.heap.size, 6, none⟩) (blk_far (p := ⟨w.heap.size, 5, none⟩) (Y.out) (by show w.heap.size + 1 ≠ w.heap.size; omega) _) (by show w.heap.size + 1 ≠ w.heap.size; omega) _) _ _ _ _ _ _ _ _ _) Try.underlying79 rfl (by kernel_rfl)) rfl ?_
      exact ⟨_, rfl, GF.mk (h := ⟨h.f0, h.f1, h.f2, h.f3, h.f4, pos, neg, du, dn⟩) ((R2.out.step (nine_ka ((KA.set _ (by omega) _).trans (KA.set _ (by omega) _)) (by omega) _ _ _ _ _ _ _ _ _)).lower (by omega)) ((R3.out.step (nine_ka ((KA.set _ (by omega) _).trans (KA.set _ (by omega) _)) (by omega) _ _ _ _ _ _ _ _ _)).lower (by omega)) ((Q0.out.step (nine_ka ((KA.set _ (by omega) _).trans (KA.set _ (by omega) _)) (by omega) _ _ _ _ _ _ _ _ _)).lower (by omega)) ((Q1.out.step (nine_ka ((KA.set _ (by omega) _).trans (KA.set _ (by omega) _)) (by omega) _ _ _ _ _ _ _ _ _)).lower (by omega)), nine_below ((B.out.set1 (Nat.le_refl _)).set1 (Nat.le_refl _)) (by omega) _ _ _ _ _ _ _ _ _⟩
end Go.Proofs.Ytacgeafjilipdaa.P
namespace Go.Proofs.Ytacgeafjilipdaa.P
open Go.RowKit Go.Shelf Go.Proofs.YtacgeafjilipdaaW.PrintWords Go.Proofs.YtacgeafjilipdaaW.PrintLast Go.Proofs.YtacgeafjilipdaaW.PrintMore
set_option linter.unusedVariables false
set_option linter.unusedSimpArgs false
theorem frombits_run (v : Int) (w : World) : (callFunc 166 #[.int .u64 v]).run Try.prog w = .ok (.value (.float .f64 v.toNat)) w := by
  rw [run_callFunc_extern Try.func166 (by kernel_rfl) (by kernel_rfl) (by kernel_rfl) (e := Extern.MathFloatBits.float64frombits) (by kernel_rfl)]
  rfl
theorem bits_run (v : Nat) (w : World) : (callFunc 168 #[.float .f64 v]).run Try.prog w = .ok (.value (.int .u64 v)) w := by
  rw [run_callFunc_extern Try.func168 (by kernel_rfl) (by kernel_rfl) (by kernel_rfl) (e := Extern.MathFloatBits.float64bits) (by kernel_rfl)]
  rfl
theorem trunc_three (w : World) : (callFunc 188 #[.float .f64 4613937818241073152]).run Try.prog w = .ok (.value (.float .f64 4613937818241073152)) w := by kernel_rfl
theorem trunc_half (w : World) : (callFunc 188 #[.float .f64 4602678819172646912]).run Try.prog w = .ok (.value (.float .f64 0)) w := by kernel_rfl
theorem trunc_zero (w : World) : (callFunc 188 #[.float .f64 0]).run Try.prog w = .ok (.value (.float .f64 0)) w := by kernel_rfl
theorem mtrunc_three (w : World) : Calls Try.prog 167 #[.float .f64 4613937818241073152] w fun e w' => e = .returned (.float .f64 4613937818241073152) ∧ Below w.heap.size w w' := by
  have ht := trunc_three
  go_enter Try.func167, Try.ntmps167
  go_wp2
  go_ret
  exact ⟨rfl, Below.refl _ _⟩
theorem cv_three (w : World) : (convert 198 62 (.float .f64 4613937818241073152)).run Try.prog w = .ok (.int .u64 3) w := by kernel_rfl
theorem ge_three (w : World) : (binOp .geq 198 (.float .f64 4613937818241073152) (.float .f64 4895412794951729152)).run Try.prog w = .ok (.bool false) w := by kernel_rfl
theorem ne_three (w : World) : (binOp .neq 198 (.float .f64 4613937818241073152) (.float .f64 4613937818241073152)).run Try.prog w = .ok (.bool false) w := by kernel_rfl
set_option maxRecDepth 100000 in
theorem whole_three (w : World) : Calls Try.prog 111 #[.int .u64 4613937818241073152] w fun e w' => e = .returned (.tuple #[.int .u64 3, .bool true]) ∧ Below w.heap.size w w' := by
  have hf := frombits_run 4613937818241073152
  have MT := Aside0.mk mtrunc_three
  have hg := ge_three
  have hn := ne_three
  have hc := cv_three
  have RC := Aside0.mk (right_c 4613937818241073152)
  go_enter Try.func111, Try.ntmps111
  go_wp2_with (first | (go_at_call 98; (with_reducible refine (RC.out _).mono ?_); rintro e w1 ⟨rfl, hb⟩; have HB := Aside0.mk hb; clear hb) | (go_at_call 167; (with_reducible refine (MT.out _).mono ?_); rintro e w2 ⟨rfl, hb⟩; replace HB := Aside0.mk (below_then HB.out HB.out.size hb); clear hb))
  go_ret2
  exact ⟨rfl, HB.out⟩
theorem mtrunc_half (w : World) : Calls Try.prog 167 #[.float .f64 4602678819172646912] w fun e w' => e = .returned (.float .f64 0) ∧ Below w.heap.size w w' := by
  have ht := trunc_half
  go_enter Try.func167, Try.ntmps167
  go_wp2
  go_ret
  exact ⟨rfl, Below.refl _ _⟩
theorem ge_half (w : World) : (binOp .geq 198 (.float .f64 4602678819172646912) (.float .f64 4895412794951729152)).run Try.prog w = .ok (.bool false) w := by kernel_rfl
theorem ne_half (w : World) : (binOp .neq 198 (.float .f64 0) (.float .f64 4602678819172646912)).run Try.prog w = .ok (.bool true) w := by kernel_rfl
set_option maxRecDepth 100000 in
theorem whole_half (w : World) : Calls Try.prog 111 #[.int .u64 4602678819172646912] w fun e w' => e = .returned (.tuple #[.int .u64 0, .bool false]) ∧ Below w.heap.size w w' := by
  have hf := frombits_run 4602678819172646912
  have MT := Aside0.mk mtrunc_half
  have hg := ge_half
  have hn := ne_half
  have RC := Aside0.mk (right_c 4602678819172646912)
  go_enter Try.func111, Try.ntmps111
  go_wp2_with (first | (go_at_call 98; (with_reducible refine (RC.out _).mono ?_); rintro e w1 ⟨rfl, hb⟩; have HB := Aside0.mk hb; clear hb) | (go_at_call 167; (with_reducible refine (MT.out _).mono ?_); rintro e w2 ⟨rfl, hb⟩; replace HB := Aside0.mk (below_then HB.out HB.out.size hb); clear hb))
  go_ret2
  exact ⟨rfl, HB.out⟩
theorem mtrunc_zero (w : World) : Calls Try.prog 167 #[.float .f64 0] w fun e w' => e = .returned (.float .f64 0) ∧ Below w.heap.size w w' := by
  have ht := trunc_zero
  go_enter Try.func167, Try.ntmps167
  go_wp2
  go_ret
  exact ⟨rfl, Below.refl _ _⟩
theorem cv_zero (w : World) : (convert 198 62 (.float .f64 0)).run Try.prog w = .ok (.int .u64 0) w := by kernel_rfl
theorem ge_zero (w : World) : (binOp .geq 198 (.float .f64 0) (.float .f64 4895412794951729152)).run Try.prog w = .ok (.bool false) w := by kernel_rfl
theorem ne_zero (w : World) : (binOp .neq 198 (.float .f64 0) (.float .f64 0)).run Try.prog w = .ok (.bool false) w := by kernel_rfl
set_option maxRecDepth 100000 in
theorem whole_zero (w : World) : Calls Try.prog 111 #[.int .u64 0] w fun e w' => e = .returned (.tuple #[.int .u64 0, .bool true]) ∧ Below w.heap.size w w' := by
  have hf := frombits_run 0
  have MT := Aside0.mk mtrunc_zero
  have hg := ge_zero
  have hn := ne_zero
  have hc := cv_zero
  have RC := Aside0.mk (right_c 0)
  go_enter Try.func111, Try.ntmps111
  go_wp2_with (first | (go_at_call 98; (with_reducible refine (RC.out _).mono ?_); rintro e w1 ⟨rfl, hb⟩; have HB := Aside0.mk hb; clear hb) | (go_at_call 167; (with_reducible refine (MT.out _).mono ?_); rintro e w2 ⟨rfl, hb⟩; replace HB := Aside0.mk (below_then HB.out HB.out.size hb); clear hb))
  go_ret2
  exact ⟨rfl, HB.out⟩
theorem fcv_three (w : World) : (convert 62 198 (.int .u64 3)).run Try.prog w = .ok (.float .f64 4613937818241073152) w := by kernel_rfl
theorem float_three (w : World) : Calls Try.prog 113 #[.int .u64 3] w fun e w' => e = .returned (.int .u64 4613937818241073152) ∧ Below w.heap.size w w' := by
  have hc := fcv_three
  have hb := bits_run 4613937818241073152
  go_enter Try.func113, Try.ntmps113
  go_wp2
  go_ret
  exact ⟨rfl, Below.refl _ _⟩
end Go.Proofs.Ytacgeafjilipdaa.P
namespace Go.Proofs.Ytacgeafjilipdaa.P
open Go.RowKit Go.Shelf Go.Proofs.YtacgeafjilipdaaW.PrintWords Go.Proofs.YtacgeafjilipdaaW.PrintLast Go.Proofs.YtacgeafjilipdaaW.PrintMore
set_option linter.unusedVariables false
set_option linter.unusedSimpArgs false
attribute [local go_sem] Oper.semAt_some
def wholesR (wh : Int → Int × Bool) (l : List Int) : List Int × Bool := if l.all (fun v => (wh v).2) = true then (l.map (fun v => (wh v).1), true) else ([], false)
theorem take_all {α : Type} (p : α → Bool) (l : List α) (i : Nat) (h : i < l.length) : (l.take (i + 1)).all p = ((l.take i).all p && p l[i]) := by
  rw [List.take_succ_eq_append_getElem h, List.all_append]; simp
theorem own_base' {W : World} {base size n : Nat} {e : TypeId} {v : Value} {xs : List Value} (h : W.ownsRow base e size v n xs) : ∀ k, v.ownBlock = some k → base ≤ k := fun k hk => own_base h k hk
set_option maxRecDepth 100000 in
set_option maxHeartbeats 4000000 in
theorem wholes_c (wh : Int → Int × Bool) (l : List Int) (hm : l.length ≤ 4096) (hwh : ∀ v ∈ l, ∀ w, Calls Try.prog 111 #[.int .u64 v] w fun e w' => e = .returned (.tuple #[.int .u64 (wh v).1, .bool (wh v).2]) ∧ Below w.heap.size w w')
    (w : World) (v : Value) (hv : SI (Kd.int .u64) w v l) : Calls Try.prog 170 #[v] w fun e w' => ∃ v0 : Value, e = .returned (.tuple #[v0, .bool (wholesR wh l).2]) ∧ FI (Kd.int .u64) w.heap.size w' v0 (wholesR wh l).1 ∧ Below w.heap.size w w' := by
  obtain ⟨A, c, rfl, hc, hr⟩ := hv
  refine (callsIn_wide (n := 4)).1 ?_
  have hf1 : Fence.wide.fn 111 := trivial
  have HW := Aside0.mk hwh
  have HR := Aside0.mk (And.intro hr hc)
  obtain ⟨i0, hi, hz0, hz1, hz2⟩ := info_parts info62
  have hmk : ∀ W : World, (Instr.makeSlice 77 (.int .i64 0) (.int .i64 l.length)).run Try.prog W = .ok (.slice (some ⟨W.heap.size, 0, none⟩) 0 l.length) (W.alloc (.cells (madeCells #[Value.int .u64 0] (l.length * i0.size)) 62)) := fun W => by
    have := run_make (P := Try.prog) W 77 62 i0 (.int .u64 0) Try.underlying77 hi hz0 .i64 .i64 0 l.length (by omega) (by omega) (by rw [hz2]; omega) (by omega)
    simpa [Value.cells] using this
  have HM := Aside0.mk hm
  clear hr hc hwh hm
  refine callsIn_of_wp Try.func170 rfl trivial ?_ rfl
  simp only [Try.ntmps170, List.size_toArray, List.length_cons, List.length_nil, Nat.reduceAdd, Nat.reduceSub, Array.replicate_succ, Array.replicate_zero, List.push_toArray, List.append_toArray, List.nil_append, List.cons_append]
  gi_wp2
  clear hmk
  gi_loopw [4, 14] (fun s4 s14 wx => ∃ i : Nat, i ≤ l.length ∧ s14 = .int .i64 i ∧ Aside0 (wx.ownsRow w.heap.size 62 1 s4 i (((l.take i).map (fun v => (wh v).1)).map (Value.int .u64))) ∧ Aside0 (Below w.heap.size w wx) ∧ Aside0 ((l.take i).all (fun v => (wh v).2) = true)) (fun _ s14 _ => l.length - (intOf s14).toNat)
  case atStart =>
    refine ⟨0, Nat.zero_le _, rfl, ⟨?_⟩, ⟨below_alloc (Below.refl _ _) _⟩, ⟨by simp⟩⟩
    have := World.ownsRow_made (base := w.heap.size) (e := 62) (size := 1) w (madeCells #[Value.int .u64 0] (l.length * i0.size)) l.length (Nat.le_refl _) (by have := HM.out; unfold maxLen; omega) (by rw [size_madeCells, hz1])
    simpa [hz1] using this
  case round =>
    obtain ⟨i, hil, rfl, HO, HB, HA⟩ := hrel
    by_cases hlt : i < l.length
    · have hlti : (i : Int) < (l.length : Int) := by omega
      have hi0 : (0 : Int) ≤ (i : Int) := by omega
      obtain ⟨ad, e1, hx0⟩ := Kd.at_int (Kd.C_below HR.out.1 HB.out) (i : Int) hi0 hlti
      rw [rd_at hlt, Int.toNat_natCast] at hx0
      subst e1
      have HC := Aside0.mk (HW.out l[i] (List.getElem_mem hlt))
      have HT := Aside0.mk (take_all (fun v => (wh v).2) l i hlt)
      have HS := Aside0.mk (List.take_succ_eq_append_getElem hlt)
      have HMN := Aside0.mk (List.getElem_mem hlt)
      have hi4 : i < 4096 := by have := HM.out; omega
      generalize l[i] = x at hx0 HC HT HS HMN
      generalize hwx : wh x = r at HC HT
      have HWX := Aside0.mk hwx
      clear hwx
      obtain ⟨nv, ok⟩ := r
      simp only at HC HT
      cases ok with
      | false =>
        clear hlt
        gi_wp2_with (gi_at_call 111; refine (callsIn_wide.2 (HC.out _)).mono ?_; rintro e w2 ⟨rfl, hb⟩; have HB2 := Aside0.mk (below_then HB.out HB.out.size hb); clear hb)
        refine bodyPost_ret (results_tmp2 rfl _ _ _) rfl ?_
        have hf : wholesR wh l = ([], false) := by
          unfold wholesR
          rw [if_neg]
          intro h
          have := List.all_eq_true.1 h x HMN.out
          rw [HWX.out] at this; cases this
        rw [hf]
        exact ⟨_, rfl, fun W _ => SI.nil _ W, HB2.out⟩
      | true =>
        gi_wp2_with (first | (gi_at_call 111; refine (callsIn_wide.2 (HC.out _)).mono ?_; rintro e w2 ⟨rfl, hb⟩; have HO2 := Aside0.mk (HO.out.kept (grown_of_below hb none) (Classical.em _)); have HB2 := Aside0.mk (below_then HB.out HB.out.size hb); clear hb) | (gi_at_builtin; refine wpListIn_append_own _ rfl _ _ 77 rfl w.heap.size 62 i0 (.int .u64 0) 1 8 Try.underlying77 hi hz0 hz1 hz2 rfl (by decide) _ _ _ rfl (HO2.out.alloc _) ⟨w2.heap.size, 0, none⟩ 1 1 [.int .u64 nv] rfl rfl (cell_one_new _ _ _) (by simp [Value.oneCell']) (by unfold maxLen; omega) (by omega) (by have := HB2.out.size; simp; omega) ?_; intro v' w3 hown' hgrow _; have HO3 := Aside0.mk hown'; have HB3 := Aside0.mk (pw_below_grown (below_alloc HB2.out _) _ (by have := HB2.out.size; simp; omega) hgrow (own_base' HO2.out)); clear hown' hgrow))
        go_roundw
        case rel =>
          refine ⟨i + 1, by omega, by go_num, ⟨?_⟩, HB3, ⟨by rw [HT.out, HA.out]; rfl⟩⟩
          have := HO3.out
          rw [HS.out, List.map_append, List.map_append, List.map_cons, List.map_nil, HWX.out]
          exact this
        case measure => simp [intOf]; omega
    · obtain rfl : i = l.length := by omega
      have hlti : ¬ (l.length : Int) < (l.length : Int) := by omega
      have ht : l.take l.length = l := List.take_length
      have hf : wholesR wh l = (l.map (fun v => (wh v).1), true) := by unfold wholesR; rw [if_pos (by have := HA.out; rwa [ht] at this)]
      have HF := Aside0.mk hf
      clear hf hlt ht
      gi_wp2
      refine bodyPost_ret (results_tmp2 rfl _ _ _) rfl ?_
      rw [HF.out]
      have hl : l.length = (l.map (fun v => (wh v).1)).length := (List.length_map ..).symm
      have ho := HO.out
      rw [List.take_length] at ho
      refine ⟨_, rfl, .of_R (Kd.R_of_own (enc := Value.int .u64) (h1 := fun _ => rfl) (hl ▸ ho) (fun _ _ => trivial)) (Nat.le_refl _), HB.out⟩
end Go.Proofs.Ytacgeafjilipdaa.P
namespace Go.Proofs.Ytacgeafjilipdaa.P
open Go.RowKit Go.Shelf Go.Proofs.YtacgeafjilipdaaW.PrintWords Go.Proofs.YtacgeafjilipdaaW.PrintLast Go.Proofs.YtacgeafjilipdaaW.PrintMore
set_option linter.unusedVariables false
set_option linter.unusedSimpArgs false
set_option maxHeartbeats 8000000 in
set_option maxRecDepth 100000 in
theorem backForm_c (wh : Int → Int × Bool) (h : Fh) (hw : wfF h) (hc : checkF h = 0) (h7 : h.f7.length ≤ 4096) (h8 : h.f8.length ≤ 4096) (hwh : ∀ v, v = h.f2 ∨ v = h.f3 ∨ v ∈ h.f7 ∨ v ∈ h.f8 → ∀ w, Calls Try.prog 111 #[.int .u64 v] w fun e w' => e = .returned (.tuple #[.int .u64 (wh v).1, .bool (wh v).2]) ∧ Below w.heap.size w w')
    (hn : (wholesR wh [h.f2, h.f3]).2 = false) (w : World) (v : Value) (hv : GI w v h) : Calls Try.prog 119 #[v] w fun e w' => e = .returned (.tuple #[.agg #[.int .i64 0, .int .u64 0, .int .u64 0, .int .u64 0, .int .u64 0, .slice none 0 0, .slice none 0 0, .slice none 0 0, .slice none 0 0], .int .i64 10]) ∧ Below w.heap.size w w' := by
  have hud := Try.underlying79
  have huh := Try.underlying64
  have kc := fcheck_c h hw
  rw [hc] at kc
  have wa := wholes_c wh [h.f2, h.f3] (by simp) (fun x hx => hwh x (by simp at hx; rcases hx with h | h; exact .inl h; exact .inr (.inl h)))
  have wb := wholes_c wh h.f7 h7 (fun x hx => hwh x (.inr (.inr (.inl hx))))
  have wc := wholes_c wh h.f8 h8 (fun x hx => hwh x (.inr (.inr (.inr hx))))
  rw [hn] at wa
  generalize (wholesR wh h.f7).2 = b7 at *
  generalize (wholesR wh h.f8).2 = b8 at *
  have KC := Aside0.mk kc
  have WA := Aside0.mk wa
  have WB := Aside0.mk wb
  have WC := Aside0.mk wc
  clear kc wa wb wc hw hc hwh hn h7 h8
  obtain ⟨A5, c5, A6, c6, A7, c7, A8, c8, e, -, -, k7, k8⟩ := hv.open_
  subst e
  have B := Aside0.mk (below_alloc (below_alloc (Below.refl w.heap.size w) (.cells #[.int .i64 h.f0, .int .u64 h.f1, .int .u64 h.f2, .int .u64 h.f3, .int .u64 h.f4, .slice A5 h.f5.length c5, .slice A6 h.f6.length c6, .slice A7 h.f7.length c7, .slice A8 h.f8.length c8] 79)) (.cells #[.int .i64 0, .int .u64 0, .int .u64 0, .int .u64 0, .int .u64 0, .slice none 0 0, .slice none 0 0, .slice none 0 0, .slice none 0 0] 64))
  have X := Aside0.mk ((Blk.new w #[.int .i64 h.f0, .int .u64 h.f1, .int .u64 h.f2, .int .u64 h.f3, .int .u64 h.f4, .slice A5 h.f5.length c5, .slice A6 h.f6.length c6, .slice A7 h.f7.length c7, .slice A8 h.f8.length c8] 79).alloc (.cells #[.int .i64 0, .int .u64 0, .int .u64 0, .int .u64 0, .int .u64 0, .slice none 0 0, .slice none 0 0, .slice none 0 0, .slice none 0 0] 64))
  have Y := Aside0.mk (Blk.at1 (w := w) (.cells #[.int .i64 h.f0, .int .u64 h.f1, .int .u64 h.f2, .int .u64 h.f3, .int .u64 h.f4, .slice A5 h.f5.length c5, .slice A6 h.f6.length c6, .slice A7 h.f7.length c7, .slice A8 h.f8.length c8] 79) #[.int .i64 0, .int .u64 0, .int .u64 0, .int .u64 0, .int .u64 0, .slice none 0 0, .slice none 0 0, .slice none 0 0, .slice none 0 0] 64)
  have hx := fun i => X.out.cell i
  have hy := fun i => Y.out.cell i
  have zy := fun i => blk_frozen Y.out i
  have HV := Aside0.mk (hv.below B.out)
  have H7 := Aside0.mk (k7.below B.out)
  have H8 := Aside0.mk (k8.below B.out)
  clear hv k7 k8
  go_enter Try.func119, Try.ntmps119
  go_wp2_with (first | (go_at_call 96; (with_reducible refine (KC.out _ _ HV.out).mono ?_); rintro e W1 ⟨rfl, hb⟩; replace B := Aside0.mk (below_then B.out B.out.size hb); replace HV := Aside0.mk (HV.out.below hb); replace H7 := Aside0.mk (H7.out.below hb); replace H8 := Aside0.mk (H8.out.below hb); replace X := Aside0.mk (X.out.below hb); replace hx := fun i => X.out.cell i; replace Y := Aside0.mk (Y.out.below hb); replace hy := fun i => Y.out.cell i; replace zy := fun i => blk_frozen Y.out i; have hxa := fun i => (X.out.alloc (.cells #[.int .u64 h.f2, .int .u64 h.f3] 62)).cell i; have hya := fun i => (Y.out.alloc (.cells #[.int .u64 h.f2, .int .u64 h.f3] 62)).cell i; clear  hb))
  (try clear hxa hya)
  have hal := below_alloc (Below.refl W1.heap.size W1) (.cells #[.int .u64 h.f2, .int .u64 h.f3] 62)
  replace B := Aside0.mk (below_then B.out B.out.size hal)
  replace HV := Aside0.mk (HV.out.below hal)
  replace H7 := Aside0.mk (H7.out.below hal)
  replace H8 := Aside0.mk (H8.out.below hal)
  replace X := Aside0.mk (X.out.alloc (.cells #[.int .u64 h.f2, .int .u64 h.f3] 62)); replace hx := fun i => X.out.cell i
  replace Y := Aside0.mk (Y.out.alloc (.cells #[.int .u64 h.f2, .int .u64 h.f3] 62)); replace hy := fun i => Y.out.cell i
  have L := Aside0.mk (Blk.new W1 #[.int .u64 h.f2, .int .u64 h.f3] 62); have hl := fun i => L.out.cell i; clear hal
  have SL := Aside0.mk (show SI (Kd.int .u64) (W1.alloc (.cells #[.int .u64 h.f2, .int .u64 h.f3] 62)) (.slice (some ⟨W1.heap.size, 0, none⟩) 2 2) [h.f2, h.f3] from .of (C_of_blk (d := Kd.int .u64) [h.f2, h.f3] (show (W1.alloc (.cells #[.int .u64 h.f2, .int .u64 h.f3] 62)).heap[W1.heap.size]? = some (.cells #[.int .u64 h.f2, .int .u64 h.f3] 62 (0, 0)) from L.out) (reps_nums _ .u64 [h.f2, h.f3]) (by simp)) (Nat.le_refl _))
  go_wp2_with (first | (go_at_call 170; (with_reducible refine (WA.out _ _ SL.out).mono ?_); rintro e W2 ⟨l0, rfl, -, hb⟩; replace B := Aside0.mk (below_then B.out B.out.size hb); replace HV := Aside0.mk (HV.out.below hb); replace H7 := Aside0.mk (H7.out.below hb); replace H8 := Aside0.mk (H8.out.below hb); replace X := Aside0.mk (X.out.below hb); replace hx := fun i => X.out.cell i; replace Y := Aside0.mk (Y.out.below hb); replace hy := fun i => Y.out.cell i; replace zy := fun i => blk_frozen Y.out i; replace L := Aside0.mk (L.out.below hb); replace hl := fun i => L.out.cell i; clear  hb) | (go_at_call 170; (with_reducible refine (WB.out _ _ H7.out).mono ?_); rintro e W3 ⟨l1, rfl, -, hb⟩; replace B := Aside0.mk (below_then B.out B.out.size hb); replace HV := Aside0.mk (HV.out.below hb); replace H7 := Aside0.mk (H7.out.below hb); replace H8 := Aside0.mk (H8.out.below hb); replace X := Aside0.mk (X.out.below hb); replace hx := fun i => X.out.cell i; replace Y := Aside0.mk (Y.out.below hb); replace hy := fun i => Y.out.cell i; replace zy := fun i => blk_frozen Y.out i; replace L := Aside0.mk (L.out.below hb); replace hl := fun i => L.out.cell i; clear  hb) | (go_at_call 170; (with_reducible refine (WC.out _ _ H8.out).mono ?_); rintro e W4 ⟨l2, rfl, -, hb⟩; replace B := Aside0.mk (below_then B.out B.out.size hb); replace HV := Aside0.mk (HV.out.below hb); replace H7 := Aside0.mk (H7.out.below hb); replace H8 := Aside0.mk (H8.out.below hb); replace X := Aside0.mk (X.out.below hb); replace hx := fun i => X.out.cell i; replace Y := Aside0.mk (Y.out.below hb); replace hy := fun i => Y.out.cell i; replace zy := fun i => blk_frozen Y.out i; replace L := Aside0.mk (L.out.below hb); replace hl := fun i => L.out.cell i; clear  hb))
  refine bodyPost_ret (results_ct rfl _ _ (w.heap.size + 1) 64 #[.int .i64 0, .int .u64 0, .int .u64 0, .int .u64 0, .int .u64 0, .slice none 0 0, .slice none 0 0, .slice none 0 0, .slice none 0 0] (0, 0) _ rfl (nine Y.out _ _ _ _ _ _ _ _ _) Try.underlying64 rfl (by kernel_rfl)) rfl ?_
  exact ⟨rfl, nine_below B.out (by omega) _ _ _ _ _ _ _ _ _⟩
end Go.Proofs.Ytacgeafjilipdaa.P
namespace Go.Proofs.Ytacgeafjilipdaa.P
open Go.RowKit Go.Proofs.YtacgeafjilipdaaW.PrintWords Go.Proofs.YtacgeafjilipdaaW.PrintLast Go.Proofs.YtacgeafjilipdaaW.PrintMore
attribute [local go_sem] max2_int min2_int max_two min_two max_three min_three max_four min_four
set_option linter.unusedVariables false
set_option linter.unusedSimpArgs false
attribute [local go_sem high] eqA144
def tidepolelaw10_one.f  : Option (Int × Int × Int × Int × Int × (List (S144)) × (List (S144)) × List Int × List Int) := some (0, 1, 4602678819172646912, 4613937818241073152, 0, (([(⟨3, 2⟩ : S144)] : List (S144))), ([] : List (S144)), (([4613937818241073152, 0] : List Int)), ([] : List Int))
set_option maxHeartbeats 8000000 in
set_option maxRecDepth 100000 in
theorem tidepolelaw10_one.calls  (r1 : Int) (r2 : Int) (r3 : Int) (r4 : Int) (r5 : Int) (r6 : List (S144)) (r7 : List (S144)) (r8 : List Int) (r9 : List Int) (w : World) (h : tidepolelaw10_one.f  = some (r1, r2, r3, r4, r5, r6, r7, r8, r9)) :
  Calls Try.prog 158 #[] w fun e w' => ∃ v5_ v6_ v7_ v8_ : Value, e = .returned (.agg #[.int .i64 r1, .int .u64 r2, .int .u64 r3, .int .u64 r4, .int .u64 r5, v5_, v6_, v7_, v8_]) ∧ Kd.R k144 144 w' w.heap.size (fun k_ => some k_ ≠ (v6_ : Value).ownBlock) v5_ r6 ∧ Kd.R k144 144 w' w.heap.size (fun k_ => some k_ ≠ (v5_ : Value).ownBlock) v6_ r7 ∧ Kd.R (Kd.int .u64) 62 w' w.heap.size (fun k_ => some k_ ≠ (v8_ : Value).ownBlock) v7_ r8 ∧ Kd.R (Kd.int .u64) 62 w' w.heap.size (fun k_ => some k_ ≠ (v7_ : Value).ownBlock) v8_ r9 ∧ Below w.heap.size w w' := by
 have hu79 := Try.underlying79
 have hu144 := Try.underlying144
 have HB := Aside0.mk (Below.refl w.heap.size w)
 have H : (some (0, 1, 4602678819172646912, 4613937818241073152, 0, (([(⟨3, 2⟩ : S144)] : List (S144))), ([] : List (S144)), (([4613937818241073152, 0] : List Int)), ([] : List Int))) = some (r1, r2, r3, r4, r5, r6, r7, r8, r9) := h
 clear h
 obtain ⟨y102, hy102⟩ : ∃ y_ : List (S144), y_ = (([(⟨3, 2⟩ : S144)] : List (S144))) := ⟨_, rfl⟩
 replace H : (some (0, 1, 4602678819172646912, 4613937818241073152, 0, y102, ([] : List (S144)), (([4613937818241073152, 0] : List Int)), ([] : List Int))) = some (r1, r2, r3, r4, r5, r6, r7, r8, r9) := by first | (rw [hy102]; with_reducible exact H) | (have H2_ := (Option.bind_some _ _).symm.trans H; rw [hy102]; with_reducible exact H2_) | (have H2_ := (Option.bind_some _ _).symm.trans H; with_reducible exact H2_) | with_reducible exact H | (rw [hy102]; exact H) | exact H
 have Ny102 := Aside0.mk hy102
 clear hy102
 obtain ⟨y105, hy105⟩ : ∃ y_ : List Int, y_ = (([4613937818241073152, 0] : List Int)) := ⟨_, rfl⟩
 replace H : (some (0, 1, 4602678819172646912, 4613937818241073152, 0, y102, ([] : List (S144)), y105, ([] : List Int))) = some (r1, r2, r3, r4, r5, r6, r7, r8, r9) := by first | (rw [hy105]; with_reducible exact H) | (have H2_ := (Option.bind_some _ _).symm.trans H; rw [hy105]; with_reducible exact H2_) | (have H2_ := (Option.bind_some _ _).symm.trans H; with_reducible exact H2_) | with_reducible exact H | (rw [hy105]; exact H) | exact H
 have Ny105 := Aside0.mk hy105
 clear hy105
 simp only [Option.some.injEq, Prod.mk.injEq] at H
 obtain ⟨rfl, rfl, rfl, rfl, rfl, rfl, rfl, rfl, rfl⟩ := H
 go_enter Try.func158, Try.ntmps158
 go_wp2_with (first | ((with_reducible refine gate_dst (N := 0) rfl ?_); refine box_event ?hg (N := 0) ?hd (cs := #[.int .i64 0, .int .u64 0, .int .u64 0, .int .u64 0, .int .u64 0, .slice none 0 0, .slice none 0 0, .slice none 0 0, .slice none 0 0]) (t := 79) ?hr ?_; (case hd => rfl); (case hg => rfl); (case hr => first | (go_simp; done) | (go_simp; rfl)); intro gb101 hg w1 hbox hb; have n0_ := Aside0.mk (below_step (by repeat (first | (with_reducible first | exact HB.out | apply below_alloc | apply pw_below_drewN | apply below_drew1) | exact HB.out)) hb); have n1_ := Aside0.mk (hbox); have n2_ := Aside0.mk ((by rw [hg]; exact (below_size (by repeat (first | (with_reducible first | exact HB.out | apply below_alloc | apply pw_below_drewN | apply below_drew1) | exact HB.out))) : w.heap.size ≤ gb101)); have n3_ := Aside0.mk ((by rw [hg]; exact (below_size (by repeat (first | (with_reducible first | exact HB.out | apply below_alloc | apply pw_below_drewN | apply below_drew1) | exact HB.out))) : w.heap.size ≤ gb101)); clear HB; have HB := n0_; have BK101 := n1_; have GW101 := n2_; have GE101 := n3_; clear n0_ n1_ n2_ n3_; clear hb hbox hg) | ((with_reducible refine gate_dst (N := 2) rfl ?_); refine Kd.R_lit k144 _ 144 ?hg (N := 2) ?hd (xs := ([(⟨3, 2⟩ : S144)] : List (S144))) (inner := [.int .i64 3, .int .i64 2]) (ok := fun _ => True) (okp := fun _ => True) ?hr ?hp (fun _ hk => hk) trivial (Below.refl _ _) (Nat.le_refl _) (by simp) ?_; (case hd => rfl); (case hg => rfl); (case hr => first | (go_simp; done) | (go_simp; rfl)); (case hp => exact (Reps.c2 (show Kd.M k144 _ _ _ (⟨3, 2⟩ : S144) [.int .i64 3, .int .i64 2] from (k144_mkM _ _ _ (⟨3, 2⟩ : S144) )) (Reps.none _ _))); intro v103 w2 ho3 hb hg_ hnew_; clear hg_ hnew_; (first | rw [← Ny102.out] at ho3 | (simp only [Int.reduceToNat] at ho3; rw [← Ny102.out] at ho3)); have n0_ := Aside0.mk (Kd.R_lower ho3 (below_size (by repeat (first | (with_reducible first | exact HB.out | apply below_alloc | apply pw_below_drewN | apply below_drew1 | refine below_set ?_ GE101.out) | exact HB.out)))); have n1_ := Aside0.mk (blk_below (g := gb101) (o := .cells #[.int .i64 0, .int .u64 0, .int .u64 0, .int .u64 0, .int .u64 0, .slice none 0 0, .slice none 0 0, .slice none 0 0, .slice none 0 0] 79 (0, 0)) (by (with_reducible repeat (first | refine blk_drewN ?_ _ | refine blk_drew ?_ | refine blk_alloc ?_ _)); exact BK101.out) hb); have n2_ := Aside0.mk (below_step (by repeat (first | (with_reducible first | exact HB.out | apply below_alloc | apply pw_below_drewN | apply below_drew1 | refine below_set ?_ GE101.out) | exact HB.out)) hb); clear BK101; clear HB; have HO104 := n0_; have BK101 := n1_; have HB := n2_; clear n0_ n1_ n2_; clear hb ho3) | ((with_reducible refine gate_dst (N := 3) rfl ?_); refine Kd.R_lit (Kd.int .u64) _ 62 ?hg (N := 3) ?hd (xs := ([4613937818241073152, 0] : List Int)) (inner := [.int .u64 4613937818241073152, .int .u64 0]) (ok := fun _ => True) (okp := fun _ => True) ?hr ?hp (fun _ hk => hk) trivial (Below.refl _ _) (Nat.le_refl _) (by simp) ?_; (case hd => rfl); (case hg => rfl); (case hr => first | (go_simp; done) | (go_simp; rfl)); (case hp => exact (Reps.one (show Kd.M (Kd.int .u64) _ _ _ 4613937818241073152 [.int .u64 4613937818241073152] from rfl) (Reps.one (show Kd.M (Kd.int .u64) _ _ _ 0 [.int .u64 0] from rfl) (Reps.none _ _)))); intro v106 w4 ho5 hb hg_ hnew_; clear hg_ hnew_; (first | rw [← Ny105.out] at ho5 | (simp only [Int.reduceToNat] at ho5; rw [← Ny105.out] at ho5)); have n0_ := Aside0.mk (Kd.R_below (by (with_reducible repeat (first | apply Kd.R_alloc | apply Kd.R_drewN | apply Kd.R_drew)); exact HO104.out) hb); have n1_ := Aside0.mk (Kd.R_lower ho5 (below_size (by repeat (first | (with_reducible first | exact HB.out | apply below_alloc | apply pw_below_drewN | apply below_drew1 | refine below_set ?_ GE101.out) | exact HB.out)))); have n2_ := Aside0.mk (blk_below (g := gb101) (o := .cells #[.int .i64 0, .int .u64 0, .int .u64 0, .int .u64 0, .int .u64 0, .slice none 0 0, .slice none 0 0, .slice none 0 0, .slice none 0 0] 79 (0, 0)) (by (with_reducible repeat (first | refine blk_drewN ?_ _ | refine blk_drew ?_ | refine blk_alloc ?_ _)); exact BK101.out) hb); have n3_ := Aside0.mk (below_step (by repeat (first | (with_reducible first | exact HB.out | apply below_alloc | apply pw_below_drewN | apply below_drew1 | refine below_set ?_ GE101.out) | exact HB.out)) hb); clear HO104; clear BK101; clear HB; have HO104 := n0_; have HO107 := n1_; have BK101 := n2_; have HB := n3_; clear n0_ n1_ n2_ n3_; clear hb ho5; obtain ⟨Ao6, co6, eo6⟩ := Kd.R_slice HO107.out; subst eo6; obtain ⟨Ao7, co7, eo7⟩ := Kd.R_slice HO104.out; subst eo7; have hcz8_0 : w4.cell? ⟨gb101, 0, none⟩ = some (.int .i64 0) := (blk_cell BK101.out 0).trans rfl; have hcz8_1 : w4.cell? ⟨gb101, 1, none⟩ = some (.int .u64 0) := (blk_cell BK101.out 1).trans rfl; have hcz8_2 : w4.cell? ⟨gb101, 2, none⟩ = some (.int .u64 0) := (blk_cell BK101.out 2).trans rfl; have hcz8_3 : w4.cell? ⟨gb101, 3, none⟩ = some (.int .u64 0) := (blk_cell BK101.out 3).trans rfl; have hcz8_4 : w4.cell? ⟨gb101, 4, none⟩ = some (.int .u64 0) := (blk_cell BK101.out 4).trans rfl; have hcz8_5 : w4.cell? ⟨gb101, 5, none⟩ = some (.slice none 0 0) := (blk_cell BK101.out 5).trans rfl; have hcz8_6 : w4.cell? ⟨gb101, 6, none⟩ = some (.slice none 0 0) := (blk_cell BK101.out 6).trans rfl; have hcz8_7 : w4.cell? ⟨gb101, 7, none⟩ = some (.slice none 0 0) := (blk_cell BK101.out 7).trans rfl; have hcz8_8 : w4.cell? ⟨gb101, 8, none⟩ = some (.slice none 0 0) := (blk_cell BK101.out 8).trans rfl; have hfz8_0 := blk_frozen BK101.out 0; have hfz8_1 := blk_frozen BK101.out 1; have hfz8_2 := blk_frozen BK101.out 2; have hfz8_3 := blk_frozen BK101.out 3; have hfz8_4 := blk_frozen BK101.out 4; have hfz8_5 := blk_frozen BK101.out 5; have hfz8_6 := blk_frozen BK101.out 6; have hfz8_7 := blk_frozen BK101.out 7; have hfz8_8 := blk_frozen BK101.out 8))
 refine bodyPost_ret (results_cell_row rfl _ _ gb101 79 #[.int .i64 0, .int .u64 1, .int .u64 4602678819172646912, .int .u64 4613937818241073152, .int .u64 0, .slice Ao7 y102.length co7, .slice none 0 0, .slice Ao6 y105.length co6, .slice none 0 0] (0, 0) _ rfl (by (with_reducible repeat (first | refine blk_drewN ?_ _ | refine blk_drew ?_ | refine blk_alloc ?_ _)); refine blk_put (cs := #[.int .i64 0, .int .u64 1, .int .u64 4602678819172646912, .int .u64 4613937818241073152, .int .u64 0, .slice Ao7 y102.length co7, .slice none 0 0, .slice Ao6 y105.length co6, .slice none 0 0]) ?_ 8 _ rfl; (with_reducible repeat (first | refine blk_drewN ?_ _ | refine blk_drew ?_ | refine blk_alloc ?_ _)); refine blk_put (cs := #[.int .i64 0, .int .u64 1, .int .u64 4602678819172646912, .int .u64 4613937818241073152, .int .u64 0, .slice Ao7 y102.length co7, .slice none 0 0, .slice none 0 0, .slice none 0 0]) ?_ 7 _ rfl; (with_reducible repeat (first | refine blk_drewN ?_ _ | refine blk_drew ?_ | refine blk_alloc ?_ _)); refine blk_put (cs := #[.int .i64 0, .int .u64 1, .int .u64 4602678819172646912, .int .u64 4613937818241073152, .int .u64 0, .slice Ao7 y102.length co7, .slice none 0 0, .slice none 0 0, .slice none 0 0]) ?_ 6 _ rfl; (with_reducible repeat (first | refine blk_drewN ?_ _ | refine blk_drew ?_ | refine blk_alloc ?_ _)); refine blk_put (cs := #[.int .i64 0, .int .u64 1, .int .u64 4602678819172646912, .int .u64 4613937818241073152, .int .u64 0, .slice none 0 0, .slice none 0 0, .slice none 0 0, .slice none 0 0]) ?_ 5 _ rfl; (with_reducible repeat (first | refine blk_drewN ?_ _ | refine blk_drew ?_ | refine blk_alloc ?_ _)); refine blk_put (cs := #[.int .i64 0, .int .u64 1, .int .u64 4602678819172646912, .int .u64 4613937818241073152, .int .u64 0, .slice none 0 0, .slice none 0 0, .slice none 0 0, .slice none 0 0]) ?_ 4 _ rfl; (with_reducible repeat (first | refine blk_drewN ?_ _ | refine blk_drew ?_ | refine blk_alloc ?_ _)); refine blk_put (cs := #[.int .i64 0, .int .u64 1, .int .u64 4602678819172646912, .int .u64 0, .int .u64 0, .slice none 0 0, .slice none 0 0, .slice none 0 0, .slice none 0 0]) ?_ 3 _ rfl; (with_reducible repeat (first | refine blk_drewN ?_ _ | refine blk_drew ?_ | refine blk_alloc ?_ _)); refine blk_put (cs := #[.int .i64 0, .int .u64 1, .int .u64 0, .int .u64 0, .int .u64 0, .slice none 0 0, .slice none 0 0, .slice none 0 0, .slice none 0 0]) ?_ 2 _ rfl; (with_reducible repeat (first | refine blk_drewN ?_ _ | refine blk_drew ?_ | refine blk_alloc ?_ _)); refine blk_put (cs := #[.int .i64 0, .int .u64 0, .int .u64 0, .int .u64 0, .int .u64 0, .slice none 0 0, .slice none 0 0, .slice none 0 0, .slice none 0 0]) ?_ 1 _ rfl; (with_reducible repeat (first | refine blk_drewN ?_ _ | refine blk_drew ?_ | refine blk_alloc ?_ _)); refine blk_put (cs := #[.int .i64 0, .int .u64 0, .int .u64 0, .int .u64 0, .int .u64 0, .slice none 0 0, .slice none 0 0, .slice none 0 0, .slice none 0 0]) ?_ 0 _ rfl; (with_reducible repeat (first | refine blk_drewN ?_ _ | refine blk_drew ?_ | refine blk_alloc ?_ _)); exact BK101.out) Try.underlying79 rfl (by kernel_rfl)) rfl ?_
 exact ⟨_, _, _, _, by first | rfl | (simp [errW_none, errW_some] <;> rfl) | (simp [*, errW_none, errW_some] <;> rfl), by (with_reducible repeat (first | apply Kd.R_alloc | apply Kd.R_drewN | apply Kd.R_drew)); exact Kd.R_mono (Kd.R_far (p := ⟨gb101, 8, none⟩) (Kd.R_far (p := ⟨gb101, 7, none⟩) (Kd.R_far (p := ⟨gb101, 6, none⟩) (Kd.R_far (p := ⟨gb101, 5, none⟩) (Kd.R_far (p := ⟨gb101, 4, none⟩) (Kd.R_far (p := ⟨gb101, 3, none⟩) (Kd.R_far (p := ⟨gb101, 2, none⟩) (Kd.R_far (p := ⟨gb101, 1, none⟩) (Kd.R_far (p := ⟨gb101, 0, none⟩) (Kd.R_types HO104.out BK101.out (by decide)) (fun _ hk => hk.2) (.int .i64 0)) (fun _ hk => hk.2) (.int .u64 1)) (fun _ hk => hk.2) (.int .u64 4602678819172646912)) (fun _ hk => hk.2) (.int .u64 4613937818241073152)) (fun _ hk => hk.2) (.int .u64 0)) (fun _ hk => hk.2) (.slice Ao7 y102.length co7)) (fun _ hk => hk.2) (.slice none 0 0)) (fun _ hk => hk.2) (.slice Ao6 y105.length co6)) (fun _ hk => hk.2) (.slice none 0 0)) (fun _ hk => (by simp [Value.ownBlock])), by first | exact Kd.R_nil _ _ _ _ _ | exact Kd.N_nil _ _ _ _ _ | exact Kd.V_nil _ _ _ _ _ | exact Kd.Q_nil _ _ _ _ _ | exact Kd.S_nil _ _ _ _ _, by (with_reducible repeat (first | apply Kd.R_alloc | apply Kd.R_drewN | apply Kd.R_drew)); exact Kd.R_mono (Kd.R_far (p := ⟨gb101, 8, none⟩) (Kd.R_far (p := ⟨gb101, 7, none⟩) (Kd.R_far (p := ⟨gb101, 6, none⟩) (Kd.R_far (p := ⟨gb101, 5, none⟩) (Kd.R_far (p := ⟨gb101, 4, none⟩) (Kd.R_far (p := ⟨gb101, 3, none⟩) (Kd.R_far (p := ⟨gb101, 2, none⟩) (Kd.R_far (p := ⟨gb101, 1, none⟩) (Kd.R_far (p := ⟨gb101, 0, none⟩) (Kd.R_types HO107.out BK101.out (by decide)) (fun _ hk => hk.2) (.int .i64 0)) (fun _ hk => hk.2) (.int .u64 1)) (fun _ hk => hk.2) (.int .u64 4602678819172646912)) (fun _ hk => hk.2) (.int .u64 4613937818241073152)) (fun _ hk => hk.2) (.int .u64 0)) (fun _ hk => hk.2) (.slice Ao7 y102.length co7)) (fun _ hk => hk.2) (.slice none 0 0)) (fun _ hk => hk.2) (.slice Ao6 y105.length co6)) (fun _ hk => hk.2) (.slice none 0 0)) (fun _ hk => (by simp [Value.ownBlock])), by first | exact Kd.R_nil _ _ _ _ _ | exact Kd.N_nil _ _ _ _ _ | exact Kd.V_nil _ _ _ _ _ | exact Kd.Q_nil _ _ _ _ _ | exact Kd.S_nil _ _ _ _ _, by repeat (first | (with_reducible first | exact HB.out | apply below_alloc | apply pw_below_drewN | apply below_drew1 | refine below_set ?_ GE101.out) | exact HB.out)⟩
def tidepolelaw10_spans.l0 : Nat → List (S147) → List (S144) → Int → Int → Option ((List (S147)))
 | 0, _, _, _, _ => none
 | k + 1, x3, x6, x7, x8 => if x8 < x7 then (if 0 ≤ x8 then (if x8 < (x6.length : Int) then (if x3.length < 8796093022208 then (tidepolelaw10_spans.l0 k (x3 ++ [(⟨(rd_T144 x6 x8).f0, (rd_T144 x6 x8).f1⟩ : S147)]) x6 x7 (wrap64 (x8 + 1))) else (none)) else (none)) else (none)) else (some x3)
def tidepolelaw10_spans.f (k : Nat) (l0 : List (S144)) : Option ((List (S147))) := tidepolelaw10_spans.l0 k ([] : List (S147)) l0 (l0.length : Int) 0
set_option maxHeartbeats 8000000 in
set_option maxRecDepth 100000 in
theorem tidepolelaw10_spans.calls (k : Nat) (A0 : Option Addr) (c0 : Nat) (l0 : List (S144)) (r : List (S147)) (w : World) (hr0 : Kd.C k144 w A0 l0.length l0) (hc0 : l0.length ≤ c0) (h : tidepolelaw10_spans.f k l0 = some r) :
  Calls Try.prog 107 #[.slice A0 l0.length c0] w fun e w' => ∃ v0_ : Value, e = .returned (v0_) ∧ Kd.R k147 147 w' w.heap.size (fun _ => True) v0_ r ∧ Below w.heap.size w w' := by
 have hu144 := Try.underlying144
 have hu147 := Try.underlying147
 have HR0 := Aside0.mk hr0
 have HC0 := Aside0.mk hc0
 clear hr0 hc0
 have HB := Aside0.mk (Below.refl w.heap.size w)
 have H : (tidepolelaw10_spans.l0 k ([] : List (S147)) l0 (l0.length : Int) 0) = some r := h
 clear h
 have H' := Aside0.mk H
 clear H
 go_enter Try.func107, Try.ntmps107
 go_wp2
 go_loopg [3, 8] k (fun kq v3 v8 w' => ∃ (x3_1 : List (S147)) (x8_1 : Int), v8 = .int .i64 x8_1 ∧ Aside0 (tidepolelaw10_spans.l0 kq x3_1 l0 (l0.length : Int) x8_1 = some r) ∧ Aside0 (kq ≤ k) ∧ Aside0 (Kd.R k147 147 w' w.heap.size (fun _ => True) v3 x3_1) ∧ Aside0 (Below w.heap.size w w'))
 case atStart => exact ⟨(([] : List (S147))), (0), (by first | rfl | (simp; done) | (simp [*]; done)), H', ⟨Nat.le_refl _⟩, ⟨by first | exact Kd.R_nil _ _ _ _ _ | exact Kd.N_nil _ _ _ _ _ | exact Kd.V_nil _ _ _ _ _ | exact Kd.Q_nil _ _ _ _ _ | exact Kd.S_nil _ _ _ _ _⟩, ⟨by repeat (first | (with_reducible first | exact HB.out | apply below_alloc | apply pw_below_drewN | apply below_drew1) | exact HB.out)⟩⟩
 case round =>
  clear H'
  try clear c1
  obtain ⟨x3_1, x8_1, rfl, HA, HK1, HO_3, HB⟩ := hrel
  cases gk with
  | zero => exact absurd HA.out (by simp [tidepolelaw10_spans.l0])
  | succ k1 =>
   have H := HA.out
   clear HA
   simp only [tidepolelaw10_spans.l0] at H
   by_cases c2 : x8_1 < (l0.length : Int)
   ·rw [if_pos c2] at H
    have c2b0 : decide (x8_1 < (l0.length : Int)) = true := decide_eq_true c2
    clear c2
    by_cases c3 : 0 ≤ x8_1
    ·rw [if_pos c3] at H
     have c3b0 : decide (0 ≤ x8_1) = true := decide_eq_true c3
     clear c3
     by_cases c4 : x8_1 < (l0.length : Int)
     ·rw [if_pos c4] at H
      have c4b0 : decide (x8_1 < (l0.length : Int)) = true := decide_eq_true c4
      clear c4
      by_cases c5 : x3_1.length < 8796093022208
      ·rw [if_pos c5] at H
       have LMc5 := Aside0.mk c5
       clear c5
       obtain ⟨y103, hy103⟩ : ∃ y_ : List (S147), y_ = (x3_1 ++ [(⟨(rd_T144 l0 x8_1).f0, (rd_T144 l0 x8_1).f1⟩ : S147)]) := ⟨_, rfl⟩
       replace H : (tidepolelaw10_spans.l0 k1 y103 l0 (l0.length : Int) (wrap64 (x8_1 + 1))) = some r := by first | (rw [hy103]; with_reducible exact H) | (have H2_ := (Option.bind_some _ _).symm.trans H; rw [hy103]; with_reducible exact H2_) | (have H2_ := (Option.bind_some _ _).symm.trans H; with_reducible exact H2_) | with_reducible exact H | (rw [hy103]; exact H) | exact H
       have Ny103 := Aside0.mk hy103
       clear hy103
       have H' := Aside0.mk H
       clear H
       have p101 : 0 ≤ (x8_1 : Int) := of_decide_eq_true (by first | (with_reducible assumption) | assumption)
       have q101 : x8_1 < (l0.length : Int) := of_decide_eq_true (by first | (with_reducible assumption) | assumption)
       obtain ⟨ad101, e101, hx101_0, hx101_1⟩ := at_T144 HR0.out x8_1 p101 q101
       cases e101
       replace hx101_0 := (HB.out.cell (World.block_lt_of_cell? w _ hx101_0)).trans hx101_0
       replace hx101_1 := (HB.out.cell (World.block_lt_of_cell? w _ hx101_1)).trans hx101_1
       replace p101 := eq_true p101
       replace q101 := eq_true q101
       go_wp2_with (first | ((with_reducible refine gate_dst (N := 5) rfl ?_); refine box_event ?hg (N := 5) ?hd (cs := #[.int .i64 0, .int .i64 0]) (t := 144) ?hr ?_; (case hd => rfl); (case hg => rfl); (case hr => first | (go_simp; done) | (go_simp; rfl)); intro gb102 hg w6 hbox hb; have n0_ := Aside0.mk (Kd.R_below (by (with_reducible repeat (first | apply Kd.R_alloc | apply Kd.R_drewN | apply Kd.R_drew)); exact HO_3.out) hb); have n1_ := Aside0.mk (below_step (by repeat (first | (with_reducible first | exact HB.out | apply below_alloc | apply pw_below_drewN | apply below_drew1) | exact HB.out)) hb); have n2_ := Aside0.mk (hbox); have n3_ := Aside0.mk ((by rw [hg]; exact (below_size (by repeat (first | (with_reducible first | exact HB.out | apply below_alloc | apply pw_below_drewN | apply below_drew1) | exact HB.out))) : w.heap.size ≤ gb102)); have n4_ := Aside0.mk ((by rw [hg]; exact (below_size (by repeat (first | (with_reducible first | exact HB.out | apply below_alloc | apply pw_below_drewN | apply below_drew1) | exact HB.out))) : w.heap.size ≤ gb102)); clear HO_3; clear HB; have HO_3 := n0_; have HB := n1_; have BK102 := n2_; have GW102 := n3_; have GE102 := n4_; clear n0_ n1_ n2_ n3_ n4_; clear hb hbox hg; have hcz7_0 : w6.cell? ⟨gb102, 0, none⟩ = some (.int .i64 0) := (blk_cell BK102.out 0).trans rfl; have hcz7_1 : w6.cell? ⟨gb102, 1, none⟩ = some (.int .i64 0) := (blk_cell BK102.out 1).trans rfl; have hfz7_0 := blk_frozen BK102.out 0; have hfz7_1 := blk_frozen BK102.out 1) | ((with_reducible refine gate_builtin (b := .append) (xs := #[.tmp 12, .tmp 18]) rfl ?_); at_builtin; refine Kd.R_append k147 (w0 := w) w.heap.size rfl (.tmp 12) (.tmp 18) 35 147 (.agg #[(.int .i64 0), (.int .i64 0)]) 16 rfl Try.underlying35 info147 rfl (by decide) (by omega) u3 x3_1 (⟨(rd_T144 l0 x8_1).f0, (rd_T144 l0 x8_1).f1⟩ : S147) [.int .i64 ((rd_T144 l0 x8_1).f0), .int .i64 ((rd_T144 l0 x8_1).f1)] (fun _ => True) (fun _ => False) rfl (by first | (go_simp; done) | (go_simp; rfl)) ?aP (fun _ hk => hk.elim) ?aF ?aO ?aB ?aS ?aL ?_; (case aP => exact k147_mkM _ _ _ (⟨(rd_T144 l0 x8_1).f0, (rd_T144 l0 x8_1).f1⟩ : S147)); (case aB => exact (by repeat (first | (with_reducible first | exact HB.out | apply below_alloc | apply pw_below_drewN | apply below_drew1 | refine below_set ?_ GE102.out) | exact HB.out))); (case aF => exact (fun _ _ => trivial)); (case aO => exact (by (with_reducible repeat (first | apply Kd.R_alloc | apply Kd.R_drewN | apply Kd.R_drew)); exact Kd.R_mono (Kd.R_far (p := ⟨gb102, 1, none⟩) (Kd.R_far (p := ⟨gb102, 0, none⟩) (Kd.R_types HO_3.out BK102.out (by decide)) (fun _ hk => hk.2) (.int .i64 ((rd_T144 l0 x8_1).f0))) (fun _ hk => hk.2) (.int .i64 ((rd_T144 l0 x8_1).f1))) (fun _ hk => trivial))); (case aS => exact (below_size (by repeat (first | (with_reducible first | exact HB.out | apply below_alloc | apply pw_below_drewN | apply below_drew1 | refine below_set ?_ GE102.out) | exact HB.out)))); (case aL => have := LMc5.out; omega); intro v104 w8 ho hb hg hat; rw [← Ny103.out] at ho; have n0_ := Aside0.mk (blk_grown (g := gb102) (o := .cells #[.int .i64 ((rd_T144 l0 x8_1).f0), .int .i64 ((rd_T144 l0 x8_1).f1)] 144 (0, 0)) (by (with_reducible repeat (first | refine blk_drewN ?_ _ | refine blk_drew ?_ | refine blk_alloc ?_ _)); refine blk_put (cs := #[.int .i64 ((rd_T144 l0 x8_1).f0), .int .i64 0]) ?_ 1 _ rfl; (with_reducible repeat (first | refine blk_drewN ?_ _ | refine blk_drew ?_ | refine blk_alloc ?_ _)); refine blk_put (cs := #[.int .i64 0, .int .i64 0]) ?_ 0 _ rfl; (with_reducible repeat (first | refine blk_drewN ?_ _ | refine blk_drew ?_ | refine blk_alloc ?_ _)); exact BK102.out) hg (Kd.R_ne HO_3.out BK102.out (by decide))); have n1_ := Aside0.mk (hb); have n2_ := Aside0.mk (ho); clear BK102; clear HB; clear HO_3; have BK102 := n0_; have HB := n1_; have HO105 := n2_; clear n0_ n1_ n2_; clear ho hb hg hat))
       go_roundg k1
       case measure => have := HK1.out; omega
       case rel => exact ⟨(y103), (wrap64 (x8_1 + 1)), (by first | rfl | (simp; done) | (simp [*]; done)), H', ⟨by have := HK1.out; omega⟩, ⟨by (with_reducible repeat (first | apply Kd.R_alloc | apply Kd.R_drewN | apply Kd.R_drew)); exact HO105.out⟩, ⟨by repeat (first | (with_reducible first | exact HB.out | apply below_alloc | apply pw_below_drewN | apply below_drew1 | refine below_set ?_ GE102.out) | exact HB.out)⟩⟩
      ·rw [if_neg c5] at H
       exact absurd H (by simp)
     ·rw [if_neg c4] at H
      exact absurd H (by simp)
    ·rw [if_neg c3] at H
     exact absurd H (by simp)
   ·rw [if_neg c2] at H
    have c2b0 : decide (x8_1 < (l0.length : Int)) = false := decide_eq_false c2
    clear c2
    obtain rfl := Option.some.inj H
    go_wp2
    go_ret
    exact ⟨_, by first | rfl | (simp [errW_none, errW_some] <;> rfl) | (simp [*, errW_none, errW_some] <;> rfl), by (with_reducible repeat (first | apply Kd.R_alloc | apply Kd.R_drewN | apply Kd.R_drew)); exact HO_3.out, by repeat (first | (with_reducible first | exact HB.out | apply below_alloc | apply pw_below_drewN | apply below_drew1) | exact HB.out)⟩
def tidepolelaw10_ref.f (k : Nat) (a0_0 : Int) (a0_1 : Int) (a0_2 : Int) (a0_3 : Int) (a0_4 : Int) (l0_5 : List (S144)) (l0_6 : List (S144)) (l0_7 : List Int) (l0_8 : List Int) : Option (Int × Int × Int × Int × Int × (List (S147)) × (List (S147)) × List Int × List Int) := (tidepolelaw10_spans.f k l0_5).bind fun t103 => ((tidepolelaw10_spans.f k l0_6).bind fun t106 => (some (a0_0, a0_1, a0_2, a0_3, a0_4, t103, t106, l0_7, l0_8)))
def tidepolelaw10_ref.T1 : Bool × List (List Nat × List Nat) := (true, [([], []), ([0], [0]), ([], []), ([2], [2]), ([], []), ([4], [4]), ([], []), ([6], [6]), ([], []), ([8], [8]), ([], []), ([10], [10]), ([11], [11]), ([], []), ([13], [13]), ([14, 12], [14]), ([], []), ([16], [16]), ([], []), ([18], [18]), ([1, 3, 5, 7, 9, 12, 15, 17, 19], [1, 3, 5, 7, 9, 12, 15, 17, 19]), ([20, 15, 0, 1, 2, 3, 4, 5, 6, 7, 8, 9, 10, 11, 12, 13, 14, 15, 16, 17, 18, 19, 20], [20])])
def tidepolelaw10_ref.B1 : List Nat := [0, 1, 0, 4, 0, 16, 0, 64, 0, 256, 0, 1024, 3072, 0, 8192, 31744, 0, 65536, 0, 262144, 1048575, 2097151]
theorem tidepolelaw10_ref.tab1 : rtab .any (opsOf Try.f97 1) = tidepolelaw10_ref.T1 := by kernel_rfl
theorem tidepolelaw10_ref.bits1 : waitsOk tidepolelaw10_ref.T1.2 tidepolelaw10_ref.B1 = true := by kernel_rfl
set_option maxHeartbeats 8000000 in
set_option maxRecDepth 100000 in
theorem tidepolelaw10_ref.calls (k : Nat) (a0_0 : Int) (a0_1 : Int) (a0_2 : Int) (a0_3 : Int) (a0_4 : Int) (A0_5 : Option Addr) (c0_5 : Nat) (l0_5 : List (S144)) (A0_6 : Option Addr) (c0_6 : Nat) (l0_6 : List (S144)) (P0_7_ : Nat → Prop) (A0_7 : Option Addr) (c0_7 : Nat) (l0_7 : List Int) (P0_8_ : Nat → Prop) (A0_8 : Option Addr) (c0_8 : Nat) (l0_8 : List Int) (r1 : Int) (r2 : Int) (r3 : Int) (r4 : Int) (r5 : Int) (r6 : List (S147)) (r7 : List (S147)) (r8 : List Int) (r9 : List Int) (w : World) (hr0_5 : Kd.C k144 w A0_5 l0_5.length l0_5) (hc0_5 : l0_5.length ≤ c0_5) (hr0_6 : Kd.C k144 w A0_6 l0_6.length l0_6) (hc0_6 : l0_6.length ≤ c0_6) (hs0_7 : Kd.V (Kd.int .u64) 62 w w.heap.size (fun k_ => P0_7_ k_) (.slice A0_7 l0_7.length c0_7) l0_7) (hs0_8 : Kd.V (Kd.int .u64) 62 w w.heap.size (fun k_ => P0_8_ k_) (.slice A0_8 l0_8.length c0_8) l0_8) (h : tidepolelaw10_ref.f k a0_0 a0_1 a0_2 a0_3 a0_4 l0_5 l0_6 l0_7 l0_8 = some (r1, r2, r3, r4, r5, r6, r7, r8, r9)) :
  Calls Try.prog 97 #[.agg #[.int .i64 a0_0, .int .u64 a0_1, .int .u64 a0_2, .int .u64 a0_3, .int .u64 a0_4, .slice A0_5 l0_5.length c0_5, .slice A0_6 l0_6.length c0_6, .slice A0_7 l0_7.length c0_7, .slice A0_8 l0_8.length c0_8]] w fun e w' => ∃ v5_ v6_ v7_ v8_ : Value, e = .returned (.agg #[.int .i64 r1, .int .u64 r2, .int .u64 r3, .int .u64 r4, .int .u64 r5, v5_, v6_, v7_, v8_]) ∧ Kd.R k147 147 w' w.heap.size (fun k_ => (w.heap.size ≤ k_) ∧ some k_ ≠ (v6_ : Value).ownBlock) v5_ r6 ∧ Kd.R k147 147 w' w.heap.size (fun k_ => (w.heap.size ≤ k_) ∧ some k_ ≠ (v5_ : Value).ownBlock) v6_ r7 ∧ Kd.V (Kd.int .u64) 62 w' w.heap.size (fun k_ => ((P0_7_ k_ ∨ P0_8_ k_) ∨ w.heap.size ≤ k_) ∧ some k_ ≠ (v5_ : Value).ownBlock ∧ some k_ ≠ (v6_ : Value).ownBlock) v7_ r8 ∧ Kd.V (Kd.int .u64) 62 w' w.heap.size (fun k_ => ((P0_7_ k_ ∨ P0_8_ k_) ∨ w.heap.size ≤ k_) ∧ some k_ ≠ (v5_ : Value).ownBlock ∧ some k_ ≠ (v6_ : Value).ownBlock) v8_ r9 ∧ Below w.heap.size w w' := by
 have hu79 := Try.underlying79
 have hu84 := Try.underlying84
 have HR0_5 := Aside0.mk hr0_5
 have HC0_5 := Aside0.mk hc0_5
 clear hr0_5 hc0_5
 have HR0_6 := Aside0.mk hr0_6
 have HC0_6 := Aside0.mk hc0_6
 clear hr0_6 hc0_6
 have HO0_7 := Aside0.mk (show Kd.V (Kd.int .u64) 62 w w.heap.size (fun k_ => ((P0_7_ k_ ∨ P0_8_ k_) ∨ w.heap.size ≤ k_)) (.slice A0_7 l0_7.length c0_7) l0_7 from Kd.V_mono hs0_7 (fun k_ hk => .inl (.inl hk)))
 have HO0_8 := Aside0.mk (show Kd.V (Kd.int .u64) 62 w w.heap.size (fun k_ => ((P0_7_ k_ ∨ P0_8_ k_) ∨ w.heap.size ≤ k_)) (.slice A0_8 l0_8.length c0_8) l0_8 from Kd.V_mono hs0_8 (fun k_ hk => .inl (.inr hk)))
 have HB := Aside0.mk (Below.refl w.heap.size w)
 have H : ((tidepolelaw10_spans.f k l0_5).bind fun t103 => ((tidepolelaw10_spans.f k l0_6).bind fun t106 => (some (a0_0, a0_1, a0_2, a0_3, a0_4, t103, t106, l0_7, l0_8)))) = some (r1, r2, r3, r4, r5, r6, r7, r8, r9) := h
 clear h
 replace H := Option.bind_eq_some_iff.mp H
 obtain ⟨t103, A20, H⟩ := H
 replace H : ((tidepolelaw10_spans.f k l0_6).bind fun t106 => (some (a0_0, a0_1, a0_2, a0_3, a0_4, t103, t106, l0_7, l0_8))) = some (r1, r2, r3, r4, r5, r6, r7, r8, r9) := H
 have A2 := Aside0.mk A20
 clear A20
 replace H := Option.bind_eq_some_iff.mp H
 obtain ⟨t106, A30, H⟩ := H
 replace H : (some (a0_0, a0_1, a0_2, a0_3, a0_4, t103, t106, l0_7, l0_8)) = some (r1, r2, r3, r4, r5, r6, r7, r8, r9) := H
 have A3 := Aside0.mk A30
 clear A30
 simp only [Option.some.injEq, Prod.mk.injEq] at H
 obtain ⟨rfl, rfl, rfl, rfl, rfl, rfl, rfl, rfl, rfl⟩ := H
 go_enter Try.func97, Try.ntmps97
 try go_wp2_with (first | ((with_reducible refine gate_dst (N := 1) rfl ?_); refine box_event ?hg (N := 1) ?hd (cs := #[.int .i64 a0_0, .int .u64 a0_1, .int .u64 a0_2, .int .u64 a0_3, .int .u64 a0_4, .slice A0_5 l0_5.length c0_5, .slice A0_6 l0_6.length c0_6, .slice A0_7 l0_7.length c0_7, .slice A0_8 l0_8.length c0_8]) (t := 79) ?hr ?_; (case hd => rfl); (case hg => rfl); (case hr => first | (go_simp; done) | (go_simp; rfl)); intro gb101 hg w4 hbox hb; have n0_ := Aside0.mk (Kd.V_below (Kd.V_elderB (by (with_reducible repeat (first | apply Kd.V_alloc | apply Kd.V_drewN | apply Kd.V_drew)); exact HO0_7.out) gb101 (Nat.le_of_eq hg.symm)) hb); have n1_ := Aside0.mk (Kd.V_below (Kd.V_elderB (by (with_reducible repeat (first | apply Kd.V_alloc | apply Kd.V_drewN | apply Kd.V_drew)); exact HO0_8.out) gb101 (Nat.le_of_eq hg.symm)) hb); have n2_ := Aside0.mk (below_step (by repeat (first | (with_reducible first | exact HB.out | apply below_alloc | apply pw_below_drewN | apply below_drew1) | exact HB.out)) hb); have n3_ := Aside0.mk (hbox); have n4_ := Aside0.mk ((by rw [hg]; exact (below_size (by repeat (first | (with_reducible first | exact HB.out | apply below_alloc | apply pw_below_drewN | apply below_drew1) | exact HB.out))) : w.heap.size ≤ gb101)); have n5_ := Aside0.mk ((by rw [hg]; exact (below_size (by repeat (first | (with_reducible first | exact HB.out | apply below_alloc | apply pw_below_drewN | apply below_drew1) | exact HB.out))) : w.heap.size ≤ gb101)); clear HO0_7; clear HO0_8; clear HB; have HO0_7 := n0_; have HO0_8 := n1_; have HB := n2_; have BK101 := n3_; have GW101 := n4_; have GE101 := n5_; clear n0_ n1_ n2_ n3_ n4_ n5_; clear hb hbox hg) | ((with_reducible refine gate_dst (N := 2) rfl ?_); refine box_event ?hg (N := 2) ?hd (cs := #[.int .i64 0, .int .u64 0, .int .u64 0, .int .u64 0, .int .u64 0, .slice none 0 0, .slice none 0 0, .slice none 0 0, .slice none 0 0]) (t := 84) ?hr ?_; (case hd => rfl); (case hg => rfl); (case hr => first | (go_simp; done) | (go_simp; rfl)); intro gb102 hg w5 hbox hb; have n0_ := Aside0.mk (Kd.V_below (Kd.V_elderB (by (with_reducible repeat (first | apply Kd.V_alloc | apply Kd.V_drewN | apply Kd.V_drew)); exact HO0_7.out) gb102 (Nat.le_of_eq hg.symm)) hb); have n1_ := Aside0.mk (Kd.V_below (Kd.V_elderB (by (with_reducible repeat (first | apply Kd.V_alloc | apply Kd.V_drewN | apply Kd.V_drew)); exact HO0_8.out) gb102 (Nat.le_of_eq hg.symm)) hb); have n2_ := Aside0.mk (blk_below (g := gb101) (o := .cells #[.int .i64 a0_0, .int .u64 a0_1, .int .u64 a0_2, .int .u64 a0_3, .int .u64 a0_4, .slice A0_5 l0_5.length c0_5, .slice A0_6 l0_6.length c0_6, .slice A0_7 l0_7.length c0_7, .slice A0_8 l0_8.length c0_8] 79 (0, 0)) (by (with_reducible repeat (first | refine blk_drewN ?_ _ | refine blk_drew ?_ | refine blk_alloc ?_ _)); exact BK101.out) hb); have n3_ := Aside0.mk (below_step (by repeat (first | (with_reducible first | exact HB.out | apply below_alloc | apply pw_below_drewN | apply below_drew1 | refine below_set ?_ GE101.out) | exact HB.out)) hb); have n4_ := Aside0.mk (hbox); have n5_ := Aside0.mk ((by rw [hg]; exact (below_size (by repeat (first | (with_reducible first | exact HB.out | apply below_alloc | apply pw_below_drewN | apply below_drew1 | refine below_set ?_ GE101.out) | exact HB.out))) : w.heap.size ≤ gb102)); have n6_ := Aside0.mk ((by rw [hg]; exact (below_size (by repeat (first | (with_reducible first | exact HB.out | apply below_alloc | apply pw_below_drewN | apply below_drew1 | refine below_set ?_ GE101.out) | exact HB.out))) : w.heap.size ≤ gb102)); have n7_ := Aside0.mk ((by rw [hg]; exact Nat.ne_of_lt (blk_lt (g := gb101) (o := .cells #[.int .i64 a0_0, .int .u64 a0_1, .int .u64 a0_2, .int .u64 a0_3, .int .u64 a0_4, .slice A0_5 l0_5.length c0_5, .slice A0_6 l0_6.length c0_6, .slice A0_7 l0_7.length c0_7, .slice A0_8 l0_8.length c0_8] 79 (0, 0)) (by (with_reducible repeat (first | refine blk_drewN ?_ _ | refine blk_drew ?_ | refine blk_alloc ?_ _)); exact BK101.out)) : gb101 ≠ gb102)); have n8_ := Aside0.mk ((by rw [hg]; exact Nat.ne_of_gt (blk_lt (g := gb101) (o := .cells #[.int .i64 a0_0, .int .u64 a0_1, .int .u64 a0_2, .int .u64 a0_3, .int .u64 a0_4, .slice A0_5 l0_5.length c0_5, .slice A0_6 l0_6.length c0_6, .slice A0_7 l0_7.length c0_7, .slice A0_8 l0_8.length c0_8] 79 (0, 0)) (by (with_reducible repeat (first | refine blk_drewN ?_ _ | refine blk_drew ?_ | refine blk_alloc ?_ _)); exact BK101.out)) : gb102 ≠ gb101)); clear HO0_7; clear HO0_8; clear BK101; clear HB; have HO0_7 := n0_; have HO0_8 := n1_; have BK101 := n2_; have HB := n3_; have BK102 := n4_; have GW102 := n5_; have GE102 := n6_; have NB101_102 := n7_; have NB102_101 := n8_; clear n0_ n1_ n2_ n3_ n4_ n5_ n6_ n7_ n8_; clear hb hbox hg))
 have n0_ := Aside0.mk (Kd.V_drew HO0_7.out)
 have n1_ := Aside0.mk (Kd.V_drew HO0_8.out)
 have n2_ := Aside0.mk (blk_drew BK101.out)
 have n3_ := Aside0.mk (blk_drew BK102.out)
 have n4_ := Aside0.mk (below_drew1 HB.out)
 clear HO0_7
 clear HO0_8
 clear BK101
 clear BK102
 clear HB
 have HO0_7 := n0_
 have HO0_8 := n1_
 have BK101 := n2_
 have BK102 := n3_
 have HB := n4_
 clear n0_ n1_ n2_ n3_ n4_
 refine start_ (n := 22) (S := fun w' => w'.cell? ⟨gb101, 0, none⟩ = some (.int .i64 a0_0) ∧ w'.cell? ⟨gb101, 1, none⟩ = some (.int .u64 a0_1) ∧ w'.cell? ⟨gb101, 2, none⟩ = some (.int .u64 a0_2) ∧ w'.cell? ⟨gb101, 3, none⟩ = some (.int .u64 a0_3) ∧ w'.cell? ⟨gb101, 4, none⟩ = some (.int .u64 a0_4) ∧ w'.cell? ⟨gb101, 5, none⟩ = some (.slice A0_5 l0_5.length c0_5) ∧ w'.cell? ⟨gb101, 6, none⟩ = some (.slice A0_6 l0_6.length c0_6) ∧ w'.cell? ⟨gb101, 7, none⟩ = some (.slice A0_7 l0_7.length c0_7) ∧ w'.cell? ⟨gb101, 8, none⟩ = some (.slice A0_8 l0_8.length c0_8)) (ds := []) #[false, false, false, false, false, false, false, false, false, false, false, false, false, false, false, false, false, false, false, false, false, false] (by kernel_rfl) rfl rfl ⟨(blk_cell BK101.out 0).trans rfl, (blk_cell BK101.out 1).trans rfl, (blk_cell BK101.out 2).trans rfl, (blk_cell BK101.out 3).trans rfl, (blk_cell BK101.out 4).trans rfl, (blk_cell BK101.out 5).trans rfl, (blk_cell BK101.out 6).trans rfl, (blk_cell BK101.out 7).trans rfl, (blk_cell BK101.out 8).trans rfl⟩ (fun hHeld => ?_); refine with_tabW tidepolelaw10_ref.tab1 tidepolelaw10_ref.bits1 (fun HT_ HW_ => ?_)
 generalize w5.drew = w6 at HO0_7 HO0_8 BK101 BK102 HB hHeld ⊢
 refine pure_ (i := 0) (N := some 3) (v := ?_) (a' := ?_) #[true, false, false, false, false, false, false, false, false, false, false, false, false, false, false, false, false, false, false, false, false, false] rfl rfl (any_of HT_.out (by kernel_rfl)) (fun _ _ _ h => h) (Or.inl ⟨by rfl, ?_⟩) ?_ ?_
 rotate_left
 ·intro w'
  go_simp
  with_reducible rfl
 rotate_left
 ·simp only [Act.put, List.setIfInBounds_toArray, List.set_cons_zero, List.set_cons_succ, i64_w, i32_w]
  rfl
 refine pure_ (i := 2) (N := some 5) (v := ?_) (a' := ?_) #[true, false, true, false, false, false, false, false, false, false, false, false, false, false, false, false, false, false, false, false, false, false] rfl rfl (any_of HT_.out (by kernel_rfl)) (fun _ _ _ h => h) (Or.inl ⟨by rfl, ?_⟩) ?_ ?_
 rotate_left
 ·intro w'
  go_simp
  with_reducible rfl
 rotate_left
 ·simp only [Act.put, List.setIfInBounds_toArray, List.set_cons_zero, List.set_cons_succ, i64_w, i32_w]
  rfl
 refine pure_ (i := 4) (N := some 7) (v := ?_) (a' := ?_) #[true, false, true, false, true, false, false, false, false, false, false, false, false, false, false, false, false, false, false, false, false, false] rfl rfl (any_of HT_.out (by kernel_rfl)) (fun _ _ _ h => h) (Or.inl ⟨by rfl, ?_⟩) ?_ ?_
 rotate_left
 ·intro w'
  go_simp
  with_reducible rfl
 rotate_left
 ·simp only [Act.put, List.setIfInBounds_toArray, List.set_cons_zero, List.set_cons_succ, i64_w, i32_w]
  rfl
 refine pure_ (i := 6) (N := some 9) (v := ?_) (a' := ?_) #[true, false, true, false, true, false, true, false, false, false, false, false, false, false, false, false, false, false, false, false, false, false] rfl rfl (any_of HT_.out (by kernel_rfl)) (fun _ _ _ h => h) (Or.inl ⟨by rfl, ?_⟩) ?_ ?_
 rotate_left
 ·intro w'
  go_simp
  with_reducible rfl
 rotate_left
 ·simp only [Act.put, List.setIfInBounds_toArray, List.set_cons_zero, List.set_cons_succ, i64_w, i32_w]
  rfl
 refine pure_ (i := 8) (N := some 11) (v := ?_) (a' := ?_) #[true, false, true, false, true, false, true, false, true, false, false, false, false, false, false, false, false, false, false, false, false, false] rfl rfl (any_of HT_.out (by kernel_rfl)) (fun _ _ _ h => h) (Or.inl ⟨by rfl, ?_⟩) ?_ ?_
 rotate_left
 ·intro w'
  go_simp
  with_reducible rfl
 rotate_left
 ·simp only [Act.put, List.setIfInBounds_toArray, List.set_cons_zero, List.set_cons_succ, i64_w, i32_w]
  rfl
 refine pure_ (i := 10) (N := some 13) (v := ?_) (a' := ?_) #[true, false, true, false, true, false, true, false, true, false, true, false, false, false, false, false, false, false, false, false, false, false] rfl rfl (any_of HT_.out (by kernel_rfl)) (fun _ _ _ h => h) (Or.inl ⟨by rfl, ?_⟩) ?_ ?_
 rotate_left
 ·intro w'
  go_simp
  with_reducible rfl
 rotate_left
 ·simp only [Act.put, List.setIfInBounds_toArray, List.set_cons_zero, List.set_cons_succ, i64_w, i32_w]
  rfl
 refine pure_ (i := 13) (N := some 16) (v := ?_) (a' := ?_) #[true, false, true, false, true, false, true, false, true, false, true, false, false, true, false, false, false, false, false, false, false, false] rfl rfl (any_of HT_.out (by kernel_rfl)) (fun _ _ _ h => h) (Or.inl ⟨by rfl, ?_⟩) ?_ ?_
 rotate_left
 ·intro w'
  go_simp
  with_reducible rfl
 rotate_left
 ·simp only [Act.put, List.setIfInBounds_toArray, List.set_cons_zero, List.set_cons_succ, i64_w, i32_w]
  rfl
 refine pure_ (i := 16) (N := some 19) (v := ?_) (a' := ?_) #[true, false, true, false, true, false, true, false, true, false, true, false, false, true, false, false, true, false, false, false, false, false] rfl rfl (any_of HT_.out (by kernel_rfl)) (fun _ _ _ h => h) (Or.inl ⟨by rfl, ?_⟩) ?_ ?_
 rotate_left
 ·intro w'
  go_simp
  with_reducible rfl
 rotate_left
 ·simp only [Act.put, List.setIfInBounds_toArray, List.set_cons_zero, List.set_cons_succ, i64_w, i32_w]
  rfl
 refine pure_ (i := 18) (N := some 21) (v := ?_) (a' := ?_) #[true, false, true, false, true, false, true, false, true, false, true, false, false, true, false, false, true, false, true, false, false, false] rfl rfl (any_of HT_.out (by kernel_rfl)) (fun _ _ _ h => h) (Or.inl ⟨by rfl, ?_⟩) ?_ ?_
 rotate_left
 ·intro w'
  go_simp
  with_reducible rfl
 rotate_left
 ·simp only [Act.put, List.setIfInBounds_toArray, List.set_cons_zero, List.set_cons_succ, i64_w, i32_w]
  rfl
 refine take_ (i := 1) (N := some 4) (v := ?_) (a' := ?_) #[true, true, true, false, true, false, true, false, true, false, true, false, false, true, false, false, true, false, true, false, false, false] rfl rfl (take_ofW HT_.out HW_.out (by kernel_rfl)) (fun _ _ _ h => h) (Or.inl ⟨by rfl, ?_⟩) hHeld ?_ ?_
 rotate_left
 ·rintro w' ⟨s0, s1, s2, s3, s4, s5, s6, s7, s8⟩
  go_simp
  with_reducible rfl
 rotate_left
 ·simp only [Act.put, List.setIfInBounds_toArray, List.set_cons_zero, List.set_cons_succ, i64_w, i32_w]
  rfl
 refine take_ (i := 3) (N := some 6) (v := ?_) (a' := ?_) #[true, true, true, true, true, false, true, false, true, false, true, false, false, true, false, false, true, false, true, false, false, false] rfl rfl (take_ofW HT_.out HW_.out (by kernel_rfl)) (fun _ _ _ h => h) (Or.inl ⟨by rfl, ?_⟩) hHeld ?_ ?_
 rotate_left
 ·rintro w' ⟨s0, s1, s2, s3, s4, s5, s6, s7, s8⟩
  go_simp
  with_reducible rfl
 rotate_left
 ·simp only [Act.put, List.setIfInBounds_toArray, List.set_cons_zero, List.set_cons_succ, i64_w, i32_w]
  rfl
 refine take_ (i := 5) (N := some 8) (v := ?_) (a' := ?_) #[true, true, true, true, true, true, true, false, true, false, true, false, false, true, false, false, true, false, true, false, false, false] rfl rfl (take_ofW HT_.out HW_.out (by kernel_rfl)) (fun _ _ _ h => h) (Or.inl ⟨by rfl, ?_⟩) hHeld ?_ ?_
 rotate_left
 ·rintro w' ⟨s0, s1, s2, s3, s4, s5, s6, s7, s8⟩
  go_simp
  with_reducible rfl
 rotate_left
 ·simp only [Act.put, List.setIfInBounds_toArray, List.set_cons_zero, List.set_cons_succ, i64_w, i32_w]
  rfl
 refine take_ (i := 7) (N := some 10) (v := ?_) (a' := ?_) #[true, true, true, true, true, true, true, true, true, false, true, false, false, true, false, false, true, false, true, false, false, false] rfl rfl (take_ofW HT_.out HW_.out (by kernel_rfl)) (fun _ _ _ h => h) (Or.inl ⟨by rfl, ?_⟩) hHeld ?_ ?_
 rotate_left
 ·rintro w' ⟨s0, s1, s2, s3, s4, s5, s6, s7, s8⟩
  go_simp
  with_reducible rfl
 rotate_left
 ·simp only [Act.put, List.setIfInBounds_toArray, List.set_cons_zero, List.set_cons_succ, i64_w, i32_w]
  rfl
 refine take_ (i := 9) (N := some 12) (v := ?_) (a' := ?_) #[true, true, true, true, true, true, true, true, true, true, true, false, false, true, false, false, true, false, true, false, false, false] rfl rfl (take_ofW HT_.out HW_.out (by kernel_rfl)) (fun _ _ _ h => h) (Or.inl ⟨by rfl, ?_⟩) hHeld ?_ ?_
 rotate_left
 ·rintro w' ⟨s0, s1, s2, s3, s4, s5, s6, s7, s8⟩
  go_simp
  with_reducible rfl
 rotate_left
 ·simp only [Act.put, List.setIfInBounds_toArray, List.set_cons_zero, List.set_cons_succ, i64_w, i32_w]
  rfl
 refine take_ (i := 11) (N := some 14) (v := ?_) (a' := ?_) #[true, true, true, true, true, true, true, true, true, true, true, true, false, true, false, false, true, false, true, false, false, false] rfl rfl (take_ofW HT_.out HW_.out (by kernel_rfl)) (fun _ _ _ h => h) (Or.inl ⟨by rfl, ?_⟩) hHeld ?_ ?_
 rotate_left
 ·rintro w' ⟨s0, s1, s2, s3, s4, s5, s6, s7, s8⟩
  go_simp
  with_reducible rfl
 rotate_left
 ·simp only [Act.put, List.setIfInBounds_toArray, List.set_cons_zero, List.set_cons_succ, i64_w, i32_w]
  rfl
 refine take_ (i := 14) (N := some 17) (v := ?_) (a' := ?_) #[true, true, true, true, true, true, true, true, true, true, true, true, false, true, true, false, true, false, true, false, false, false] rfl rfl (take_ofW HT_.out HW_.out (by kernel_rfl)) (fun _ _ _ h => h) (Or.inl ⟨by rfl, ?_⟩) hHeld ?_ ?_
 rotate_left
 ·rintro w' ⟨s0, s1, s2, s3, s4, s5, s6, s7, s8⟩
  go_simp
  with_reducible rfl
 rotate_left
 ·simp only [Act.put, List.setIfInBounds_toArray, List.set_cons_zero, List.set_cons_succ, i64_w, i32_w]
  rfl
 refine take_ (i := 17) (N := some 20) (v := ?_) (a' := ?_) #[true, true, true, true, true, true, true, true, true, true, true, true, false, true, true, false, true, true, true, false, false, false] rfl rfl (take_ofW HT_.out HW_.out (by kernel_rfl)) (fun _ _ _ h => h) (Or.inl ⟨by rfl, ?_⟩) hHeld ?_ ?_
 rotate_left
 ·rintro w' ⟨s0, s1, s2, s3, s4, s5, s6, s7, s8⟩
  go_simp
  with_reducible rfl
 rotate_left
 ·simp only [Act.put, List.setIfInBounds_toArray, List.set_cons_zero, List.set_cons_succ, i64_w, i32_w]
  rfl
 refine take_ (i := 19) (N := some 22) (v := ?_) (a' := ?_) #[true, true, true, true, true, true, true, true, true, true, true, true, false, true, true, false, true, true, true, true, false, false] rfl rfl (take_ofW HT_.out HW_.out (by kernel_rfl)) (fun _ _ _ h => h) (Or.inl ⟨by rfl, ?_⟩) hHeld ?_ ?_
 rotate_left
 ·rintro w' ⟨s0, s1, s2, s3, s4, s5, s6, s7, s8⟩
  go_simp
  with_reducible rfl
 rotate_left
 ·simp only [Act.put, List.setIfInBounds_toArray, List.set_cons_zero, List.set_cons_succ, i64_w, i32_w]
  rfl
 refine one_ (i := 12) (N := some 15) #[true, true, true, true, true, true, true, true, true, true, true, true, true, true, true, false, true, true, true, true, false, false] rfl rfl (one_of HT_.out (by kernel_rfl)) (by decide) (fun K hK => ?_)
 refine goes_ Try.func107 (by kernel_rfl) rfl #[.slice A0_5 l0_5.length c0_5] (by rfl) rfl rfl (by (try simp only [List.map_toArray, List.map_cons, List.map_nil]); first | done | rfl | (simp only [List.length_drop, List.length_take]; rfl)) ?_
 with_reducible refine (tidepolelaw10_spans.calls k _ _ l0_5 t103 _ ?side1 ?side2 A2.out).mono ?_
 (case side1 => repeat (first | exact (Kd.C_below HR0_5.out HB.out) | (with_reducible refine Kd.C_alloc ?_ _) | (with_reducible refine Kd.C_drewN ?_ _) | (with_reducible refine Kd.C_drew ?_)))
 (case side2 => exact HC0_5.out)
 rintro e w7 ⟨v104, rfl, ho0, hb⟩
 refine ⟨_, rfl, ?_⟩
 have n0_ := Aside0.mk (Kd.V_elder' (by (with_reducible repeat (first | apply Kd.V_alloc | apply Kd.V_drewN | apply Kd.V_drew)); exact HO0_7.out) (Kd.R_base ho0) hb)
 have n1_ := Aside0.mk (Kd.V_elder' (by (with_reducible repeat (first | apply Kd.V_alloc | apply Kd.V_drewN | apply Kd.V_drew)); exact HO0_8.out) (Kd.R_base ho0) hb)
 have n2_ := Aside0.mk (Kd.R_lower (Kd.R_newM (M := fun k_ => (w.heap.size ≤ k_)) ho0 (below_size (by repeat (first | (with_reducible first | exact HB.out | apply below_alloc | apply pw_below_drewN | apply below_drew1 | refine below_set ?_ GE101.out | refine below_set ?_ GE102.out) | exact HB.out))) (fun k_ h_ => h_)) (below_size (by repeat (first | (with_reducible first | exact HB.out | apply below_alloc | apply pw_below_drewN | apply below_drew1 | refine below_set ?_ GE101.out | refine below_set ?_ GE102.out) | exact HB.out))))
 have n3_ := Aside0.mk (blk_below (g := gb101) (o := .cells #[.int .i64 a0_0, .int .u64 a0_1, .int .u64 a0_2, .int .u64 a0_3, .int .u64 a0_4, .slice A0_5 l0_5.length c0_5, .slice A0_6 l0_6.length c0_6, .slice A0_7 l0_7.length c0_7, .slice A0_8 l0_8.length c0_8] 79 (0, 0)) (by (with_reducible repeat (first | refine blk_drewN ?_ _ | refine blk_drew ?_ | refine blk_alloc ?_ _)); exact BK101.out) hb)
 have n4_ := Aside0.mk (blk_below (g := gb102) (o := .cells #[.int .i64 0, .int .u64 0, .int .u64 0, .int .u64 0, .int .u64 0, .slice none 0 0, .slice none 0 0, .slice none 0 0, .slice none 0 0] 84 (0, 0)) (by (with_reducible repeat (first | refine blk_drewN ?_ _ | refine blk_drew ?_ | refine blk_alloc ?_ _)); exact BK102.out) hb)
 have n5_ := Aside0.mk (below_step (by repeat (first | (with_reducible first | exact HB.out | apply below_alloc | apply pw_below_drewN | apply below_drew1 | refine below_set ?_ GE101.out | refine below_set ?_ GE102.out) | exact HB.out)) hb)
 clear HO0_7
 clear HO0_8
 clear BK101
 clear BK102
 clear HB
 have HO0_7 := n0_
 have HO0_8 := n1_
 have HO105 := n2_
 have BK101 := n3_
 have BK102 := n4_
 have HB := n5_
 clear n0_ n1_ n2_ n3_ n4_ n5_
 (try clear hb)
 (try clear hb2)
 (try clear hk)
 (try clear hi)
 (try clear ho0)
 refine hK.out _ _ ⟨(blk_cell BK101.out 0).trans rfl, (blk_cell BK101.out 1).trans rfl, (blk_cell BK101.out 2).trans rfl, (blk_cell BK101.out 3).trans rfl, (blk_cell BK101.out 4).trans rfl, (blk_cell BK101.out 5).trans rfl, (blk_cell BK101.out 6).trans rfl, (blk_cell BK101.out 7).trans rfl, (blk_cell BK101.out 8).trans rfl⟩ (fun hHeld => ?_)
 clear hK K
 refine norm_ (a' := ?_) ?_ ?_
 rotate_left
 ·show Act.put _ (some 15) _ = _
  simp only [Act.put, List.setIfInBounds_toArray, List.set_cons_zero, List.set_cons_succ, i64_w, i32_w]
  rfl
 refine one_ (i := 15) (N := some 18) #[true, true, true, true, true, true, true, true, true, true, true, true, true, true, true, true, true, true, true, true, false, false] rfl rfl (one_of HT_.out (by kernel_rfl)) (by decide) (fun K hK => ?_)
 refine goes_ Try.func107 (by kernel_rfl) rfl #[.slice A0_6 l0_6.length c0_6] (by rfl) rfl rfl (by (try simp only [List.map_toArray, List.map_cons, List.map_nil]); first | done | rfl | (simp only [List.length_drop, List.length_take]; rfl)) ?_
 with_reducible refine (tidepolelaw10_spans.calls k _ _ l0_6 t106 _ ?side1 ?side2 A3.out).mono ?_
 (case side1 => repeat (first | exact (Kd.C_below HR0_6.out HB.out) | (with_reducible refine Kd.C_alloc ?_ _) | (with_reducible refine Kd.C_drewN ?_ _) | (with_reducible refine Kd.C_drew ?_)))
 (case side2 => exact HC0_6.out)
 rintro e w8 ⟨v107, rfl, ho0, hb⟩
 refine ⟨_, rfl, ?_⟩
 have n0_ := Aside0.mk (Kd.V_elder' (by (with_reducible repeat (first | apply Kd.V_alloc | apply Kd.V_drewN | apply Kd.V_drew)); exact HO0_7.out) (Kd.R_base ho0) hb)
 have n1_ := Aside0.mk (Kd.V_elder' (by (with_reducible repeat (first | apply Kd.V_alloc | apply Kd.V_drewN | apply Kd.V_drew)); exact HO0_8.out) (Kd.R_base ho0) hb)
 have n2_ := Aside0.mk (Kd.R_elder' (by (with_reducible repeat (first | apply Kd.R_alloc | apply Kd.R_drewN | apply Kd.R_drew)); exact HO105.out) (Kd.R_base ho0) hb)
 have n3_ := Aside0.mk (Kd.R_lower (Kd.R_new' (Kd.R_newM (M := fun k_ => (w.heap.size ≤ k_)) ho0 (below_size (by repeat (first | (with_reducible first | exact HB.out | apply below_alloc | apply pw_below_drewN | apply below_drew1 | refine below_set ?_ GE101.out | refine below_set ?_ GE102.out) | exact HB.out))) (fun k_ h_ => h_)) (Kd.R_lt (by (with_reducible repeat (first | apply Kd.R_alloc | apply Kd.R_drewN | apply Kd.R_drew)); exact HO105.out))) (below_size (by repeat (first | (with_reducible first | exact HB.out | apply below_alloc | apply pw_below_drewN | apply below_drew1 | refine below_set ?_ GE101.out | refine below_set ?_ GE102.out) | exact HB.out))))
 have n4_ := Aside0.mk (blk_below (g := gb101) (o := .cells #[.int .i64 a0_0, .int .u64 a0_1, .int .u64 a0_2, .int .u64 a0_3, .int .u64 a0_4, .slice A0_5 l0_5.length c0_5, .slice A0_6 l0_6.length c0_6, .slice A0_7 l0_7.length c0_7, .slice A0_8 l0_8.length c0_8] 79 (0, 0)) (by (with_reducible repeat (first | refine blk_drewN ?_ _ | refine blk_drew ?_ | refine blk_alloc ?_ _)); exact BK101.out) hb)
 have n5_ := Aside0.mk (blk_below (g := gb102) (o := .cells #[.int .i64 0, .int .u64 0, .int .u64 0, .int .u64 0, .int .u64 0, .slice none 0 0, .slice none 0 0, .slice none 0 0, .slice none 0 0] 84 (0, 0)) (by (with_reducible repeat (first | refine blk_drewN ?_ _ | refine blk_drew ?_ | refine blk_alloc ?_ _)); exact BK102.out) hb)
 have n6_ := Aside0.mk (below_step (by repeat (first | (with_reducible first | exact HB.out | apply below_alloc | apply pw_below_drewN | apply below_drew1 | refine below_set ?_ GE101.out | refine below_set ?_ GE102.out) | exact HB.out)) hb)
 clear HO0_7
 clear HO0_8
 clear HO105
 clear BK101
 clear BK102
 clear HB
 have HO0_7 := n0_
 have HO0_8 := n1_
 have HO105 := n2_
 have HO108 := n3_
 have BK101 := n4_
 have BK102 := n5_
 have HB := n6_
 clear n0_ n1_ n2_ n3_ n4_ n5_ n6_
 (try clear hb)
 (try clear hb2)
 (try clear hk)
 (try clear hi)
 (try clear ho0)
 obtain ⟨Ao9, co9, eo9⟩ := Kd.R_slice HO108.out
 (first | subst eo9 | (injection eo9 with f1_ f2_ f3_; have f4_ := f1_.symm; have f5_ := f3_.symm; clear f1_ f2_ f3_; subst f4_; subst f5_))
 obtain ⟨Ao10, co10, eo10⟩ := Kd.R_slice HO105.out
 (first | subst eo10 | (injection eo10 with f1_ f2_ f3_; have f4_ := f1_.symm; have f5_ := f3_.symm; clear f1_ f2_ f3_; subst f4_; subst f5_))
 refine hK.out _ _ ⟨(blk_cell BK101.out 0).trans rfl, (blk_cell BK101.out 1).trans rfl, (blk_cell BK101.out 2).trans rfl, (blk_cell BK101.out 3).trans rfl, (blk_cell BK101.out 4).trans rfl, (blk_cell BK101.out 5).trans rfl, (blk_cell BK101.out 6).trans rfl, (blk_cell BK101.out 7).trans rfl, (blk_cell BK101.out 8).trans rfl⟩ (fun hHeld => ?_)
 clear hK K
 refine norm_ (a' := ?_) ?_ ?_
 rotate_left
 ·show Act.put _ (some 18) _ = _
  simp only [Act.put, List.setIfInBounds_toArray, List.set_cons_zero, List.set_cons_succ, i64_w, i32_w]
  rfl
 refine pure_ (i := 20) (N := some 23) (v := ?_) (a' := ?_) #[true, true, true, true, true, true, true, true, true, true, true, true, true, true, true, true, true, true, true, true, true, false] rfl rfl (any_of HT_.out (by kernel_rfl)) (fun _ _ _ h => h) (Or.inl ⟨by rfl, ?_⟩) ?_ ?_
 rotate_left
 ·intro w'
  go_simp
  with_reducible rfl
 rotate_left
 ·simp only [Act.put, List.setIfInBounds_toArray, List.set_cons_zero, List.set_cons_succ, i64_w, i32_w]
  rfl
 refine one_ (i := 21) (N := none) #[true, true, true, true, true, true, true, true, true, true, true, true, true, true, true, true, true, true, true, true, true, true] rfl rfl (one_of HT_.out (by kernel_rfl)) (by decide) (fun K hK => ?_)
 have hs11 : w8.cell? ⟨gb102, 0, none⟩ = some (.int .i64 0) := (blk_cell BK102.out 0).trans rfl
 have hfs11 := blk_frozen BK102.out 0
 have hns11_0 := NB101_102.out
 have hms11_0 := NB102_101.out
 have hs12 : w8.cell? ⟨gb102, 1, none⟩ = some (.int .u64 0) := (blk_cell BK102.out 1).trans rfl
 have hfs12 := blk_frozen BK102.out 1
 have hns12_0 := NB101_102.out
 have hms12_0 := NB102_101.out
 have hs13 : w8.cell? ⟨gb102, 2, none⟩ = some (.int .u64 0) := (blk_cell BK102.out 2).trans rfl
 have hfs13 := blk_frozen BK102.out 2
 have hns13_0 := NB101_102.out
 have hms13_0 := NB102_101.out
 have hs14 : w8.cell? ⟨gb102, 3, none⟩ = some (.int .u64 0) := (blk_cell BK102.out 3).trans rfl
 have hfs14 := blk_frozen BK102.out 3
 have hns14_0 := NB101_102.out
 have hms14_0 := NB102_101.out
 have hs15 : w8.cell? ⟨gb102, 4, none⟩ = some (.int .u64 0) := (blk_cell BK102.out 4).trans rfl
 have hfs15 := blk_frozen BK102.out 4
 have hns15_0 := NB101_102.out
 have hms15_0 := NB102_101.out
 have hs16 : w8.cell? ⟨gb102, 5, none⟩ = some (.slice none 0 0) := (blk_cell BK102.out 5).trans rfl
 have hfs16 := blk_frozen BK102.out 5
 have hns16_0 := NB101_102.out
 have hms16_0 := NB102_101.out
 have hs17 : w8.cell? ⟨gb102, 6, none⟩ = some (.slice none 0 0) := (blk_cell BK102.out 6).trans rfl
 have hfs17 := blk_frozen BK102.out 6
 have hns17_0 := NB101_102.out
 have hms17_0 := NB102_101.out
 have hs18 : w8.cell? ⟨gb102, 7, none⟩ = some (.slice none 0 0) := (blk_cell BK102.out 7).trans rfl
 have hfs18 := blk_frozen BK102.out 7
 have hns18_0 := NB101_102.out
 have hms18_0 := NB102_101.out
 have hs19 : w8.cell? ⟨gb102, 8, none⟩ = some (.slice none 0 0) := (blk_cell BK102.out 8).trans rfl
 have hfs19 := blk_frozen BK102.out 8
 have hns19_0 := NB101_102.out
 have hms19_0 := NB102_101.out
 refine skip_ (w1 := ?_) (by rfl) rfl ?_ ?_
 rotate_left
 ·go_simp
  rfl
 refine hK.out _ _ ⟨((cell_far (p := ⟨gb102, _, none⟩) NB101_102.out _).trans (((cell_far (p := ⟨gb102, _, none⟩) NB101_102.out _).trans (((cell_far (p := ⟨gb102, _, none⟩) NB101_102.out _).trans (((cell_far (p := ⟨gb102, _, none⟩) NB101_102.out _).trans (((cell_far (p := ⟨gb102, _, none⟩) NB101_102.out _).trans (((cell_far (p := ⟨gb102, _, none⟩) NB101_102.out _).trans (((cell_far (p := ⟨gb102, _, none⟩) NB101_102.out _).trans (((cell_far (p := ⟨gb102, _, none⟩) NB101_102.out _).trans (((cell_far (p := ⟨gb102, _, none⟩) NB101_102.out _).trans (hHeld.1)))))))))))))))))), ((cell_far (p := ⟨gb102, _, none⟩) NB101_102.out _).trans (((cell_far (p := ⟨gb102, _, none⟩) NB101_102.out _).trans (((cell_far (p := ⟨gb102, _, none⟩) NB101_102.out _).trans (((cell_far (p := ⟨gb102, _, none⟩) NB101_102.out _).trans (((cell_far (p := ⟨gb102, _, none⟩) NB101_102.out _).trans (((cell_far (p := ⟨gb102, _, none⟩) NB101_102.out _).trans (((cell_far (p := ⟨gb102, _, none⟩) NB101_102.out _).trans (((cell_far (p := ⟨gb102, _, none⟩) NB101_102.out _).trans (((cell_far (p := ⟨gb102, _, none⟩) NB101_102.out _).trans (hHeld.2.1)))))))))))))))))), ((cell_far (p := ⟨gb102, _, none⟩) NB101_102.out _).trans (((cell_far (p := ⟨gb102, _, none⟩) NB101_102.out _).trans (((cell_far (p := ⟨gb102, _, none⟩) NB101_102.out _).trans (((cell_far (p := ⟨gb102, _, none⟩) NB101_102.out _).trans (((cell_far (p := ⟨gb102, _, none⟩) NB101_102.out _).trans (((cell_far (p := ⟨gb102, _, none⟩) NB101_102.out _).trans (((cell_far (p := ⟨gb102, _, none⟩) NB101_102.out _).trans (((cell_far (p := ⟨gb102, _, none⟩) NB101_102.out _).trans (((cell_far (p := ⟨gb102, _, none⟩) NB101_102.out _).trans (hHeld.2.2.1)))))))))))))))))), ((cell_far (p := ⟨gb102, _, none⟩) NB101_102.out _).trans (((cell_far (p := ⟨gb102, _, none⟩) NB101_102.out _).trans (((cell_far (p := ⟨gb102, _, none⟩) NB101_102.out _).trans (((cell_far (p := ⟨gb102, _, none⟩) NB101_102.out _).trans (((cell_far (p := ⟨gb102, _, none⟩) NB101_102.out _).trans (((cell_far (p := ⟨gb102, _, none⟩) NB101_102.out _).trans (((cell_far (p := ⟨gb102, _, none⟩) NB101_102.out _).trans (((cell_far (p := ⟨gb102, _, none⟩) NB101_102.out _).trans (((cell_far (p := ⟨gb102, _, none⟩) NB101_102.out _).trans (hHeld.2.2.2.1)))))))))))))))))), ((cell_far (p := ⟨gb102, _, none⟩) NB101_102.out _).trans (((cell_far (p := ⟨gb102, _, none⟩) NB101_102.out _).trans (((cell_far (p := ⟨gb102, _, none⟩) NB101_102.out _).trans (((cell_far (p := ⟨gb102, _, none⟩) NB101_102.out _).trans (((cell_far (p := ⟨gb102, _, none⟩) NB101_102.out _).trans (((cell_far (p := ⟨gb102, _, none⟩) NB101_102.out _).trans (((cell_far (p := ⟨gb102, _, none⟩) NB101_102.out _).trans (((cell_far (p := ⟨gb102, _, none⟩) NB101_102.out _).trans (((cell_far (p := ⟨gb102, _, none⟩) NB101_102.out _).trans (hHeld.2.2.2.2.1)))))))))))))))))), ((cell_far (p := ⟨gb102, _, none⟩) NB101_102.out _).trans (((cell_far (p := ⟨gb102, _, none⟩) NB101_102.out _).trans (((cell_far (p := ⟨gb102, _, none⟩) NB101_102.out _).trans (((cell_far (p := ⟨gb102, _, none⟩) NB101_102.out _).trans (((cell_far (p := ⟨gb102, _, none⟩) NB101_102.out _).trans (((cell_far (p := ⟨gb102, _, none⟩) NB101_102.out _).trans (((cell_far (p := ⟨gb102, _, none⟩) NB101_102.out _).trans (((cell_far (p := ⟨gb102, _, none⟩) NB101_102.out _).trans (((cell_far (p := ⟨gb102, _, none⟩) NB101_102.out _).trans (hHeld.2.2.2.2.2.1)))))))))))))))))), ((cell_far (p := ⟨gb102, _, none⟩) NB101_102.out _).trans (((cell_far (p := ⟨gb102, _, none⟩) NB101_102.out _).trans (((cell_far (p := ⟨gb102, _, none⟩) NB101_102.out _).trans (((cell_far (p := ⟨gb102, _, none⟩) NB101_102.out _).trans (((cell_far (p := ⟨gb102, _, none⟩) NB101_102.out _).trans (((cell_far (p := ⟨gb102, _, none⟩) NB101_102.out _).trans (((cell_far (p := ⟨gb102, _, none⟩) NB101_102.out _).trans (((cell_far (p := ⟨gb102, _, none⟩) NB101_102.out _).trans (((cell_far (p := ⟨gb102, _, none⟩) NB101_102.out _).trans (hHeld.2.2.2.2.2.2.1)))))))))))))))))), ((cell_far (p := ⟨gb102, _, none⟩) NB101_102.out _).trans (((cell_far (p := ⟨gb102, _, none⟩) NB101_102.out _).trans (((cell_far (p := ⟨gb102, _, none⟩) NB101_102.out _).trans (((cell_far (p := ⟨gb102, _, none⟩) NB101_102.out _).trans (((cell_far (p := ⟨gb102, _, none⟩) NB101_102.out _).trans (((cell_far (p := ⟨gb102, _, none⟩) NB101_102.out _).trans (((cell_far (p := ⟨gb102, _, none⟩) NB101_102.out _).trans (((cell_far (p := ⟨gb102, _, none⟩) NB101_102.out _).trans (((cell_far (p := ⟨gb102, _, none⟩) NB101_102.out _).trans (hHeld.2.2.2.2.2.2.2.1)))))))))))))))))), ((cell_far (p := ⟨gb102, _, none⟩) NB101_102.out _).trans (((cell_far (p := ⟨gb102, _, none⟩) NB101_102.out _).trans (((cell_far (p := ⟨gb102, _, none⟩) NB101_102.out _).trans (((cell_far (p := ⟨gb102, _, none⟩) NB101_102.out _).trans (((cell_far (p := ⟨gb102, _, none⟩) NB101_102.out _).trans (((cell_far (p := ⟨gb102, _, none⟩) NB101_102.out _).trans (((cell_far (p := ⟨gb102, _, none⟩) NB101_102.out _).trans (((cell_far (p := ⟨gb102, _, none⟩) NB101_102.out _).trans (((cell_far (p := ⟨gb102, _, none⟩) NB101_102.out _).trans (hHeld.2.2.2.2.2.2.2.2))))))))))))))))))⟩ (fun hHeld => ?_)
 clear hK K
 refine done_ (done_of HT_.out (by kernel_rfl)) ?_
 try go_wp2
 refine bodyPost_ret (results_cell_row rfl _ _ gb102 84 #[.int .i64 a0_0, .int .u64 a0_1, .int .u64 a0_2, .int .u64 a0_3, .int .u64 a0_4, .slice Ao10 t103.length co10, .slice Ao9 t106.length co9, .slice A0_7 l0_7.length c0_7, .slice A0_8 l0_8.length c0_8] (0, 0) _ rfl (by (with_reducible repeat (first | refine blk_drewN ?_ _ | refine blk_drew ?_ | refine blk_alloc ?_ _)); refine blk_put (cs := #[.int .i64 a0_0, .int .u64 a0_1, .int .u64 a0_2, .int .u64 a0_3, .int .u64 a0_4, .slice Ao10 t103.length co10, .slice Ao9 t106.length co9, .slice A0_7 l0_7.length c0_7, .slice none 0 0]) ?_ 8 _ rfl; (with_reducible repeat (first | refine blk_drewN ?_ _ | refine blk_drew ?_ | refine blk_alloc ?_ _)); refine blk_put (cs := #[.int .i64 a0_0, .int .u64 a0_1, .int .u64 a0_2, .int .u64 a0_3, .int .u64 a0_4, .slice Ao10 t103.length co10, .slice Ao9 t106.length co9, .slice none 0 0, .slice none 0 0]) ?_ 7 _ rfl; (with_reducible repeat (first | refine blk_drewN ?_ _ | refine blk_drew ?_ | refine blk_alloc ?_ _)); refine blk_put (cs := #[.int .i64 a0_0, .int .u64 a0_1, .int .u64 a0_2, .int .u64 a0_3, .int .u64 a0_4, .slice Ao10 t103.length co10, .slice none 0 0, .slice none 0 0, .slice none 0 0]) ?_ 6 _ rfl; (with_reducible repeat (first | refine blk_drewN ?_ _ | refine blk_drew ?_ | refine blk_alloc ?_ _)); refine blk_put (cs := #[.int .i64 a0_0, .int .u64 a0_1, .int .u64 a0_2, .int .u64 a0_3, .int .u64 a0_4, .slice none 0 0, .slice none 0 0, .slice none 0 0, .slice none 0 0]) ?_ 5 _ rfl; (with_reducible repeat (first | refine blk_drewN ?_ _ | refine blk_drew ?_ | refine blk_alloc ?_ _)); refine blk_put (cs := #[.int .i64 a0_0, .int .u64 a0_1, .int .u64 a0_2, .int .u64 a0_3, .int .u64 0, .slice none 0 0, .slice none 0 0, .slice none 0 0, .slice none 0 0]) ?_ 4 _ rfl; (with_reducible repeat (first | refine blk_drewN ?_ _ | refine blk_drew ?_ | refine blk_alloc ?_ _)); refine blk_put (cs := #[.int .i64 a0_0, .int .u64 a0_1, .int .u64 a0_2, .int .u64 0, .int .u64 0, .slice none 0 0, .slice none 0 0, .slice none 0 0, .slice none 0 0]) ?_ 3 _ rfl; (with_reducible repeat (first | refine blk_drewN ?_ _ | refine blk_drew ?_ | refine blk_alloc ?_ _)); refine blk_put (cs := #[.int .i64 a0_0, .int .u64 a0_1, .int .u64 0, .int .u64 0, .int .u64 0, .slice none 0 0, .slice none 0 0, .slice none 0 0, .slice none 0 0]) ?_ 2 _ rfl; (with_reducible repeat (first | refine blk_drewN ?_ _ | refine blk_drew ?_ | refine blk_alloc ?_ _)); refine blk_put (cs := #[.int .i64 a0_0, .int .u64 0, .int .u64 0, .int .u64 0, .int .u64 0, .slice none 0 0, .slice none 0 0, .slice none 0 0, .slice none 0 0]) ?_ 1 _ rfl; (with_reducible repeat (first | refine blk_drewN ?_ _ | refine blk_drew ?_ | refine blk_alloc ?_ _)); refine blk_put (cs := #[.int .i64 0, .int .u64 0, .int .u64 0, .int .u64 0, .int .u64 0, .slice none 0 0, .slice none 0 0, .slice none 0 0, .slice none 0 0]) ?_ 0 _ rfl; (with_reducible repeat (first | refine blk_drewN ?_ _ | refine blk_drew ?_ | refine blk_alloc ?_ _)); exact BK102.out) Try.underlying84 rfl (by kernel_rfl)) rfl ?_
 exact ⟨_, _, _, _, by first | rfl | (simp [errW_none, errW_some] <;> rfl) | (simp [*, errW_none, errW_some] <;> rfl), by (with_reducible repeat (first | apply Kd.R_alloc | apply Kd.R_drewN | apply Kd.R_drew)); exact Kd.R_mono (Kd.R_far (p := ⟨gb102, 8, none⟩) (Kd.R_far (p := ⟨gb102, 7, none⟩) (Kd.R_far (p := ⟨gb102, 6, none⟩) (Kd.R_far (p := ⟨gb102, 5, none⟩) (Kd.R_far (p := ⟨gb102, 4, none⟩) (Kd.R_far (p := ⟨gb102, 3, none⟩) (Kd.R_far (p := ⟨gb102, 2, none⟩) (Kd.R_far (p := ⟨gb102, 1, none⟩) (Kd.R_far (p := ⟨gb102, 0, none⟩) (Kd.R_types HO105.out BK102.out (by decide)) (fun _ hk => hk.2) (.int .i64 a0_0)) (fun _ hk => hk.2) (.int .u64 a0_1)) (fun _ hk => hk.2) (.int .u64 a0_2)) (fun _ hk => hk.2) (.int .u64 a0_3)) (fun _ hk => hk.2) (.int .u64 a0_4)) (fun _ hk => hk.2) (.slice Ao10 t103.length co10)) (fun _ hk => hk.2) (.slice Ao9 t106.length co9)) (fun _ hk => hk.2) (.slice A0_7 l0_7.length c0_7)) (fun _ hk => hk.2) (.slice A0_8 l0_8.length c0_8)) (fun _ hk => ⟨hk.1.1.1, hk.1.2⟩), by (with_reducible repeat (first | apply Kd.R_alloc | apply Kd.R_drewN | apply Kd.R_drew)); exact Kd.R_mono (Kd.R_far (p := ⟨gb102, 8, none⟩) (Kd.R_far (p := ⟨gb102, 7, none⟩) (Kd.R_far (p := ⟨gb102, 6, none⟩) (Kd.R_far (p := ⟨gb102, 5, none⟩) (Kd.R_far (p := ⟨gb102, 4, none⟩) (Kd.R_far (p := ⟨gb102, 3, none⟩) (Kd.R_far (p := ⟨gb102, 2, none⟩) (Kd.R_far (p := ⟨gb102, 1, none⟩) (Kd.R_far (p := ⟨gb102, 0, none⟩) (Kd.R_types HO108.out BK102.out (by decide)) (fun _ hk => hk.2) (.int .i64 a0_0)) (fun _ hk => hk.2) (.int .u64 a0_1)) (fun _ hk => hk.2) (.int .u64 a0_2)) (fun _ hk => hk.2) (.int .u64 a0_3)) (fun _ hk => hk.2) (.int .u64 a0_4)) (fun _ hk => hk.2) (.slice Ao10 t103.length co10)) (fun _ hk => hk.2) (.slice Ao9 t106.length co9)) (fun _ hk => hk.2) (.slice A0_7 l0_7.length c0_7)) (fun _ hk => hk.2) (.slice A0_8 l0_8.length c0_8)) (fun _ hk => ⟨hk.1.1.1, hk.1.2⟩), by (with_reducible repeat (first | apply Kd.V_alloc | apply Kd.V_drewN | apply Kd.V_drew)); exact Kd.V_mono (Kd.V_far (p := ⟨gb102, 8, none⟩) (Kd.V_far (p := ⟨gb102, 7, none⟩) (Kd.V_far (p := ⟨gb102, 6, none⟩) (Kd.V_far (p := ⟨gb102, 5, none⟩) (Kd.V_far (p := ⟨gb102, 4, none⟩) (Kd.V_far (p := ⟨gb102, 3, none⟩) (Kd.V_far (p := ⟨gb102, 2, none⟩) (Kd.V_far (p := ⟨gb102, 1, none⟩) (Kd.V_far (p := ⟨gb102, 0, none⟩) (Kd.V_mono HO0_7.out (fun k_ hk => (⟨hk, hk.1.1.2⟩ : _ ∧ k_ ≠ gb102))) (fun _ hk => hk.2) (.int .i64 a0_0)) (fun _ hk => hk.2) (.int .u64 a0_1)) (fun _ hk => hk.2) (.int .u64 a0_2)) (fun _ hk => hk.2) (.int .u64 a0_3)) (fun _ hk => hk.2) (.int .u64 a0_4)) (fun _ hk => hk.2) (.slice Ao10 t103.length co10)) (fun _ hk => hk.2) (.slice Ao9 t106.length co9)) (fun _ hk => hk.2) (.slice A0_7 l0_7.length c0_7)) (fun _ hk => hk.2) (.slice A0_8 l0_8.length c0_8)) (fun _ hk => ⟨hk.1.1.1.1.1, ⟨hk.1.1.2, hk.1.2⟩⟩), by (with_reducible repeat (first | apply Kd.V_alloc | apply Kd.V_drewN | apply Kd.V_drew)); exact Kd.V_mono (Kd.V_far (p := ⟨gb102, 8, none⟩) (Kd.V_far (p := ⟨gb102, 7, none⟩) (Kd.V_far (p := ⟨gb102, 6, none⟩) (Kd.V_far (p := ⟨gb102, 5, none⟩) (Kd.V_far (p := ⟨gb102, 4, none⟩) (Kd.V_far (p := ⟨gb102, 3, none⟩) (Kd.V_far (p := ⟨gb102, 2, none⟩) (Kd.V_far (p := ⟨gb102, 1, none⟩) (Kd.V_far (p := ⟨gb102, 0, none⟩) (Kd.V_mono HO0_8.out (fun k_ hk => (⟨hk, hk.1.1.2⟩ : _ ∧ k_ ≠ gb102))) (fun _ hk => hk.2) (.int .i64 a0_0)) (fun _ hk => hk.2) (.int .u64 a0_1)) (fun _ hk => hk.2) (.int .u64 a0_2)) (fun _ hk => hk.2) (.int .u64 a0_3)) (fun _ hk => hk.2) (.int .u64 a0_4)) (fun _ hk => hk.2) (.slice Ao10 t103.length co10)) (fun _ hk => hk.2) (.slice Ao9 t106.length co9)) (fun _ hk => hk.2) (.slice A0_7 l0_7.length c0_7)) (fun _ hk => hk.2) (.slice A0_8 l0_8.length c0_8)) (fun _ hk => ⟨hk.1.1.1.1.1, ⟨hk.1.1.2, hk.1.2⟩⟩), by repeat (first | (with_reducible first | exact HB.out | apply below_alloc | apply pw_below_drewN | apply below_drew1 | refine below_set ?_ GE101.out | refine below_set ?_ GE102.out) | exact HB.out)⟩
def tidepolelaw10_places.f (k : Nat) (l0 : List (S144)) (l1 : List Int) : Option (Bool) := (tidepolelaw10_spans.f k l0).bind fun t101 => ((tidepoleref06_Check.f k t101).bind fun t104 => (if t104 = 0 then ((tidepolelaw10_spans.f k l0).bind fun t105 => ((tidepoleref06_Places.f k t105).bind fun t108 => ((tidepoleref06_Same.f k t108 l1).bind fun t111 => (some t111)))) else (some false)))
set_option maxHeartbeats 8000000 in
set_option maxRecDepth 100000 in
theorem tidepolelaw10_places.calls (k : Nat) (A0 : Option Addr) (c0 : Nat) (l0 : List (S144)) (A1 : Option Addr) (c1 : Nat) (l1 : List Int) (r : Bool) (w : World) (hr0 : Kd.C k144 w A0 l0.length l0) (hc0 : l0.length ≤ c0) (hr1 : Kd.C (Kd.int .i64) w A1 l1.length l1) (hc1 : l1.length ≤ c1) (h : tidepolelaw10_places.f k l0 l1 = some r) :
  Calls Try.prog 101 #[.slice A0 l0.length c0, .slice A1 l1.length c1] w fun e w' => e = .returned (.bool r) ∧ Below w.heap.size w w' := by
 have HR0 := Aside0.mk hr0
 have HC0 := Aside0.mk hc0
 clear hr0 hc0
 have HR1 := Aside0.mk hr1
 have HC1 := Aside0.mk hc1
 clear hr1 hc1
 have HB := Aside0.mk (Below.refl w.heap.size w)
 have H : ((tidepolelaw10_spans.f k l0).bind fun t101 => ((tidepoleref06_Check.f k t101).bind fun t104 => (if t104 = 0 then ((tidepolelaw10_spans.f k l0).bind fun t105 => ((tidepoleref06_Places.f k t105).bind fun t108 => ((tidepoleref06_Same.f k t108 l1).bind fun t111 => (some t111)))) else (some false)))) = some r := h
 clear h
 replace H := Option.bind_eq_some_iff.mp H
 obtain ⟨t101, A30, H⟩ := H
 replace H : ((tidepoleref06_Check.f k t101).bind fun t104 => (if t104 = 0 then ((tidepolelaw10_spans.f k l0).bind fun t105 => ((tidepoleref06_Places.f k t105).bind fun t108 => ((tidepoleref06_Same.f k t108 l1).bind fun t111 => (some t111)))) else (some false))) = some r := H
 have A3 := Aside0.mk A30
 clear A30
 replace H := Option.bind_eq_some_iff.mp H
 obtain ⟨t104, A40, H⟩ := H
 replace H : (if t104 = 0 then ((tidepolelaw10_spans.f k l0).bind fun t105 => ((tidepoleref06_Places.f k t105).bind fun t108 => ((tidepoleref06_Same.f k t108 l1).bind fun t111 => (some t111)))) else (some false)) = some r := H
 have A4 := Aside0.mk A40
 clear A40
 by_cases c5 : t104 = 0
 ·rw [if_pos c5] at H
  have c5b0 : (t104 == 0) = true := beq_iff_eq.mpr c5
  have c5b1 : (t104 != 0) = false := bne_eq_false_iff_eq.mpr c5
  clear c5
  replace H := Option.bind_eq_some_iff.mp H
  obtain ⟨t105, A60, H⟩ := H
  replace H : ((tidepoleref06_Places.f k t105).bind fun t108 => ((tidepoleref06_Same.f k t108 l1).bind fun t111 => (some t111))) = some r := H
  have A6 := Aside0.mk A60
  clear A60
  replace H := Option.bind_eq_some_iff.mp H
  obtain ⟨t108, A70, H⟩ := H
  replace H : ((tidepoleref06_Same.f k t108 l1).bind fun t111 => (some t111)) = some r := H
  have A7 := Aside0.mk A70
  clear A70
  replace H := Option.bind_eq_some_iff.mp H
  obtain ⟨t111, A80, H⟩ := H
  replace H : (some t111) = some r := H
  have A8 := Aside0.mk A80
  clear A80
  obtain rfl := Option.some.inj H
  go_enter Try.func101, Try.ntmps101
  go_wp2_with (first | ((with_reducible refine gate_callee (f := 107) rfl ?_); refine goesL_ (some 6) rfl rfl Try.func107 (by kernel_rfl) rfl #[.slice A0 l0.length c0] rfl (by (try simp only [List.map_toArray, List.map_cons, List.map_nil]); first | done | rfl | (simp only [List.length_drop, List.length_take]; rfl)) ?_; (with_reducible refine (tidepolelaw10_spans.calls k _ _ l0 t101 _ ?side1 ?side2 A3.out).mono ?_); (case side1 => repeat (first | exact HR0.out | (with_reducible refine Kd.C_alloc ?_ _) | (with_reducible refine Kd.C_drewN ?_ _) | (with_reducible refine Kd.C_drew ?_))); (case side2 => exact HC0.out); rintro e w9 ⟨v102, rfl, ho0, hb⟩; refine ⟨_, rfl, ?_⟩; have n0_ := Aside0.mk (Kd.R_lower ho0 (below_size (by repeat (first | (with_reducible first | exact HB.out | apply below_alloc | apply pw_below_drewN | apply below_drew1) | exact HB.out)))); have n1_ := Aside0.mk (below_step (by repeat (first | (with_reducible first | exact HB.out | apply below_alloc | apply pw_below_drewN | apply below_drew1) | exact HB.out)) hb); clear HB; have HO103 := n0_; have HB := n1_; clear n0_ n1_; (try clear hb); (try clear hb2); (try clear hk); (try clear hi); (try clear ho0); clear A3; obtain ⟨Ao10, co10, eo10⟩ := Kd.R_slice HO103.out; subst eo10) | ((with_reducible refine gate_callee (f := 46) rfl ?_); refine goesL_ (some 7) rfl rfl Try.func46 (by kernel_rfl) rfl #[.slice Ao10 t101.length co10] rfl (by (try simp only [List.map_toArray, List.map_cons, List.map_nil]); first | done | rfl | (simp only [List.length_drop, List.length_take]; rfl)) ?_; (with_reducible refine (tidepoleref06_Check.calls k _ _ t101 t104 _ ?side1 ?side2 A4.out).mono ?_); (case side1 => repeat (first | exact (Kd.R_reads' HO103.out).2.2 | (with_reducible refine Kd.C_alloc ?_ _) | (with_reducible refine Kd.C_drewN ?_ _) | (with_reducible refine Kd.C_drew ?_))); (case side2 => exact (Kd.R_reads' HO103.out).2.1); rintro e w11 ⟨rfl, hb⟩; refine ⟨_, rfl, ?_⟩; have n0_ := Aside0.mk (Kd.R_below (by (with_reducible repeat (first | apply Kd.R_alloc | apply Kd.R_drewN | apply Kd.R_drew)); exact HO103.out) hb); have n1_ := Aside0.mk (below_step (by repeat (first | (with_reducible first | exact HB.out | apply below_alloc | apply pw_below_drewN | apply below_drew1) | exact HB.out)) hb); clear HO103; clear HB; have HO103 := n0_; have HB := n1_; clear n0_ n1_; (try clear hb); (try clear hb2); (try clear hk); (try clear hi); clear A4) | (go_at_call 107; (with_reducible refine (tidepolelaw10_spans.calls k _ _ l0 t105 _ ?side1 ?side2 A6.out).mono ?_); (case side1 => repeat (first | exact (Kd.C_below HR0.out HB.out) | (with_reducible refine Kd.C_alloc ?_ _) | (with_reducible refine Kd.C_drewN ?_ _) | (with_reducible refine Kd.C_drew ?_))); (case side2 => exact HC0.out); rintro e w12 ⟨v106, rfl, ho0, hb⟩; have n0_ := Aside0.mk (Kd.R_elder' (by (with_reducible repeat (first | apply Kd.R_alloc | apply Kd.R_drewN | apply Kd.R_drew)); exact HO103.out) (Kd.R_base ho0) hb); have n1_ := Aside0.mk (Kd.R_lower (Kd.R_new' ho0 (Kd.R_lt (by (with_reducible repeat (first | apply Kd.R_alloc | apply Kd.R_drewN | apply Kd.R_drew)); exact HO103.out))) (below_size (by repeat (first | (with_reducible first | exact HB.out | apply below_alloc | apply pw_below_drewN | apply below_drew1) | exact HB.out)))); have n2_ := Aside0.mk (below_step (by repeat (first | (with_reducible first | exact HB.out | apply below_alloc | apply pw_below_drewN | apply below_drew1) | exact HB.out)) hb); clear HO103; clear HB; have HO103 := n0_; have HO107 := n1_; have HB := n2_; clear n0_ n1_ n2_; (try clear hb); (try clear hb2); (try clear hk); (try clear hi); (try clear ho0); clear A6; obtain ⟨Ao13, co13, eo13⟩ := Kd.R_slice HO107.out; subst eo13) | (go_at_call 34; (with_reducible refine (tidepoleref06_Places.calls k _ _ t105 t108 _ ?side1 ?side2 A7.out).mono ?_); (case side1 => repeat (first | exact (Kd.R_reads' HO107.out).2.2 | (with_reducible refine Kd.C_alloc ?_ _) | (with_reducible refine Kd.C_drewN ?_ _) | (with_reducible refine Kd.C_drew ?_))); (case side2 => exact (Kd.R_reads' HO107.out).2.1); rintro e w14 ⟨v109, rfl, ho0, hb⟩; have n0_ := Aside0.mk (Kd.R_below (by (with_reducible repeat (first | apply Kd.R_alloc | apply Kd.R_drewN | apply Kd.R_drew)); exact HO103.out) hb); have n1_ := Aside0.mk (Kd.R_below (by (with_reducible repeat (first | apply Kd.R_alloc | apply Kd.R_drewN | apply Kd.R_drew)); exact HO107.out) hb); have n2_ := Aside0.mk (Kd.R_lower ho0 (below_size (by repeat (first | (with_reducible first | exact HB.out | apply below_alloc | apply pw_below_drewN | apply below_drew1) | exact HB.out)))); have n3_ := Aside0.mk (below_step (by repeat (first | (with_reducible first | exact HB.out | apply below_alloc | apply pw_below_drewN | apply below_drew1) | exact HB.out)) hb); clear HO103; clear HO107; clear HB; have HO103 := n0_; have HO107 := n1_; have HO110 := n2_; have HB := n3_; clear n0_ n1_ n2_ n3_; (try clear hb); (try clear hb2); (try clear hk); (try clear hi); (try clear ho0); clear A7; obtain ⟨Ao15, co15, eo15⟩ := Kd.R_slice HO110.out; subst eo15) | (go_at_call 33; (with_reducible refine (tidepoleref06_Same.calls k _ _ t108 _ _ l1 t111 _ ?side1 ?side2 ?side3 ?side4 A8.out).mono ?_); (case side1 => repeat (first | exact (Kd.R_reads' HO110.out).2.2 | (with_reducible refine Kd.C_alloc ?_ _) | (with_reducible refine Kd.C_drewN ?_ _) | (with_reducible refine Kd.C_drew ?_))); (case side2 => exact (Kd.R_reads' HO110.out).2.1); (case side3 => repeat (first | exact (Kd.C_below HR1.out HB.out) | (with_reducible refine Kd.C_alloc ?_ _) | (with_reducible refine Kd.C_drewN ?_ _) | (with_reducible refine Kd.C_drew ?_))); (case side4 => exact HC1.out); rintro e w' ⟨rfl, ⟨nd, rfl⟩⟩; clear A8))
  go_ret
  exact ⟨by first | rfl | (simp [errW_none, errW_some] <;> rfl) | (simp [*, errW_none, errW_some] <;> rfl), by repeat (first | (with_reducible first | exact HB.out | apply below_alloc | apply pw_below_drewN | apply below_drew1) | exact HB.out)⟩
 ·rw [if_neg c5] at H
  have c5b0 : (t104 == 0) = false := beq_eq_false_iff_ne.mpr c5
  have c5b1 : (t104 != 0) = true := bne_iff_ne.mpr c5
  obtain rfl := Option.some.inj H
  go_enter Try.func101, Try.ntmps101
  go_wp2_with (first | ((with_reducible refine gate_callee (f := 107) rfl ?_); refine goesL_ (some 6) rfl rfl Try.func107 (by kernel_rfl) rfl #[.slice A0 l0.length c0] rfl (by (try simp only [List.map_toArray, List.map_cons, List.map_nil]); first | done | rfl | (simp only [List.length_drop, List.length_take]; rfl)) ?_; (with_reducible refine (tidepolelaw10_spans.calls k _ _ l0 t101 _ ?side1 ?side2 A3.out).mono ?_); (case side1 => repeat (first | exact HR0.out | (with_reducible refine Kd.C_alloc ?_ _) | (with_reducible refine Kd.C_drewN ?_ _) | (with_reducible refine Kd.C_drew ?_))); (case side2 => exact HC0.out); rintro e w16 ⟨v102, rfl, ho0, hb⟩; refine ⟨_, rfl, ?_⟩; have n0_ := Aside0.mk (Kd.R_lower ho0 (below_size (by repeat (first | (with_reducible first | exact HB.out | apply below_alloc | apply pw_below_drewN | apply below_drew1) | exact HB.out)))); have n1_ := Aside0.mk (below_step (by repeat (first | (with_reducible first | exact HB.out | apply below_alloc | apply pw_below_drewN | apply below_drew1) | exact HB.out)) hb); clear HB; have HO103 := n0_; have HB := n1_; clear n0_ n1_; (try clear hb); (try clear hb2); (try clear hk); (try clear hi); (try clear ho0); clear A3; obtain ⟨Ao17, co17, eo17⟩ := Kd.R_slice HO103.out; subst eo17) | ((with_reducible refine gate_callee (f := 46) rfl ?_); refine goesL_ (some 7) rfl rfl Try.func46 (by kernel_rfl) rfl #[.slice Ao17 t101.length co17] rfl (by (try simp only [List.map_toArray, List.map_cons, List.map_nil]); first | done | rfl | (simp only [List.length_drop, List.length_take]; rfl)) ?_; (with_reducible refine (tidepoleref06_Check.calls k _ _ t101 t104 _ ?side1 ?side2 A4.out).mono ?_); (case side1 => repeat (first | exact (Kd.R_reads' HO103.out).2.2 | (with_reducible refine Kd.C_alloc ?_ _) | (with_reducible refine Kd.C_drewN ?_ _) | (with_reducible refine Kd.C_drew ?_))); (case side2 => exact (Kd.R_reads' HO103.out).2.1); rintro e w18 ⟨rfl, hb⟩; refine ⟨_, rfl, ?_⟩; have n0_ := Aside0.mk (Kd.R_below (by (with_reducible repeat (first | apply Kd.R_alloc | apply Kd.R_drewN | apply Kd.R_drew)); exact HO103.out) hb); have n1_ := Aside0.mk (below_step (by repeat (first | (with_reducible first | exact HB.out | apply below_alloc | apply pw_below_drewN | apply below_drew1) | exact HB.out)) hb); clear HO103; clear HB; have HO103 := n0_; have HB := n1_; clear n0_ n1_; (try clear hb); (try clear hb2); (try clear hk); (try clear hi); clear A4))
  go_ret
  exact ⟨by first | rfl | (simp [errW_none, errW_some] <;> rfl) | (simp [*, errW_none, errW_some] <;> rfl), by repeat (first | (with_reducible first | exact HB.out | apply below_alloc | apply pw_below_drewN | apply below_drew1) | exact HB.out)⟩
def tidepolelaw10_same.l0 : Nat → List Int → List Int → Int → Int → Option (Bool)
 | 0, _, _, _, _ => none
 | k + 1, x0, x1, x12, x13 => if x13 < x12 then (if 0 ≤ x13 then (if x13 < (x0.length : Int) then (if x13 < (x1.length : Int) then (if (rd x0 x13) = (rd x1 x13) then (tidepolelaw10_same.l0 k x0 x1 x12 (wrap64 (x13 + 1))) else (some false)) else (none)) else (none)) else (none)) else (some true)
def tidepolelaw10_same.f (k : Nat) (l0 : List Int) (l1 : List Int) : Option (Bool) := if (l0.length : Int) = (l1.length : Int) then (tidepolelaw10_same.l0 k l0 l1 (l0.length : Int) 0) else (some false)
set_option maxHeartbeats 8000000 in
set_option maxRecDepth 100000 in
theorem tidepolelaw10_same.calls (k : Nat) (A0 : Option Addr) (c0 : Nat) (l0 : List Int) (A1 : Option Addr) (c1 : Nat) (l1 : List Int) (r : Bool) (w : World) (hr0 : Kd.C (Kd.int .u64) w A0 l0.length l0) (hc0 : l0.length ≤ c0) (hr1 : Kd.C (Kd.int .u64) w A1 l1.length l1) (hc1 : l1.length ≤ c1) (h : tidepolelaw10_same.f k l0 l1 = some r) :
  Calls Try.prog 102 #[.slice A0 l0.length c0, .slice A1 l1.length c1] w fun e w' => e = .returned (.bool r) ∧ Drawn0 w w' := by
 have HR0 := Aside0.mk hr0
 have HC0 := Aside0.mk hc0
 clear hr0 hc0
 have HR1 := Aside0.mk hr1
 have HC1 := Aside0.mk hc1
 clear hr1 hc1
 have H : (if (l0.length : Int) = (l1.length : Int) then (tidepolelaw10_same.l0 k l0 l1 (l0.length : Int) 0) else (some false)) = some r := h
 clear h
 by_cases c3 : (l0.length : Int) = (l1.length : Int)
 ·rw [if_pos c3] at H
  have c3b0 : ((l0.length : Int) == (l1.length : Int)) = true := beq_iff_eq.mpr c3
  have c3b1 : ((l0.length : Int) != (l1.length : Int)) = false := bne_eq_false_iff_eq.mpr c3
  have c3b2 : (l0.length == l1.length) = true := by first | simpa using c3 | (simp at c3 ⊢; omega)
  clear c3
  have H' := Aside0.mk H
  clear H
  go_enter Try.func102, Try.ntmps102
  go_wp2
  repeat (go_quiet (fail); try go_wp2)
  go_loopg [13] k (fun kq v13 w' => ∃ (x13_1 : Int), v13 = .int .i64 x13_1 ∧ Aside0 (tidepolelaw10_same.l0 kq l0 l1 (l0.length : Int) x13_1 = some r) ∧ Aside0 (kq ≤ k) ∧ Drawn0 w w')
  case atStart => exact ⟨(0), (by first | rfl | (simp; done) | (simp [*]; done)), H', ⟨Nat.le_refl _⟩, by repeat (first | exact Drawn0.refl _ | apply Drawn0.step)⟩
  case round =>
   clear H'
   try clear c1
   try clear p2
   try clear c3
   try clear c3b0
   try clear c3b1
   try clear c3b2
   obtain ⟨x13_1, rfl, HA, HK1, ⟨m1, rfl⟩⟩ := hrel
   cases gk with
   | zero => exact absurd HA.out (by simp [tidepolelaw10_same.l0])
   | succ k1 =>
    have H := HA.out
    clear HA
    simp only [tidepolelaw10_same.l0] at H
    by_cases c4 : x13_1 < (l0.length : Int)
    ·rw [if_pos c4] at H
     have c4b0 : decide (x13_1 < (l0.length : Int)) = true := decide_eq_true c4
     clear c4
     by_cases c5 : 0 ≤ x13_1
     ·rw [if_pos c5] at H
      have c5b0 : decide (0 ≤ x13_1) = true := decide_eq_true c5
      clear c5
      by_cases c6 : x13_1 < (l0.length : Int)
      ·rw [if_pos c6] at H
       have c6b0 : decide (x13_1 < (l0.length : Int)) = true := decide_eq_true c6
       clear c6
       by_cases c7 : x13_1 < (l1.length : Int)
       ·rw [if_pos c7] at H
        have c7b0 : decide (x13_1 < (l1.length : Int)) = true := decide_eq_true c7
        clear c7
        by_cases c8 : (rd l0 x13_1) = (rd l1 x13_1)
        ·rw [if_pos c8] at H
         have c8b0 : ((rd l0 x13_1) == (rd l1 x13_1)) = true := beq_iff_eq.mpr c8
         have c8b1 : ((rd l0 x13_1) != (rd l1 x13_1)) = false := bne_eq_false_iff_eq.mpr c8
         clear c8
         have H' := Aside0.mk H
         clear H
         have p101 : 0 ≤ (x13_1 : Int) := of_decide_eq_true (by first | (with_reducible assumption) | assumption)
         have q101 : x13_1 < (l0.length : Int) := of_decide_eq_true (by first | (with_reducible assumption) | assumption)
         obtain ⟨ad101, e101, hx101_0⟩ := Kd.at_int HR0.out x13_1 p101 q101
         cases e101
         replace p101 := eq_true p101
         replace q101 := eq_true q101
         have p102 : 0 ≤ (x13_1 : Int) := of_decide_eq_true (by first | (with_reducible assumption) | assumption)
         have q102 : x13_1 < (l1.length : Int) := of_decide_eq_true (by first | (with_reducible assumption) | assumption)
         obtain ⟨ad102, e102, hx102_0⟩ := Kd.at_int HR1.out x13_1 p102 q102
         cases e102
         replace p102 := eq_true p102
         replace q102 := eq_true q102
         go_wp2
         repeat (go_quiet (fail); try go_wp2)
         go_roundg k1
         case measure => have := HK1.out; omega
         case rel => exact ⟨(wrap64 (x13_1 + 1)), (by first | rfl | (simp; done) | (simp [*]; done)), H', ⟨by have := HK1.out; omega⟩, by repeat (first | exact Drawn0.refl _ | apply Drawn0.step)⟩
        ·rw [if_neg c8] at H
         have c8b0 : ((rd l0 x13_1) == (rd l1 x13_1)) = false := beq_eq_false_iff_ne.mpr c8
         have c8b1 : ((rd l0 x13_1) != (rd l1 x13_1)) = true := bne_iff_ne.mpr c8
         obtain rfl := Option.some.inj H
         have p101 : 0 ≤ (x13_1 : Int) := of_decide_eq_true (by first | (with_reducible assumption) | assumption)
         have q101 : x13_1 < (l0.length : Int) := of_decide_eq_true (by first | (with_reducible assumption) | assumption)
         obtain ⟨ad101, e101, hx101_0⟩ := Kd.at_int HR0.out x13_1 p101 q101
         cases e101
         replace p101 := eq_true p101
         replace q101 := eq_true q101
         have p102 : 0 ≤ (x13_1 : Int) := of_decide_eq_true (by first | (with_reducible assumption) | assumption)
         have q102 : x13_1 < (l1.length : Int) := of_decide_eq_true (by first | (with_reducible assumption) | assumption)
         obtain ⟨ad102, e102, hx102_0⟩ := Kd.at_int HR1.out x13_1 p102 q102
         cases e102
         replace p102 := eq_true p102
         replace q102 := eq_true q102
         go_wp2
         repeat (go_quiet (fail); try go_wp2)
         go_ret
         exact ⟨by first | rfl | (simp; done) | (simp [*]; done), by repeat (first | exact Drawn0.refl _ | apply Drawn0.step)⟩
       ·rw [if_neg c7] at H
        exact absurd H (by simp)
      ·rw [if_neg c6] at H
       exact absurd H (by simp)
     ·rw [if_neg c5] at H
      exact absurd H (by simp)
    ·rw [if_neg c4] at H
     have c4b0 : decide (x13_1 < (l0.length : Int)) = false := decide_eq_false c4
     clear c4
     obtain rfl := Option.some.inj H
     go_wp2
     repeat (go_quiet (fail); try go_wp2)
     go_ret
     exact ⟨by first | rfl | (simp; done) | (simp [*]; done), by repeat (first | exact Drawn0.refl _ | apply Drawn0.step)⟩
 ·rw [if_neg c3] at H
  have c3b0 : ((l0.length : Int) == (l1.length : Int)) = false := beq_eq_false_iff_ne.mpr c3
  have c3b1 : ((l0.length : Int) != (l1.length : Int)) = true := bne_iff_ne.mpr c3
  have c3b2 : (l0.length == l1.length) = false := by first | simpa using c3 | (simp at c3 ⊢; omega)
  obtain rfl := Option.some.inj H
  go_enter Try.func102, Try.ntmps102
  go_wp2
  repeat (go_quiet (fail); try go_wp2)
  go_ret
  exact ⟨by first | rfl | (simp; done) | (simp [*]; done), by repeat (first | exact Drawn0.refl _ | apply Drawn0.step)⟩
end Go.Proofs.Ytacgeafjilipdaa.P
namespace Go.Proofs.Ytacgeafjilipdaa.P
open Go.RowKit Go.Shelf Go.Proofs.YtacgeafjilipdaaW.PrintWords Go.Proofs.YtacgeafjilipdaaW.PrintLast Go.Proofs.YtacgeafjilipdaaW.PrintMore
set_option linter.unusedVariables false
set_option linter.unusedSimpArgs false
def oneH : Hi := ⟨0, 1, 1, 6, 0, [⟨3, 2⟩], [], [5, -5], []⟩
def badH : Hi := ⟨0, 1, 1, 7, 0, [⟨3, 2⟩], [], [5, -5], []⟩
theorem HI.spans {w : World} {h : Hi} {A5 A6 A7 A8 : Option Addr} {n5 n6 n7 n8 c5 c6 c7 c8 : Nat} {x0 x1 x2 x3 x4 : Value} (hv : HI w (.agg #[x0, x1, x2, x3, x4, .slice A5 n5 c5, .slice A6 n6 c6, .slice A7 n7 c7, .slice A8 n8 c8]) h) : SI kSp w (.slice A5 n5 c5) h.f5 := by
  obtain ⟨v5, v6, v7, v8, e, h5, -⟩ := hv
  injection e with e
  have e5 := congrArg (fun a : Array Value => a.getD 5 undef) e
  simp at e5
  rw [e5]; exact h5
theorem HI.bad {w : World} {A5 A6 A7 A8 : Option Addr} {n5 n6 n7 n8 c5 c6 c7 c8 : Nat} (hv : HI w (.agg #[.int .i64 0, .int .u64 1, .int .u64 1, .int .u64 6, .int .u64 0, .slice A5 n5 c5, .slice A6 n6 c6, .slice A7 n7 c7, .slice A8 n8 c8]) oneH) : HI w (.agg #[.int .i64 0, .int .u64 1, .int .u64 1, .int .u64 7, .int .u64 0, .slice A5 n5 c5, .slice A6 n6 c6, .slice A7 n7 c7, .slice A8 n8 c8]) badH := by
  obtain ⟨v5, v6, v7, v8, e, h5, h6, h7, h8⟩ := hv
  injection e with e
  have e5 := congrArg (fun a : Array Value => a.getD 5 undef) e
  have e6 := congrArg (fun a : Array Value => a.getD 6 undef) e
  have e7 := congrArg (fun a : Array Value => a.getD 7 undef) e
  have e8 := congrArg (fun a : Array Value => a.getD 8 undef) e
  simp at e5 e6 e7 e8
  subst e5; subst e6; subst e7; subst e8
  exact ⟨_, _, _, _, rfl, h5, h6, h7, h8⟩
end Go.Proofs.Ytacgeafjilipdaa.P
namespace Go.Proofs.Ytacgeafjilipdaa.P
open Go.RowKit Go.Shelf Go.Proofs.YtacgeafjilipdaaW.PrintWords Go.Proofs.YtacgeafjilipdaaW.PrintLast Go.Proofs.YtacgeafjilipdaaW.PrintMore
set_option linter.unusedVariables false
set_option linter.unusedSimpArgs false
def oneF : Fh := ⟨0, 1, 4602678819172646912, 4613937818241073152, 0, [⟨3, 2⟩], [], [4613937818241073152, 0], []⟩
def canF : Fh := ⟨0, 1, 4602678819172646912, 4613937818241073152, 0, [⟨3, 1⟩], [], [4613937818241073152], []⟩
def badF : Fh := ⟨0, 1, 4602678819172646912, 9223372036854775808, 0, [⟨3, 2⟩], [], [4613937818241073152, 0], []⟩
def oneQ : List Pu := [⟨3, 4613937818241073152⟩, ⟨4, 0⟩]
theorem oneF_wf : wfF oneF := by unfold wfF; decide
theorem canF_wf : wfF canF := by unfold wfF; decide
theorem badF_wf : wfF badF := by unfold wfF; decide
theorem aw10_1 : pairsF oneF 0 = (oneQ, 0) := by kernel_rfl
theorem aw10_2 : canonF oneF = (canF, 0) := by kernel_rfl
theorem aw10_3 : checkF badF = 22 := by kernel_rfl
theorem aw10_0 : checkF oneF = 0 := by kernel_rfl
theorem aw10_4 : makeF oneF oneQ [] = (oneF, 0) := by kernel_rfl
theorem aw10_5 : overF canF oneF.f5 [] = (oneF, 0) := by kernel_rfl
theorem aw10_6 : equalF oneF oneF = true := by kernel_rfl
theorem aw10_7 : equalF oneF canF = true := by kernel_rfl
theorem aw10_8 : equalF oneF badF = false := by kernel_rfl
theorem oneQ_wf : wfRowU oneQ := ⟨by unfold wfPus oneQ; decide, by decide⟩
def wh10 (v : Int) : Int × Bool := if v = 4613937818241073152 then (3, true) else if v = 4602678819172646912 then (0, false) else (0, true)
theorem wh10_c (v : Int) (h : v = 4602678819172646912 ∨ v = 4613937818241073152 ∨ v = 0) (w : World) : Calls Try.prog 111 #[.int .u64 v] w fun e w' => e = .returned (.tuple #[.int .u64 (wh10 v).1, .bool (wh10 v).2]) ∧ Below w.heap.size w w' := by
  rcases h with rfl | rfl | rfl
  · exact whole_half w
  · exact whole_three w
  · exact whole_zero w
theorem right10 (w : World) : Calls Try.prog 98 #[.int .u64 0] w fun e w' => e = .returned (.bool true) ∧ Below w.heap.size w w' := by
  have := right_c 0 w
  rwa [show rightF 0 = true from by decide] at this
theorem back10 (w : World) (v : Value) (hv : GI w v oneF) : Calls Try.prog 119 #[v] w fun e w' => e = .returned (.tuple #[.agg #[.int .i64 0, .int .u64 0, .int .u64 0, .int .u64 0, .int .u64 0, .slice none 0 0, .slice none 0 0, .slice none 0 0, .slice none 0 0], .int .i64 10]) ∧ Below w.heap.size w w' :=
  backForm_c wh10 oneF oneF_wf aw10_0 (by decide) (by decide) (fun v h w => wh10_c v (by
    rcases h with h | h | h | h
    · exact .inl h
    · exact .inr (.inl h)
    · simp only [oneF, List.mem_cons, List.not_mem_nil, or_false] at h
      rcases h with h | h
      · exact .inr (.inl h)
      · exact .inr (.inr h)
    · simp [oneF] at h) w) (by decide) w v hv
theorem fone_x (w : World) : Calls Try.prog 158 #[] w fun e w' => ∃ oA5 oc5 oA6 oc6 oA7 oc7 oA8 oc8, e = .returned (.agg #[.int .i64 0, .int .u64 1, .int .u64 4602678819172646912, .int .u64 4613937818241073152, .int .u64 0, .slice oA5 1 oc5, .slice oA6 0 oc6, .slice oA7 2 oc7, .slice oA8 0 oc8]) ∧ GI w' (.agg #[.int .i64 0, .int .u64 1, .int .u64 4602678819172646912, .int .u64 4613937818241073152, .int .u64 0, .slice oA5 1 oc5, .slice oA6 0 oc6, .slice oA7 2 oc7, .slice oA8 0 oc8]) oneF ∧ Below w.heap.size w w' := by
  refine (tidepolelaw10_one.calls 0 1 4602678819172646912 4613937818241073152 0 [⟨3, 2⟩] [] [4613937818241073152, 0] [] w (by kernel_rfl)).mono ?_
  rintro e w1 ⟨v5, v6, v7, v8, rfl, h5, h6, h7, h8, hb⟩
  have hi : GI w1 (.agg #[.int .i64 0, .int .u64 1, .int .u64 4602678819172646912, .int .u64 4613937818241073152, .int .u64 0, v5, v6, v7, v8]) oneF := ⟨v5, v6, v7, v8, rfl, .of_R h5, .of_R h6, .of_R h7, .of_R h8⟩
  obtain ⟨a5, c5, a6, c6, a7, c7, a8, c8, e, -⟩ := hi.open_
  rw [e] at hi ⊢
  exact ⟨a5, c5, a6, c6, a7, c7, a8, c8, rfl, hi, hb⟩
theorem fpairs_x (w : World) (v : Value) (hv : GI w v oneF) : Calls Try.prog 100 #[v, .int .i64 0] w fun e w' => ∃ A c, e = .returned (.tuple #[.slice A 2 c, .int .i64 0]) ∧ SI kPu w' (.slice A 2 c) oneQ ∧ Below w.heap.size w w' := by
  have := fpairs_c oneF oneF_wf 0 w v hv
  rw [aw10_1] at this
  refine this.mono ?_
  rintro e w1 ⟨v0, rfl, h0, hb⟩
  have h0' := h0
  obtain ⟨A, c, rfl, -⟩ := h0'
  exact ⟨A, c, rfl, h0, hb⟩
theorem fcanon_x (w : World) (v : Value) (hv : GI w v oneF) : Calls Try.prog 118 #[v] w fun e w' => ∃ cA5 cc5 cA6 cc6 cA7 cc7 cA8 cc8, e = .returned (.tuple #[.agg #[.int .i64 0, .int .u64 1, .int .u64 4602678819172646912, .int .u64 4613937818241073152, .int .u64 0, .slice cA5 1 cc5, .slice cA6 0 cc6, .slice cA7 1 cc7, .slice cA8 0 cc8], .int .i64 0]) ∧ GI w' (.agg #[.int .i64 0, .int .u64 1, .int .u64 4602678819172646912, .int .u64 4613937818241073152, .int .u64 0, .slice cA5 1 cc5, .slice cA6 0 cc6, .slice cA7 1 cc7, .slice cA8 0 cc8]) canF ∧ Below w.heap.size w w' := by
  have := fcanon_c oneF oneF_wf w v hv
  rw [aw10_2] at this
  refine this.mono ?_
  rintro e w1 ⟨v0, rfl, h0, hb⟩
  obtain ⟨a5, c5, a6, c6, a7, c7, a8, c8, e, -⟩ := h0.now.open_
  have hi := h0.now
  subst e
  exact ⟨a5, c5, a6, c6, a7, c7, a8, c8, rfl, hi, hb⟩
theorem fmake_x (w : World) (v vp : Value) (hv : GI w v oneF) (hp : SI kPu w vp oneQ) : Calls Try.prog 115 #[v, vp, .slice none 0 0] w fun e w' => ∃ mA5 mc5 mA6 mc6 mA7 mc7 mA8 mc8, e = .returned (.tuple #[.agg #[.int .i64 0, .int .u64 1, .int .u64 4602678819172646912, .int .u64 4613937818241073152, .int .u64 0, .slice mA5 1 mc5, .slice mA6 0 mc6, .slice mA7 2 mc7, .slice mA8 0 mc8], .int .i64 0]) ∧ GI w' (.agg #[.int .i64 0, .int .u64 1, .int .u64 4602678819172646912, .int .u64 4613937818241073152, .int .u64 0, .slice mA5 1 mc5, .slice mA6 0 mc6, .slice mA7 2 mc7, .slice mA8 0 mc8]) oneF ∧ Below w.heap.size w w' := by
  have := fmake_c oneF oneF_wf oneQ [] oneQ_wf RowOKU.nil.wf w v vp _ hv hp (SI.nil _ _)
  rw [aw10_4] at this
  refine this.mono ?_
  rintro e w1 ⟨v0, rfl, h0, hb⟩
  obtain ⟨a5, c5, a6, c6, a7, c7, a8, c8, e, -⟩ := h0.now.open_
  have hi := h0.now
  subst e
  exact ⟨a5, c5, a6, c6, a7, c7, a8, c8, rfl, hi, hb⟩
theorem fover_x (w : World) (v vp : Value) (hv : GI w v canF) (hp : SI kSp w vp oneF.f5) : Calls Try.prog 106 #[v, vp, .slice none 0 0] w fun e w' => ∃ rA5 rc5 rA6 rc6 rA7 rc7 rA8 rc8, e = .returned (.tuple #[.agg #[.int .i64 0, .int .u64 1, .int .u64 4602678819172646912, .int .u64 4613937818241073152, .int .u64 0, .slice rA5 1 rc5, .slice rA6 0 rc6, .slice rA7 2 rc7, .slice rA8 0 rc8], .int .i64 0]) ∧ GF w.heap.size w' (.agg #[.int .i64 0, .int .u64 1, .int .u64 4602678819172646912, .int .u64 4613937818241073152, .int .u64 0, .slice rA5 1 rc5, .slice rA6 0 rc6, .slice rA7 2 rc7, .slice rA8 0 rc8]) oneF ∧ Below w.heap.size w w' := by
  have := fover_c canF canF_wf oneF.f5 [] oneF_wf.2.2.2.2.2.1 (fun s hs => by simp at hs) w v vp _ hv hp (SI.nil _ _)
  rw [aw10_5] at this
  refine this.mono ?_
  rintro e w1 ⟨v0, rfl, h0, hb⟩
  obtain ⟨a5, c5, a6, c6, a7, c7, a8, c8, e, -⟩ := h0.now.open_
  subst e
  exact ⟨a5, c5, a6, c6, a7, c7, a8, c8, rfl, h0, hb⟩
theorem fequal_x (a b : Fh) (ha : wfF a) (hb : wfF b) (r : Bool) (he : equalF a b = r) (w : World) (u v : Value) (hu : GI w u a) (hv : GI w v b) : Calls Try.prog 103 #[u, v] w fun e w' => e = .returned (.bool r) ∧ Below w.heap.size w w' := he ▸ fequal_c a b ha hb w u v hu hv
theorem fcheck_x (a : Fh) (ha : wfF a) (r : Int) (he : checkF a = r) (w : World) (u : Value) (hu : GI w u a) : Calls Try.prog 96 #[u] w fun e w' => e = .returned (.int .i64 r) ∧ Below w.heap.size w w' := he ▸ fcheck_c a ha w u hu
theorem GI.spans {w : World} {h : Fh} {A5 A6 A7 A8 : Option Addr} {n5 n6 n7 n8 c5 c6 c7 c8 : Nat} {x0 x1 x2 x3 x4 : Value} (hv : GI w (.agg #[x0, x1, x2, x3, x4, .slice A5 n5 c5, .slice A6 n6 c6, .slice A7 n7 c7, .slice A8 n8 c8]) h) : SI kSp w (.slice A5 n5 c5) h.f5 := by
  obtain ⟨v5, v6, v7, v8, e, h5, -⟩ := hv
  injection e with e
  have e5 := congrArg (fun a : Array Value => a.getD 5 undef) e
  simp at e5
  rw [e5]; exact h5
theorem GI.bad {w : World} {A5 A6 A7 A8 : Option Addr} {n5 n6 n7 n8 c5 c6 c7 c8 : Nat} (hv : GI w (.agg #[.int .i64 0, .int .u64 1, .int .u64 4602678819172646912, .int .u64 4613937818241073152, .int .u64 0, .slice A5 n5 c5, .slice A6 n6 c6, .slice A7 n7 c7, .slice A8 n8 c8]) oneF) : GI w (.agg #[.int .i64 0, .int .u64 1, .int .u64 4602678819172646912, .int .u64 9223372036854775808, .int .u64 0, .slice A5 n5 c5, .slice A6 n6 c6, .slice A7 n7 c7, .slice A8 n8 c8]) badF := by
  obtain ⟨v5, v6, v7, v8, e, h5, h6, h7, h8⟩ := hv
  injection e with e
  have e5 := congrArg (fun a : Array Value => a.getD 5 undef) e
  have e6 := congrArg (fun a : Array Value => a.getD 6 undef) e
  have e7 := congrArg (fun a : Array Value => a.getD 7 undef) e
  have e8 := congrArg (fun a : Array Value => a.getD 8 undef) e
  simp at e5 e6 e7 e8
  subst e5; subst e6; subst e7; subst e8
  exact ⟨_, _, _, _, rfl, h5, h6, h7, h8⟩
theorem ffield5_x (a5 a6 a7 a8 : Option Addr) (n5 c5 n6 c6 n7 c7 n8 c8 : Nat) (x0 x1 x2 x3 x4 : Int) (W : World) : (Instr.field 79 (.agg #[.int .i64 x0, .int .u64 x1, .int .u64 x2, .int .u64 x3, .int .u64 x4, .slice a5 n5 c5, .slice a6 n6 c6, .slice a7 n7 c7, .slice a8 n8 c8]) 5).run Try.prog W = .ok (.slice a5 n5 c5) W := by
  kernel_rfl
set_option maxHeartbeats 16000000 in
set_option maxRecDepth 100000 in
theorem awake10_c (w : World) : Calls Try.prog 95 #[] w fun e w' => e = .returned (.bool true) ∧ Below w.heap.size w w' := by
  have hu := Try.underlying79
  have hpu := Try.underlying123
  have huh := Try.underlying64
  have hfd := ffield5_x
  go_enter Try.func95, Try.ntmps95
  go_wp2_with fail
  refine (fone_x w).mono ?_
  rintro e w1 ⟨oA5, oc5, oA6, oc6, oA7, oc7, oA8, oc8, rfl, hh, hb⟩
  have B := Aside0.mk hb
  have O := Aside0.mk hh
  clear hb hh
  go_wp2_with fail
  refine (fpairs_x _ _ O.out).mono ?_
  rintro e w2 ⟨pA, pc, rfl, hh, hb⟩
  replace B := Aside0.mk (below_then B.out B.out.size hb)
  replace O := Aside0.mk (O.out.below hb)
  have P := Aside0.mk hh
  clear hb hh
  go_wp2_with fail
  refine (fone_x _).mono ?_
  rintro e w3 ⟨qA5, qc5, qA6, qc6, qA7, qc7, qA8, qc8, rfl, hh, hb⟩
  replace B := Aside0.mk (below_then B.out B.out.size hb)
  replace O := Aside0.mk (O.out.below hb)
  replace P := Aside0.mk (P.out.below hb)
  have Q := Aside0.mk hh
  clear hb hh
  go_wp2_with fail
  refine (fcanon_x _ _ Q.out).mono ?_
  rintro e w4 ⟨cA5, cc5, cA6, cc6, cA7, cc7, cA8, cc8, rfl, hh, hb⟩
  replace B := Aside0.mk (below_then B.out B.out.size hb)
  replace O := Aside0.mk (O.out.below hb)
  replace P := Aside0.mk (P.out.below hb)
  replace Q := Aside0.mk (Q.out.below hb)
  have C := Aside0.mk hh
  clear hb hh
  go_wp2_with fail
  refine (fone_x _).mono ?_
  rintro e W5 ⟨bA5, bc5, bA6, bc6, bA7, bc7, bA8, bc8, rfl, hh, hb⟩
  have hb0 := hb
  have hb := below_then (below_alloc (Below.refl w4.heap.size w4) (.cells #[.int .i64 0, .int .u64 1, .int .u64 4602678819172646912, .int .u64 4613937818241073152, .int .u64 0, .slice cA5 1 cc5, .slice cA6 0 cc6, .slice cA7 1 cc7, .slice cA8 0 cc8] 79)) ((below_alloc (Below.refl w4.heap.size w4) (.cells #[.int .i64 0, .int .u64 1, .int .u64 4602678819172646912, .int .u64 4613937818241073152, .int .u64 0, .slice cA5 1 cc5, .slice cA6 0 cc6, .slice cA7 1 cc7, .slice cA8 0 cc8] 79))).size hb
  replace B := Aside0.mk (below_then B.out B.out.size hb)
  replace O := Aside0.mk (O.out.below hb)
  replace P := Aside0.mk (P.out.below hb)
  replace Q := Aside0.mk (Q.out.below hb)
  replace C := Aside0.mk (C.out.below hb)
  have T3 := Aside0.mk (show Blk W5 w4.heap.size #[.int .i64 0, .int .u64 1, .int .u64 4602678819172646912, .int .u64 4613937818241073152, .int .u64 0, .slice cA5 1 cc5, .slice cA6 0 cc6, .slice cA7 1 cc7, .slice cA8 0 cc8] 79 from (Blk.new w4 #[.int .i64 0, .int .u64 1, .int .u64 4602678819172646912, .int .u64 4613937818241073152, .int .u64 0, .slice cA5 1 cc5, .slice cA6 0 cc6, .slice cA7 1 cc7, .slice cA8 0 cc8] 79).below hb0)
  have ht3 := fun i => T3.out.cell i
  have D := Aside0.mk hh
  clear hb hb0 hh
  have hbw := below_alloc (Below.refl W5.heap.size W5) (.cells #[.int .i64 0, .int .u64 1, .int .u64 4602678819172646912, .int .u64 9223372036854775808, .int .u64 0, .slice bA5 1 bc5, .slice bA6 0 bc6, .slice bA7 2 bc7, .slice bA8 0 bc8] 79)
  have hP := P.out.below hbw
  obtain ⟨_, _, eP, _, hPC⟩ := hP
  cases eP
  obtain ⟨ad, e1, hx0, hx1⟩ := at_T123 hPC 0 (by decide) (by decide)
  obtain ⟨ad', e1', hy0, hy1⟩ := at_T123 hPC 1 (by decide) (by decide)
  subst e1
  cases e1'
  have hx1' : (W5.alloc (.cells #[.int .i64 0, .int .u64 1, .int .u64 4602678819172646912, .int .u64 9223372036854775808, .int .u64 0, .slice bA5 1 bc5, .slice bA6 0 bc6, .slice bA7 2 bc7, .slice bA8 0 bc8] 79)).cell? ⟨ad.block, ad.off + 1, none⟩ = some (.int .u64 4613937818241073152) := hx1
  have hy0' : (W5.alloc (.cells #[.int .i64 0, .int .u64 1, .int .u64 4602678819172646912, .int .u64 9223372036854775808, .int .u64 0, .slice bA5 1 bc5, .slice bA6 0 bc6, .slice bA7 2 bc7, .slice bA8 0 bc8] 79)).cell? ⟨ad.block, ad.off + 2, none⟩ = some (.int .i64 4) := hy0
  clear hx0 hx1 hy0 hy1 hPC hbw
  replace ht3 := fun i => (T3.out.alloc (.cells #[.int .i64 0, .int .u64 1, .int .u64 4602678819172646912, .int .u64 9223372036854775808, .int .u64 0, .slice bA5 1 bc5, .slice bA6 0 bc6, .slice bA7 2 bc7, .slice bA8 0 bc8] 79)).cell i
  go_wp2_with fail
  refine (fcheck_x badF badF_wf 22 aw10_3 _ _ (D.out.bad.below (below_alloc (Below.refl W5.heap.size W5) (.cells #[.int .i64 0, .int .u64 1, .int .u64 4602678819172646912, .int .u64 9223372036854775808, .int .u64 0, .slice bA5 1 bc5, .slice bA6 0 bc6, .slice bA7 2 bc7, .slice bA8 0 bc8] 79)))).mono ?_
  rintro e W6 ⟨rfl, hb⟩
  have hb0 := hb
  have hb := below_then (below_alloc (Below.refl W5.heap.size W5) (.cells #[.int .i64 0, .int .u64 1, .int .u64 4602678819172646912, .int .u64 9223372036854775808, .int .u64 0, .slice bA5 1 bc5, .slice bA6 0 bc6, .slice bA7 2 bc7, .slice bA8 0 bc8] 79)) ((below_alloc (Below.refl W5.heap.size W5) (.cells #[.int .i64 0, .int .u64 1, .int .u64 4602678819172646912, .int .u64 9223372036854775808, .int .u64 0, .slice bA5 1 bc5, .slice bA6 0 bc6, .slice bA7 2 bc7, .slice bA8 0 bc8] 79))).size hb
  replace B := Aside0.mk (below_then B.out B.out.size hb)
  replace O := Aside0.mk (O.out.below hb)
  replace P := Aside0.mk (P.out.below hb)
  replace Q := Aside0.mk (Q.out.below hb)
  replace C := Aside0.mk (C.out.below hb)
  replace D := Aside0.mk (D.out.below hb)
  replace T3 := Aside0.mk (T3.out.below hb)
  replace ht3 := fun i => T3.out.cell i
  have T5 := Aside0.mk (show Blk W6 W5.heap.size #[.int .i64 0, .int .u64 1, .int .u64 4602678819172646912, .int .u64 9223372036854775808, .int .u64 0, .slice bA5 1 bc5, .slice bA6 0 bc6, .slice bA7 2 bc7, .slice bA8 0 bc8] 79 from (Blk.new W5 #[.int .i64 0, .int .u64 1, .int .u64 4602678819172646912, .int .u64 9223372036854775808, .int .u64 0, .slice bA5 1 bc5, .slice bA6 0 bc6, .slice bA7 2 bc7, .slice bA8 0 bc8] 79).below hb0)
  have ht5 := fun i => T5.out.cell i
  have Bd := Aside0.mk (D.out.bad)
  clear hb hb0
  go_wp2_with fail
  refine (fone_x _).mono ?_
  rintro e W7 ⟨eA5, ec5, eA6, ec6, eA7, ec7, eA8, ec8, rfl, hh, hb⟩
  replace B := Aside0.mk (below_then B.out B.out.size hb)
  replace O := Aside0.mk (O.out.below hb)
  replace P := Aside0.mk (P.out.below hb)
  replace Q := Aside0.mk (Q.out.below hb)
  replace C := Aside0.mk (C.out.below hb)
  replace D := Aside0.mk (D.out.below hb)
  replace Bd := Aside0.mk (Bd.out.below hb)
  replace T3 := Aside0.mk (T3.out.below hb)
  replace ht3 := fun i => T3.out.cell i
  replace T5 := Aside0.mk (T5.out.below hb)
  replace ht5 := fun i => T5.out.cell i
  have E := Aside0.mk hh
  clear hb hh
  go_wp2_with fail
  refine (fmake_x _ _ _ E.out P.out).mono ?_
  rintro e W8 ⟨mA5, mc5, mA6, mc6, mA7, mc7, mA8, mc8, rfl, hh, hb⟩
  replace B := Aside0.mk (below_then B.out B.out.size hb)
  replace O := Aside0.mk (O.out.below hb)
  replace P := Aside0.mk (P.out.below hb)
  replace Q := Aside0.mk (Q.out.below hb)
  replace C := Aside0.mk (C.out.below hb)
  replace D := Aside0.mk (D.out.below hb)
  replace Bd := Aside0.mk (Bd.out.below hb)
  replace E := Aside0.mk (E.out.below hb)
  replace T3 := Aside0.mk (T3.out.below hb)
  replace ht3 := fun i => T3.out.cell i
  replace T5 := Aside0.mk (T5.out.below hb)
  replace ht5 := fun i => T5.out.cell i
  have M := Aside0.mk hh
  clear hb hh
  have hw := below_alloc (Below.refl W8.heap.size W8) (.cells #[.int .i64 0, .int .u64 1, .int .u64 4602678819172646912, .int .u64 4613937818241073152, .int .u64 0, .slice mA5 1 mc5, .slice mA6 0 mc6, .slice mA7 2 mc7, .slice mA8 0 mc8] 79)
  replace B := Aside0.mk (below_then B.out B.out.size hw)
  replace C := Aside0.mk (C.out.below hw)
  replace Bd := Aside0.mk (Bd.out.below hw)
  replace M := Aside0.mk (M.out.below hw)
  replace T3 := Aside0.mk (T3.out.below hw)
  replace T5 := Aside0.mk (T5.out.below hw)
  have T6 := Aside0.mk (Blk.new W8 #[.int .i64 0, .int .u64 1, .int .u64 4602678819172646912, .int .u64 4613937818241073152, .int .u64 0, .slice mA5 1 mc5, .slice mA6 0 mc6, .slice mA7 2 mc7, .slice mA8 0 mc8] 79)
  replace ht3 := fun i => T3.out.cell i
  clear hw ht5 hx1' hy0'
  go_upto_region 8 with fail
  go_cut [8, 9] (fun s8 s9 wx => s9 = .int .i64 0 ∧ ∃ g : Nat, s8 = .pointer (some ⟨g, 0, none⟩) ∧ Aside0 ((W8.alloc (.cells #[.int .i64 0, .int .u64 1, .int .u64 4602678819172646912, .int .u64 4613937818241073152, .int .u64 0, .slice mA5 1 mc5, .slice mA6 0 mc6, .slice mA7 2 mc7, .slice mA8 0 mc8] 79)).heap.size ≤ g ∧ Below (W8.alloc (.cells #[.int .i64 0, .int .u64 1, .int .u64 4602678819172646912, .int .u64 4613937818241073152, .int .u64 0, .slice mA5 1 mc5, .slice mA6 0 mc6, .slice mA7 2 mc7, .slice mA8 0 mc8] 79)).heap.size (W8.alloc (.cells #[.int .i64 0, .int .u64 1, .int .u64 4602678819172646912, .int .u64 4613937818241073152, .int .u64 0, .slice mA5 1 mc5, .slice mA6 0 mc6, .slice mA7 2 mc7, .slice mA8 0 mc8] 79)) wx ∧ ∃ rA5 rc5 rA6 rc6 rA7 rc7 rA8 rc8, Blk wx g #[.int .i64 0, .int .u64 1, .int .u64 4602678819172646912, .int .u64 4613937818241073152, .int .u64 0, .slice rA5 1 rc5, .slice rA6 0 rc6, .slice rA7 2 rc7, .slice rA8 0 rc8] 79 ∧ GI wx (.agg #[.int .i64 0, .int .u64 1, .int .u64 4602678819172646912, .int .u64 4613937818241073152, .int .u64 0, .slice rA5 1 rc5, .slice rA6 0 rc6, .slice rA7 2 rc7, .slice rA8 0 rc8]) oneF))
  case first =>
    have ht3a := fun i => (T3.out.alloc (.cells #[.int .i64 0, .int .u64 0, .int .u64 0, .int .u64 0, .int .u64 0, .slice none 0 0, .slice none 0 0, .slice none 0 0, .slice none 0 0] 79)).cell i
    go_region_with (first | (go_at_call 158; (with_reducible refine (fone_x (W8.alloc (.cells #[.int .i64 0, .int .u64 1, .int .u64 4602678819172646912, .int .u64 4613937818241073152, .int .u64 0, .slice mA5 1 mc5, .slice mA6 0 mc6, .slice mA7 2 mc7, .slice mA8 0 mc8] 79)).drew).mono ?_); rintro e W9 ⟨fA5, fc5, fA6, fc6, fA7, fc7, fA8, fc8, rfl, hh, hb⟩; have F := Aside0.mk hh; have B9 := Aside0.mk (below_then (below_drew (Below.refl (W8.alloc (.cells #[.int .i64 0, .int .u64 1, .int .u64 4602678819172646912, .int .u64 4613937818241073152, .int .u64 0, .slice mA5 1 mc5, .slice mA6 0 mc6, .slice mA7 2 mc7, .slice mA8 0 mc8] 79)).heap.size (W8.alloc (.cells #[.int .i64 0, .int .u64 1, .int .u64 4602678819172646912, .int .u64 4613937818241073152, .int .u64 0, .slice mA5 1 mc5, .slice mA6 0 mc6, .slice mA7 2 mc7, .slice mA8 0 mc8] 79)))) (Nat.le_refl _) hb); replace ht3 := fun i => (T3.out.below B9.out).cell i; have ht3b := fun i => ((T3.out.below B9.out).alloc (.cells #[.int .i64 0, .int .u64 0, .int .u64 0, .int .u64 0, .int .u64 0, .slice none 0 0, .slice none 0 0, .slice none 0 0, .slice none 0 0] 79)).cell i; clear hh hb) | (go_at_call 158; (with_reducible refine (fone_x ((W8.alloc (.cells #[.int .i64 0, .int .u64 1, .int .u64 4602678819172646912, .int .u64 4613937818241073152, .int .u64 0, .slice mA5 1 mc5, .slice mA6 0 mc6, .slice mA7 2 mc7, .slice mA8 0 mc8] 79)).alloc (.cells #[.int .i64 0, .int .u64 0, .int .u64 0, .int .u64 0, .int .u64 0, .slice none 0 0, .slice none 0 0, .slice none 0 0, .slice none 0 0] 79)).drew).mono ?_); rintro e W9 ⟨fA5, fc5, fA6, fc6, fA7, fc7, fA8, fc8, rfl, hh, hb⟩; have F := Aside0.mk hh; have B9 := Aside0.mk (below_then (below_drew (below_alloc (Below.refl (W8.alloc (.cells #[.int .i64 0, .int .u64 1, .int .u64 4602678819172646912, .int .u64 4613937818241073152, .int .u64 0, .slice mA5 1 mc5, .slice mA6 0 mc6, .slice mA7 2 mc7, .slice mA8 0 mc8] 79)).heap.size (W8.alloc (.cells #[.int .i64 0, .int .u64 1, .int .u64 4602678819172646912, .int .u64 4613937818241073152, .int .u64 0, .slice mA5 1 mc5, .slice mA6 0 mc6, .slice mA7 2 mc7, .slice mA8 0 mc8] 79))) (.cells #[.int .i64 0, .int .u64 0, .int .u64 0, .int .u64 0, .int .u64 0, .slice none 0 0, .slice none 0 0, .slice none 0 0, .slice none 0 0] 79))) (by simp) hb); have Z9 := Aside0.mk (show Blk W9 (W8.heap.size + 1) #[.int .i64 0, .int .u64 0, .int .u64 0, .int .u64 0, .int .u64 0, .slice none 0 0, .slice none 0 0, .slice none 0 0, .slice none 0 0] 79 from (show Blk ((W8.alloc (.cells #[.int .i64 0, .int .u64 1, .int .u64 4602678819172646912, .int .u64 4613937818241073152, .int .u64 0, .slice mA5 1 mc5, .slice mA6 0 mc6, .slice mA7 2 mc7, .slice mA8 0 mc8] 79)).alloc (.cells #[.int .i64 0, .int .u64 0, .int .u64 0, .int .u64 0, .int .u64 0, .slice none 0 0, .slice none 0 0, .slice none 0 0, .slice none 0 0] 79)) (W8.heap.size + 1) #[.int .i64 0, .int .u64 0, .int .u64 0, .int .u64 0, .int .u64 0, .slice none 0 0, .slice none 0 0, .slice none 0 0, .slice none 0 0] 79 from Blk.at1 (w := W8) (.cells #[.int .i64 0, .int .u64 1, .int .u64 4602678819172646912, .int .u64 4613937818241073152, .int .u64 0, .slice mA5 1 mc5, .slice mA6 0 mc6, .slice mA7 2 mc7, .slice mA8 0 mc8] 79) #[.int .i64 0, .int .u64 0, .int .u64 0, .int .u64 0, .int .u64 0, .slice none 0 0, .slice none 0 0, .slice none 0 0, .slice none 0 0] 79).below (below_then (below_drew (Below.refl _ _)) (Nat.le_refl _) hb)); have HL9 := Aside0.mk (blk_lt Z9.out); replace ht3 := fun i => (T3.out.below B9.out).cell i; clear hh hb) | (go_at_call 106; (with_reducible refine (fover_x W9 _ _ (C.out.below B9.out) F.out.spans).mono ?_); rintro e W10 ⟨rA5, rc5, rA6, rc6, rA7, rc7, rA8, rc8, rfl, hh, hb⟩; have R := Aside0.mk hh; have B10 := Aside0.mk (below_then B9.out B9.out.size hb); (try (replace Z9 := Aside0.mk (Z9.out.below hb); have hz := fun i => Z9.out.cell i; have hzf := fun i => blk_frozen Z9.out i)); replace ht3 := fun i => (T3.out.below B10.out).cell i; clear hh hb) | (go_at_call 106; (with_reducible refine (fover_x (W9.alloc (.cells #[.int .i64 0, .int .u64 0, .int .u64 0, .int .u64 0, .int .u64 0, .slice none 0 0, .slice none 0 0, .slice none 0 0, .slice none 0 0] 79)) _ _ (C.out.below (below_then B9.out B9.out.size (below_alloc (Below.refl _ _) _))) (F.out.below (below_alloc (Below.refl _ _) _)).spans).mono ?_); rintro e W10 ⟨rA5, rc5, rA6, rc6, rA7, rc7, rA8, rc8, rfl, hh, hb⟩; have R := Aside0.mk hh; have B10 := Aside0.mk (below_then (below_then B9.out B9.out.size (below_alloc (Below.refl _ _) _)) (below_then B9.out B9.out.size (below_alloc (Below.refl _ _) _)).size hb); have Z9 := Aside0.mk (show Blk W10 W9.heap.size #[.int .i64 0, .int .u64 0, .int .u64 0, .int .u64 0, .int .u64 0, .slice none 0 0, .slice none 0 0, .slice none 0 0, .slice none 0 0] 79 from (Blk.new W9 #[.int .i64 0, .int .u64 0, .int .u64 0, .int .u64 0, .int .u64 0, .slice none 0 0, .slice none 0 0, .slice none 0 0, .slice none 0 0] 79).below hb); have hz := fun i => Z9.out.cell i; have hzf := fun i => blk_frozen Z9.out i; replace ht3 := fun i => (T3.out.below B10.out).cell i; clear hh hb))
    all_goals go_wp2_with fail
    all_goals go_meet
    all_goals (first | exact ⟨rfl, _, rfl, ⟨B10.out.size, B10.out.alloc B10.out.size _, _, _, _, _, _, _, _, _, Blk.new W10 _ _, R.out.now.below (below_alloc (Below.refl _ _) _)⟩⟩ | exact ⟨rfl, _, rfl, ⟨B9.out.size, nine_below B10.out B9.out.size _ _ _ _ _ _ _ _ _, _, _, _, _, _, _, _, _, nine Z9.out _ _ _ _ _ _ _ _ _, (R.out.step (nine_ka (KA.refl _ _) (by simp) _ _ _ _ _ _ _ _ _)).now⟩⟩ | exact ⟨rfl, _, rfl, ⟨by simp, nine_below B10.out (by simp) _ _ _ _ _ _ _ _ _, _, _, _, _, _, _, _, _, nine Z9.out _ _ _ _ _ _ _ _ _, (R.out.step (nine_ka (KA.refl _ _) HL9.out _ _ _ _ _ _ _ _ _)).now⟩⟩)
  case rest =>
    obtain ⟨rfl, g, rfl, HG⟩ := hcut
    obtain ⟨hg, hbb, rA5, rc5, rA6, rc6, rA7, rc7, rA8, rc8, t8, hr⟩ := HG.out
    replace B := Aside0.mk (below_then B.out B.out.size hbb)
    replace C := Aside0.mk (C.out.below hbb)
    replace Bd := Aside0.mk (Bd.out.below hbb)
    replace M := Aside0.mk (M.out.below hbb)
    have R := Aside0.mk hr
    replace T3 := Aside0.mk (T3.out.below hbb)
    replace T5 := Aside0.mk (T5.out.below hbb)
    replace T6 := Aside0.mk (T6.out.below hbb)
    have T8 := Aside0.mk t8
    replace ht3 := fun i => T3.out.cell i
    have ht5 := fun i => T5.out.cell i
    have ht6 := fun i => T6.out.cell i
    have ht8 := fun i => T8.out.cell i
    clear hg hbb t8 hr HG
    go_wp2_with fail
    refine (whole_three wc).mono ?_
    rintro e U1 ⟨rfl, hb⟩
    replace B := Aside0.mk (below_then B.out B.out.size hb)
    replace C := Aside0.mk (C.out.below hb)
    replace Bd := Aside0.mk (Bd.out.below hb)
    replace M := Aside0.mk (M.out.below hb)
    replace R := Aside0.mk (R.out.below hb)
    replace T3 := Aside0.mk (T3.out.below hb)
    replace ht3 := fun i => T3.out.cell i
    replace T5 := Aside0.mk (T5.out.below hb)
    replace ht5 := fun i => T5.out.cell i
    replace T6 := Aside0.mk (T6.out.below hb)
    replace ht6 := fun i => T6.out.cell i
    replace T8 := Aside0.mk (T8.out.below hb)
    replace ht8 := fun i => T8.out.cell i
    clear hb
    go_wp2_with fail
    refine (whole_half U1).mono ?_
    rintro e U2 ⟨rfl, hb⟩
    replace B := Aside0.mk (below_then B.out B.out.size hb)
    replace C := Aside0.mk (C.out.below hb)
    replace Bd := Aside0.mk (Bd.out.below hb)
    replace M := Aside0.mk (M.out.below hb)
    replace R := Aside0.mk (R.out.below hb)
    replace T3 := Aside0.mk (T3.out.below hb)
    replace ht3 := fun i => T3.out.cell i
    replace T5 := Aside0.mk (T5.out.below hb)
    replace ht5 := fun i => T5.out.cell i
    replace T6 := Aside0.mk (T6.out.below hb)
    replace ht6 := fun i => T6.out.cell i
    replace T8 := Aside0.mk (T8.out.below hb)
    replace ht8 := fun i => T8.out.cell i
    clear hb
    go_wp2_with fail
    refine (fone_x U2).mono ?_
    rintro e U3 ⟨zA5, zc5, zA6, zc6, zA7, zc7, zA8, zc8, rfl, hh, hb⟩
    replace B := Aside0.mk (below_then B.out B.out.size hb)
    replace C := Aside0.mk (C.out.below hb)
    replace Bd := Aside0.mk (Bd.out.below hb)
    replace M := Aside0.mk (M.out.below hb)
    replace R := Aside0.mk (R.out.below hb)
    replace T3 := Aside0.mk (T3.out.below hb)
    replace ht3 := fun i => T3.out.cell i
    replace T5 := Aside0.mk (T5.out.below hb)
    replace ht5 := fun i => T5.out.cell i
    replace T6 := Aside0.mk (T6.out.below hb)
    replace ht6 := fun i => T6.out.cell i
    replace T8 := Aside0.mk (T8.out.below hb)
    replace ht8 := fun i => T8.out.cell i
    have Z := Aside0.mk hh
    clear hb hh
    go_wp2_with fail
    refine (back10 U3 _ Z.out).mono ?_
    rintro e U4 ⟨rfl, hb⟩
    replace B := Aside0.mk (below_then B.out B.out.size hb)
    replace C := Aside0.mk (C.out.below hb)
    replace Bd := Aside0.mk (Bd.out.below hb)
    replace M := Aside0.mk (M.out.below hb)
    replace R := Aside0.mk (R.out.below hb)
    replace Z := Aside0.mk (Z.out.below hb)
    replace T3 := Aside0.mk (T3.out.below hb)
    replace ht3 := fun i => T3.out.cell i
    replace T5 := Aside0.mk (T5.out.below hb)
    replace ht5 := fun i => T5.out.cell i
    replace T6 := Aside0.mk (T6.out.below hb)
    replace ht6 := fun i => T6.out.cell i
    replace T8 := Aside0.mk (T8.out.below hb)
    replace ht8 := fun i => T8.out.cell i
    clear hb
    clear Z
    have hbw := below_alloc (Below.refl U4.heap.size U4) (.cells #[.int .i64 0, .int .u64 0, .int .u64 0, .int .u64 0, .int .u64 0, .slice none 0 0, .slice none 0 0, .slice none 0 0, .slice none 0 0] 64)
    replace B := Aside0.mk (below_then B.out B.out.size hbw)
    replace C := Aside0.mk (C.out.below hbw)
    replace Bd := Aside0.mk (Bd.out.below hbw)
    replace M := Aside0.mk (M.out.below hbw)
    replace R := Aside0.mk (R.out.below hbw)
    replace T3 := Aside0.mk (T3.out.below hbw)
    replace T5 := Aside0.mk (T5.out.below hbw)
    replace T6 := Aside0.mk (T6.out.below hbw)
    replace T8 := Aside0.mk (T8.out.below hbw)
    replace ht3 := fun i => T3.out.cell i
    replace ht5 := fun i => T5.out.cell i
    replace ht6 := fun i => T6.out.cell i
    replace ht8 := fun i => T8.out.cell i
    clear hbw
    go_wp2_with fail
    go_region_held3 (fun W => (∀ i, W.cell? ⟨w4.heap.size, i, none⟩ = (#[.int .i64 0, .int .u64 1, .int .u64 4602678819172646912, .int .u64 4613937818241073152, .int .u64 0, .slice cA5 1 cc5, .slice cA6 0 cc6, .slice cA7 1 cc7, .slice cA8 0 cc8] : Array Value)[i]?) ∧ (∀ i, W.cell? ⟨W5.heap.size, i, none⟩ = (#[.int .i64 0, .int .u64 1, .int .u64 4602678819172646912, .int .u64 9223372036854775808, .int .u64 0, .slice bA5 1 bc5, .slice bA6 0 bc6, .slice bA7 2 bc7, .slice bA8 0 bc8] : Array Value)[i]?) ∧ (∀ i, W.cell? ⟨W8.heap.size, i, none⟩ = (#[.int .i64 0, .int .u64 1, .int .u64 4602678819172646912, .int .u64 4613937818241073152, .int .u64 0, .slice mA5 1 mc5, .slice mA6 0 mc6, .slice mA7 2 mc7, .slice mA8 0 mc8] : Array Value)[i]?) ∧ (∀ i, W.cell? ⟨g, i, none⟩ = (#[.int .i64 0, .int .u64 1, .int .u64 4602678819172646912, .int .u64 4613937818241073152, .int .u64 0, .slice rA5 1 rc5, .slice rA6 0 rc6, .slice rA7 2 rc7, .slice rA8 0 rc8] : Array Value)[i]?)) (exact ⟨fun i => T3.out.cell i, fun i => T5.out.cell i, fun i => T6.out.cell i, fun i => T8.out.cell i⟩) (first | (go_at_call 158; (with_reducible refine (fone_x (U4.alloc (.cells #[.int .i64 0, .int .u64 0, .int .u64 0, .int .u64 0, .int .u64 0, .slice none 0 0, .slice none 0 0, .slice none 0 0, .slice none 0 0] 64)).drew).mono ?_); rintro e V1 ⟨xA5, xc5, xA6, xc6, xA7, xc7, xA8, xc8, rfl, hh, hb⟩; have hb0 := hb; have hb := below_then (below_drew (Below.refl (U4.alloc (.cells #[.int .i64 0, .int .u64 0, .int .u64 0, .int .u64 0, .int .u64 0, .slice none 0 0, .slice none 0 0, .slice none 0 0, .slice none 0 0] 64)).heap.size (U4.alloc (.cells #[.int .i64 0, .int .u64 0, .int .u64 0, .int .u64 0, .int .u64 0, .slice none 0 0, .slice none 0 0, .slice none 0 0, .slice none 0 0] 64)))) ((below_drew (Below.refl (U4.alloc (.cells #[.int .i64 0, .int .u64 0, .int .u64 0, .int .u64 0, .int .u64 0, .slice none 0 0, .slice none 0 0, .slice none 0 0, .slice none 0 0] 64)).heap.size (U4.alloc (.cells #[.int .i64 0, .int .u64 0, .int .u64 0, .int .u64 0, .int .u64 0, .slice none 0 0, .slice none 0 0, .slice none 0 0, .slice none 0 0] 64))))).size hb; replace B := Aside0.mk (below_then B.out B.out.size hb); replace C := Aside0.mk (C.out.below hb); replace Bd := Aside0.mk (Bd.out.below hb); replace M := Aside0.mk (M.out.below hb); replace R := Aside0.mk (R.out.below hb); replace T3 := Aside0.mk (T3.out.below hb); replace ht3 := fun i => T3.out.cell i; replace T5 := Aside0.mk (T5.out.below hb); replace ht5 := fun i => T5.out.cell i; replace T6 := Aside0.mk (T6.out.below hb); replace ht6 := fun i => T6.out.cell i; replace T8 := Aside0.mk (T8.out.below hb); replace ht8 := fun i => T8.out.cell i; have X1 := Aside0.mk hh; clear hb hb0 hh) | (go_at_call 103; (with_reducible refine (fequal_x oneF oneF oneF_wf oneF_wf true aw10_6 V1 _ _ M.out X1.out).mono ?_); rintro e V2 ⟨rfl, hb⟩; replace B := Aside0.mk (below_then B.out B.out.size hb); replace C := Aside0.mk (C.out.below hb); replace Bd := Aside0.mk (Bd.out.below hb); replace M := Aside0.mk (M.out.below hb); replace R := Aside0.mk (R.out.below hb); replace X1 := Aside0.mk (X1.out.below hb); replace T3 := Aside0.mk (T3.out.below hb); replace ht3 := fun i => T3.out.cell i; replace T5 := Aside0.mk (T5.out.below hb); replace ht5 := fun i => T5.out.cell i; replace T6 := Aside0.mk (T6.out.below hb); replace ht6 := fun i => T6.out.cell i; replace T8 := Aside0.mk (T8.out.below hb); replace ht8 := fun i => T8.out.cell i; clear hb) | (go_at_call 103; (with_reducible refine (fequal_x oneF canF oneF_wf canF_wf true aw10_7 V2 _ _ R.out C.out).mono ?_); rintro e V3 ⟨rfl, hb⟩; replace B := Aside0.mk (below_then B.out B.out.size hb); replace C := Aside0.mk (C.out.below hb); replace Bd := Aside0.mk (Bd.out.below hb); replace M := Aside0.mk (M.out.below hb); replace R := Aside0.mk (R.out.below hb); replace T3 := Aside0.mk (T3.out.below hb); replace ht3 := fun i => T3.out.cell i; replace T5 := Aside0.mk (T5.out.below hb); replace ht5 := fun i => T5.out.cell i; replace T6 := Aside0.mk (T6.out.below hb); replace ht6 := fun i => T6.out.cell i; replace T8 := Aside0.mk (T8.out.below hb); replace ht8 := fun i => T8.out.cell i; clear hb) | (go_at_call 158; (with_reducible refine (fone_x V3).mono ?_); rintro e V4 ⟨yA5, yc5, yA6, yc6, yA7, yc7, yA8, yc8, rfl, hh, hb⟩; replace B := Aside0.mk (below_then B.out B.out.size hb); replace C := Aside0.mk (C.out.below hb); replace Bd := Aside0.mk (Bd.out.below hb); replace M := Aside0.mk (M.out.below hb); replace R := Aside0.mk (R.out.below hb); replace T3 := Aside0.mk (T3.out.below hb); replace ht3 := fun i => T3.out.cell i; replace T5 := Aside0.mk (T5.out.below hb); replace ht5 := fun i => T5.out.cell i; replace T6 := Aside0.mk (T6.out.below hb); replace ht6 := fun i => T6.out.cell i; replace T8 := Aside0.mk (T8.out.below hb); replace ht8 := fun i => T8.out.cell i; have X4 := Aside0.mk hh; clear hb hh) | (go_at_call 103; (with_reducible refine (fequal_x oneF badF oneF_wf badF_wf false aw10_8 V4 _ _ X4.out Bd.out).mono ?_); rintro e V5 ⟨rfl, hb⟩; replace B := Aside0.mk (below_then B.out B.out.size hb); replace C := Aside0.mk (C.out.below hb); replace Bd := Aside0.mk (Bd.out.below hb); replace M := Aside0.mk (M.out.below hb); replace R := Aside0.mk (R.out.below hb); replace X4 := Aside0.mk (X4.out.below hb); replace T3 := Aside0.mk (T3.out.below hb); replace ht3 := fun i => T3.out.cell i; replace T5 := Aside0.mk (T5.out.below hb); replace ht5 := fun i => T5.out.cell i; replace T6 := Aside0.mk (T6.out.below hb); replace ht6 := fun i => T6.out.cell i; replace T8 := Aside0.mk (T8.out.below hb); replace ht8 := fun i => T8.out.cell i; clear hb) | (go_at_call 113; (with_reducible refine (float_three V5).mono ?_); rintro e V6 ⟨rfl, hb⟩; replace B := Aside0.mk (below_then B.out B.out.size hb); replace C := Aside0.mk (C.out.below hb); replace Bd := Aside0.mk (Bd.out.below hb); replace M := Aside0.mk (M.out.below hb); replace R := Aside0.mk (R.out.below hb); replace T3 := Aside0.mk (T3.out.below hb); replace ht3 := fun i => T3.out.cell i; replace T5 := Aside0.mk (T5.out.below hb); replace ht5 := fun i => T5.out.cell i; replace T6 := Aside0.mk (T6.out.below hb); replace ht6 := fun i => T6.out.cell i; replace T8 := Aside0.mk (T8.out.below hb); replace ht8 := fun i => T8.out.cell i; clear hb) | (go_at_call 98; (with_reducible refine (right10 V6).mono ?_); rintro e V7 ⟨rfl, hb⟩; replace B := Aside0.mk (below_then B.out B.out.size hb); replace C := Aside0.mk (C.out.below hb); replace Bd := Aside0.mk (Bd.out.below hb); replace M := Aside0.mk (M.out.below hb); replace R := Aside0.mk (R.out.below hb); replace T3 := Aside0.mk (T3.out.below hb); replace ht3 := fun i => T3.out.cell i; replace T5 := Aside0.mk (T5.out.below hb); replace ht5 := fun i => T5.out.cell i; replace T6 := Aside0.mk (T6.out.below hb); replace ht6 := fun i => T6.out.cell i; replace T8 := Aside0.mk (T8.out.below hb); replace ht8 := fun i => T8.out.cell i; clear hb))
    all_goals go_wp2
    all_goals go_ret
    all_goals exact ⟨rfl, B.out⟩
end Go.Proofs.Ytacgeafjilipdaa.P
namespace Go.Proofs.Ytacgeafjilipdaa.P
open Go.RowKit Go.Shelf Go.Proofs.YtacgeafjilipdaaW.PrintWords Go.Proofs.YtacgeafjilipdaaW.PrintLast Go.Proofs.YtacgeafjilipdaaW.PrintMore
set_option linter.unusedVariables false
set_option linter.unusedSimpArgs false
def GR (w : World) (v : Value) (h : Fh) : Prop :=
  ∃ v5 v6 v7 v8, v = .agg #[.int .i64 h.f0, .int .u64 h.f1, .int .u64 h.f2, .int .u64 h.f3, .int .u64 h.f4, v5, v6, v7, v8] ∧ SI kRsp w v5 (h.f5.map toR) ∧ SI kRsp w v6 (h.f6.map toR) ∧ SI (Kd.int .u64) w v7 h.f7 ∧ SI (Kd.int .u64) w v8 h.f8
theorem GR.below {w w' : World} {v : Value} {h : Fh} (x : GR w v h) (hb : Below w.heap.size w w') : GR w' v h := by
  obtain ⟨v5, v6, v7, v8, e, h5, h6, h7, h8⟩ := x
  exact ⟨v5, v6, v7, v8, e, h5.below hb, h6.below hb, h7.below hb, h8.below hb⟩
theorem GR.open_ {w : World} {v : Value} {h : Fh} (x : GR w v h) : ∃ A5 c5 A6 c6 A7 c7 A8 c8, v = .agg #[.int .i64 h.f0, .int .u64 h.f1, .int .u64 h.f2, .int .u64 h.f3, .int .u64 h.f4, .slice A5 h.f5.length c5, .slice A6 h.f6.length c6, .slice A7 h.f7.length c7, .slice A8 h.f8.length c8] ∧
    SI kRsp w (.slice A5 h.f5.length c5) (h.f5.map toR) ∧ SI kRsp w (.slice A6 h.f6.length c6) (h.f6.map toR) ∧ SI (Kd.int .u64) w (.slice A7 h.f7.length c7) h.f7 ∧ SI (Kd.int .u64) w (.slice A8 h.f8.length c8) h.f8 := by
  obtain ⟨v5, v6, v7, v8, rfl, h5, h6, h7, h8⟩ := x
  obtain ⟨A5, c5, rfl, h51, h52⟩ := h5
  obtain ⟨A6, c6, rfl, h61, h62⟩ := h6
  obtain ⟨A7, c7, rfl, h71, h72⟩ := h7
  obtain ⟨A8, c8, rfl, h81, h82⟩ := h8
  rw [List.length_map]
  rw [List.length_map]
  refine ⟨A5, c5, A6, c6, A7, c7, A8, c8, rfl, ⟨A5, c5, by rw [List.length_map], h51, h52⟩, ⟨A6, c6, by rw [List.length_map], h61, h62⟩, .of h72 h71, .of h82 h81⟩
theorem SI.Vu {w : World} {e : Nat} {A : Option Addr} {c : Nat} {l : List Int} (hc : l.length ≤ c) (hr : (Kd.int .u64).C w A l.length l) : Kd.V (Kd.int .u64) e w w.heap.size (fun k_ => (fun k => k < w.heap.size) k_) (.slice A l.length c) l := ⟨_, _, rfl, hc, Kd.C_F (Kd.heap_int .u64) hr⟩
theorem SI.of_Vu {e : Nat} {w : World} {base : Nat} {ok : Nat → Prop} {v : Value} {l : List Int} (h : Kd.V (Kd.int .u64) e w base ok v l) : SI (Kd.int .u64) w v l := by
  obtain ⟨A, c, rfl, hc, hf⟩ := h
  exact .of (hf w (fun _ _ _ => rfl)) hc
end Go.Proofs.Ytacgeafjilipdaa.P
