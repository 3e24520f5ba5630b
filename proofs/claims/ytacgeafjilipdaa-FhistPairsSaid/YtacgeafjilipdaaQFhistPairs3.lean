/- FhistPairs: the part that this text bears of the proof that the statement answers true for every input. No condition. -/
import Derived.Test.YtacgeafjilipdaaProg
import Derived.Below
import Derived.Deep.Draws
import Derived.Deep.AppendLies
import Derived.Maps.AppendAt
import Derived.OwnWalk
import Derived.Laws.BytesArg
import Derived.Laws.MakeOwn
import Derived.Laws.OwnMore
import Derived.Deep.OwnRows
import Derived.Tactics
import Derived.Lib.ConvBytes
import Derived.Laws.Slices
import Derived.WalkKit
import Derived.KernelRfl
import Derived.RowKit3
import Derived.Deep.LoopGhost
import Derived.Deep.QuietTactic
import Derived.BigQuiet
import Derived.WideLaws
import Derived.Deep.DeepCutAuto
import Derived.Deep.CutBlock
import Derived.Deep.RegionHeld3
import Derived.Laws.Rows
import Derived.Lib.AppendStr
import Derived.ArgAppend
import Derived.Laws.IdiomCopy
import Derived.OrdersHeld
import Derived.Laws.BitsLemmas
import Derived.RowKit
import Derived.Deep.Slices
import Derived.ChangeArms
import Derived.Shelf.Abstract
import Derived.WalkSpells
import Derived.RangeFuncNested
import Derived.RangeFuncBound
import Derived.RangeFuncCalls
import Derived.RangeFuncLeaves
import Derived.RangeFuncBox
import Derived.OwnWalkIn
import Derived.TacticsInMore
import Derived.LoopNIn
import Derived.LoopIn
import Derived.RegionIn
import Derived.Sort.QuietTacIn
import Derived.Deep.RegionWith
import Derived.ChangeKeysEq
import Derived.Great.Frames
import Derived.Laws.Externs
import Derived.ProofKit
import Derived.JoinedOf
import Derived.OpenShut
import Derived.ShutString
import Derived.ChangeOld
import Derived.SizedLaws
import Derived.Test.YtacgeafjilipdaaQFhistPairsWWords
import Derived.Test.YtacgeafjilipdaaQFhistPairsWLast
import Derived.Test.YtacgeafjilipdaaQFhistPairsWTab
import Derived.Test.YtacgeafjilipdaaQFhistPairsWFour
import Derived.Test.YtacgeafjilipdaaQFhistPairsWQPut
import Derived.Test.YtacgeafjilipdaaQFhistPairsWApart
import Derived.Test.YtacgeafjilipdaaQFhistPairsWArr
import Derived.Test.YtacgeafjilipdaaQFhistPairsWZeros
import Derived.Test.YtacgeafjilipdaaQFhistPairsWFoot
import Derived.Test.YtacgeafjilipdaaQFhistPairsWKept
import Derived.Test.YtacgeafjilipdaaQFhistPairsWShare
import Derived.Test.YtacgeafjilipdaaQFhistPairsWN
import Derived.Test.YtacgeafjilipdaaQFhistPairsWFootNe
import Derived.Test.YtacgeafjilipdaaQFhistPairsWAt
import Derived.Test.YtacgeafjilipdaaQFhistPairsWEqStruct
import Derived.Test.YtacgeafjilipdaaQFhistPairsWRepsOne
import Derived.Test.YtacgeafjilipdaaQFhistPairsWInv
import Derived.Test.YtacgeafjilipdaaQFhistPairsWInvWords
import Derived.Test.YtacgeafjilipdaaQFhistPairsWGuard
import Derived.Test.YtacgeafjilipdaaQFhistPairsWNEv
import Derived.Test.YtacgeafjilipdaaQFhistPairsWMore
import Derived.Test.YtacgeafjilipdaaRows
import Derived.Test.YtacgeafjilipdaaQFhistPairs0
import Derived.Test.YtacgeafjilipdaaQFhistPairs1
import Derived.Test.YtacgeafjilipdaaQFhistPairs2
namespace Go.Proofs.Ytacgeafjilipdaa.P
open Go.RowKit Go.Shelf Go.Proofs.YtacgeafjilipdaaW.PrintWords Go.Proofs.YtacgeafjilipdaaW.PrintLast Go.Proofs.YtacgeafjilipdaaW.PrintMore
set_option linter.unusedVariables false
set_option linter.unusedSimpArgs false
theorem Two.cells {W0 W : World} {g : Nat} {p v : Int} {a b : Value} {la lb : List Int} {k1 k2 : Option Nat} (h : Two W0 W g p v a b la lb k1 k2) : W.cell? ⟨g, 0, none⟩ = some (.int .i64 p) ∧ W.cell? ⟨g, 1, none⟩ = some (.int .u64 v) := ⟨(h.bl.cell 0).trans rfl, (h.bl.cell 1).trans rfl⟩
theorem SI.nil_ {α : Type} {d : Kd α} {w : World} {v : Value} (h : SI d w v []) : ∃ A c, v = .slice A 0 c := by obtain ⟨A, c, e, _⟩ := h; exact ⟨A, c, e⟩
set_option maxHeartbeats 64000000 in
set_option maxRecDepth 100000 in
theorem fhistPairs_s0 (a : Fh) (hW : wfF a) (n5 : a.f5.length ≤ 400) (n6 : a.f6.length ≤ 400) (n7 : a.f7.length ≤ 300) (n8 : a.f8.length ≤ 300) (hr : checkF a = 0) (cs : ∀ (w : World) (v : Value), GI w v a → Calls Try.prog 94 #[v] w fun e w' => e = .returned (.bool true) ∧ Below w.heap.size w w') (w : World) (u : Value) (hua : GI w u a) : Calls Try.prog 22 #[u, .int .i64 0] w fun e w' => e = .returned (.bool true) ∧ Below w.heap.size w w' := by
  have hud := Try.underlying79
  have hup := Try.underlying123
  obtain ⟨z1, z2, z3⟩ := checkF_zero hr
  have bb := sideF_bounds z2
  have ho := openF_right hr
  have cp := fpairs_c a hW 0
  rw [show pairsF a 0 = ((openF a).1, checkF a) from rfl, hr, ho] at cp
  have cr := ref10_c a (by omega) (by omega)
  have cq := refCheckF_c a hW
  rw [hr] at cq
  dsimp only at cp
  generalize (sideF a.f5 a.f7).1 = l at *
  have pl_ := places10_c a.f5 hW.2.2.2.2.2.1 (by omega) bb.2.2.2.1
  rw [← bb.2.2.1] at pl_
  have sm_ := same10_c a.f7 (by omega)
  rw [← bb.2.2.2.2.1] at sm_
  have lb : l.length ≤ 300 := by rw [bb.2.1]; omega
  have e7 := bb.2.2.2.2.1
  have CS := Aside0.mk cs
  have CP := Aside0.mk cp
  have CR := Aside0.mk cr
  have CQ := Aside0.mk cq
  have PL_ := Aside0.mk pl_
  have SM_ := Aside0.mk sm_
  have LB := Aside0.mk lb
  have E7 := Aside0.mk e7
  clear cs cp cr cq pl_ sm_ bb ho z1 z2 z3 hr hW n5 n6 n7 n8 lb e7
  obtain ⟨A5a, c5a, A6a, c6a, A7a, c7a, A8a, c8a, e, k5a, k6a, k7a, k8a⟩ := hua.open_
  subst e
  have B := Aside0.mk (below_alloc (Below.refl w.heap.size w) (.cells #[.int .i64 a.f0, .int .u64 a.f1, .int .u64 a.f2, .int .u64 a.f3, .int .u64 a.f4, .slice A5a a.f5.length c5a, .slice A6a a.f6.length c6a, .slice A7a a.f7.length c7a, .slice A8a a.f8.length c8a] 79))
  have X := Aside0.mk (Blk.new w #[.int .i64 a.f0, .int .u64 a.f1, .int .u64 a.f2, .int .u64 a.f3, .int .u64 a.f4, .slice A5a a.f5.length c5a, .slice A6a a.f6.length c6a, .slice A7a a.f7.length c7a, .slice A8a a.f8.length c8a] 79)
  have hx := fun i => X.out.cell i
  have HA := Aside0.mk (hua.below B.out)
  have K5a := Aside0.mk (k5a.below B.out)
  have K6a := Aside0.mk (k6a.below B.out)
  have K7a := Aside0.mk (k7a.below B.out)
  have K8a := Aside0.mk (k8a.below B.out)
  clear hua k5a k6a k7a k8a
  go_enter Try.func22, Try.ntmps22
  go_wp2_with (first | (go_at_call 94; (with_reducible refine (CS.out _ _ HA.out).mono ?_); rintro e W1 ⟨rfl, hb⟩; replace B := Aside0.mk (below_then B.out B.out.size hb); replace HA := Aside0.mk (HA.out.below hb); replace K5a := Aside0.mk (K5a.out.below hb); replace K6a := Aside0.mk (K6a.out.below hb); replace K7a := Aside0.mk (K7a.out.below hb); replace K8a := Aside0.mk (K8a.out.below hb); replace X := Aside0.mk (X.out.below hb); replace hx := fun i => X.out.cell i; clear  hb) | (go_at_call 100; (with_reducible refine (CP.out _ _ HA.out).mono ?_); rintro e W2 ⟨pv, rfl, hl, hb⟩; replace B := Aside0.mk (below_then B.out B.out.size hb); replace HA := Aside0.mk (HA.out.below hb); replace K5a := Aside0.mk (K5a.out.below hb); replace K6a := Aside0.mk (K6a.out.below hb); replace K7a := Aside0.mk (K7a.out.below hb); replace K8a := Aside0.mk (K8a.out.below hb); replace X := Aside0.mk (X.out.below hb); replace hx := fun i => X.out.cell i; have L := Aside0.mk hl; have hl' := L.out; obtain ⟨LA, Lc, eL, hLc, hLr⟩ := hl'; subst eL; clear hLc hLr; clear hl hb) | (go_at_call 97; (with_reducible refine (CR.out _ _ HA.out).mono ?_); rintro e W3 ⟨rv, rfl, hr, hb⟩; replace B := Aside0.mk (below_then B.out B.out.size hb); replace HA := Aside0.mk (HA.out.below hb); replace K5a := Aside0.mk (K5a.out.below hb); replace K6a := Aside0.mk (K6a.out.below hb); replace K7a := Aside0.mk (K7a.out.below hb); replace K8a := Aside0.mk (K8a.out.below hb); replace L := Aside0.mk (L.out.below hb); replace X := Aside0.mk (X.out.below hb); replace hx := fun i => X.out.cell i; have RV := Aside0.mk hr; clear hr hb) | (go_at_call 63; (with_reducible refine (CQ.out _ _ RV.out).mono ?_); rintro e W4 ⟨rfl, hb⟩; replace B := Aside0.mk (below_then B.out B.out.size hb); replace HA := Aside0.mk (HA.out.below hb); replace K5a := Aside0.mk (K5a.out.below hb); replace K6a := Aside0.mk (K6a.out.below hb); replace K7a := Aside0.mk (K7a.out.below hb); replace K8a := Aside0.mk (K8a.out.below hb); replace L := Aside0.mk (L.out.below hb); replace RV := Aside0.mk (RV.out.below hb); replace X := Aside0.mk (X.out.below hb); replace hx := fun i => X.out.cell i; clear  hb))
  go_quiet (fail)
  obtain ⟨W5_, hw_⟩ : ∃ w_, w_ = W4.drewN nq := ⟨_, rfl⟩
  rw [← hw_]
  have hd : Below W4.heap.size W4 W5_ := by rw [hw_]; exact pw_below_drewN (Below.refl _ _) _
  replace HA := Aside0.mk (HA.out.below hd)
  replace L := Aside0.mk (L.out.below hd)
  replace K5a := Aside0.mk (K5a.out.below hd)
  replace K6a := Aside0.mk (K6a.out.below hd)
  replace K7a := Aside0.mk (K7a.out.below hd)
  replace K8a := Aside0.mk (K8a.out.below hd)
  replace X := Aside0.mk (X.out.below hd)
  replace hx := fun i => X.out.cell i
  replace B := Aside0.mk (below_then B.out B.out.size hd)
  clear hd hw_ nq
  skip
  go_wp2
  go_loopg [10, 11, 68] l.length (fun gg v10 v11 v68 wr => ∃ j : Nat, v68 = .int .i64 (j : Int) ∧ Aside0 (j + gg = l.length) ∧ Aside0 (Below W5_.heap.size W5_ wr ∧ Kd.R (Kd.int .i64) 3 wr W5_.heap.size (fun _ => True) v10 ((l.take j).map (·.f0)) ∧ Kd.R (Kd.int .u64) 62 wr W5_.heap.size (fun _ => True) v11 ((l.take j).map (·.f1))))
  case atStart => exact ⟨0, rfl, ⟨by simp⟩, ⟨Below.refl _ _, Kd.R_nil _ _ _ _ _, Kd.R_nil _ _ _ _ _⟩⟩
  case round =>
    obtain ⟨j, rfl, HJ, HS⟩ := hrel
    by_cases hlt : j < l.length
    · obtain ⟨ko, rfl⟩ : ∃ ko, gk = ko + 1 := ⟨gk - 1, by have := HJ.out; omega⟩
      have p1 : (0 : Int) ≤ (j : Int) := by omega
      have p2 : (j : Int) < (l.length : Int) := by omega
      obtain ⟨A', c', e', -, hLr⟩ := L.out.below HS.out.1
      obtain ⟨e1, e2, e3⟩ := Value.slice.inj e'
      subst e1
      obtain ⟨ad, ea, hx0, hx1⟩ := at_T123 hLr (j : Int) p1 p2
      subst ea
      rw [Int.toNat_natCast] at hx0 hx1
      have hrd : rd_T123 l (j : Int) = l[j] := rdPu_at hlt
      rw [hrd] at hx0 hx1
      have htk : l.take (j + 1) = l.take j ++ [l[j]] := List.take_succ_eq_append_getElem hlt
      have HTK := Aside0.mk htk
      generalize l[j] = x at *
      have p3 : decide ((j : Int) < (l.length : Int)) = true := decide_eq_true p2
      have p4 : wrap64 ((j : Int) + 1) = ((j + 1 : Nat) : Int) := by have := LB.out; rw [wrap_succ (by omega)]
      have BND := Aside0.mk (show j ≤ 300 by have := LB.out; omega)
      clear e' e2 e3 hLr htk hrd
      go_wp2
      have hbl := Blk.new wr #[.int .i64 x.f0, .int .u64 x.f1] 123
      have hal := below_alloc (Below.refl wr.heap.size wr) (.cells #[.int .i64 x.f0, .int .u64 x.f1] 123)
      generalize wr.alloc (.cells #[.int .i64 x.f0, .int .u64 x.f1] 123) = wb at *
      have HI : Aside0 (Two W5_ wb wr.heap.size x.f0 x.f1 u10 u11 ((l.take j).map (·.f0)) ((l.take j).map (·.f1)) none none) := ⟨⟨below_then HS.out.1 HS.out.1.size hal, Kd.R_mono (Kd.R_below HS.out.2.1 hal) (fun _ _ => by simp), Kd.R_mono (Kd.R_below HS.out.2.2 hal) (fun _ _ => by simp), hbl, fun k e => (by cases e), fun k e => (by cases e)⟩⟩
      clear hbl hal HS
      go_region_held3 (fun W => W.cell? ⟨wr.heap.size, 0, none⟩ = some (.int .i64 x.f0) ∧ W.cell? ⟨wr.heap.size, 1, none⟩ = some (.int .u64 x.f1)) (first | (with_reducible exact Two.cells HI.out) | (with_reducible exact Two.cells HI.out.drew) | (with_reducible exact Two.cells (HI.out.lit1 rfl)) | (with_reducible exact Two.cells (HI.out.lit1 rfl).drew) | (with_reducible exact Two.cells (HI.out.lit2 rfl)) | (with_reducible exact Two.cells (HI.out.lit2 rfl).drew) | (with_reducible exact Two.cells ((HI.out.lit1 rfl).lit2 rfl)) | (with_reducible exact Two.cells ((HI.out.lit1 rfl).lit2 rfl).drew) | (with_reducible exact Two.cells ((HI.out.lit2 rfl).lit1 rfl)) | (with_reducible exact Two.cells ((HI.out.lit2 rfl).lit1 rfl).drew)) (first | (refine Two.app1 (a := u10) (by rfl) (.tmp 72) (.tmp 75) HI.out (by rfl) (by rfl) (by rfl) (by have := BND.out; simp only [List.length_map, List.length_take]; omega) ?_; intro a1 W1 hI; replace HI := Aside0.mk hI; clear hI) | (refine Two.app1 (a := u10) (by rfl) (.tmp 72) (.tmp 75) (HI.out.lit1 rfl) (by rfl) (by rfl) (by rfl) (by have := BND.out; simp only [List.length_map, List.length_take]; omega) ?_; intro a1 W1 hI; replace HI := Aside0.mk hI; clear hI) | (refine Two.app1 (a := u10) (by rfl) (.tmp 72) (.tmp 75) (HI.out.lit1 rfl).drew (by rfl) (by rfl) (by rfl) (by have := BND.out; simp only [List.length_map, List.length_take]; omega) ?_; intro a1 W1 hI; replace HI := Aside0.mk hI; clear hI) | (refine Two.app1 (a := u10) (by rfl) (.tmp 72) (.tmp 75) ((HI.out.lit1 rfl).lit2 (k := wb.heap.size + 1) (by simp)) (by rfl) (by rfl) (by rfl) (by have := BND.out; simp only [List.length_map, List.length_take]; omega) ?_; intro a1 W1 hI; replace HI := Aside0.mk hI; clear hI) | (refine Two.app1 (a := u10) (by rfl) (.tmp 72) (.tmp 75) ((HI.out.lit1 rfl).lit2 (k := wb.heap.size + 1) (by simp)).drew (by rfl) (by rfl) (by rfl) (by have := BND.out; simp only [List.length_map, List.length_take]; omega) ?_; intro a1 W1 hI; replace HI := Aside0.mk hI; clear hI) | (refine Two.app1 (a := u10) (by rfl) (.tmp 72) (.tmp 75) ((HI.out.lit2 rfl).lit1 (k := wb.heap.size + 1) (by simp)) (by rfl) (by rfl) (by rfl) (by have := BND.out; simp only [List.length_map, List.length_take]; omega) ?_; intro a1 W1 hI; replace HI := Aside0.mk hI; clear hI) | (refine Two.app1 (a := u10) (by rfl) (.tmp 72) (.tmp 75) ((HI.out.lit2 rfl).lit1 (k := wb.heap.size + 1) (by simp)).drew (by rfl) (by rfl) (by rfl) (by have := BND.out; simp only [List.length_map, List.length_take]; omega) ?_; intro a1 W1 hI; replace HI := Aside0.mk hI; clear hI) | (refine Two.app2 (b := u11) (by rfl) (.tmp 77) (.tmp 80) HI.out (by rfl) (by rfl) (by rfl) (by have := BND.out; simp only [List.length_map, List.length_take]; omega) ?_; intro a1 W1 hI; replace HI := Aside0.mk hI; clear hI) | (refine Two.app2 (b := u11) (by rfl) (.tmp 77) (.tmp 80) (HI.out.lit2 rfl) (by rfl) (by rfl) (by rfl) (by have := BND.out; simp only [List.length_map, List.length_take]; omega) ?_; intro a1 W1 hI; replace HI := Aside0.mk hI; clear hI) | (refine Two.app2 (b := u11) (by rfl) (.tmp 77) (.tmp 80) (HI.out.lit2 rfl).drew (by rfl) (by rfl) (by rfl) (by have := BND.out; simp only [List.length_map, List.length_take]; omega) ?_; intro a1 W1 hI; replace HI := Aside0.mk hI; clear hI) | (refine Two.app2 (b := u11) (by rfl) (.tmp 77) (.tmp 80) ((HI.out.lit2 rfl).lit1 (k := wb.heap.size + 1) (by simp)) (by rfl) (by rfl) (by rfl) (by have := BND.out; simp only [List.length_map, List.length_take]; omega) ?_; intro a1 W1 hI; replace HI := Aside0.mk hI; clear hI) | (refine Two.app2 (b := u11) (by rfl) (.tmp 77) (.tmp 80) ((HI.out.lit2 rfl).lit1 (k := wb.heap.size + 1) (by simp)).drew (by rfl) (by rfl) (by rfl) (by have := BND.out; simp only [List.length_map, List.length_take]; omega) ?_; intro a1 W1 hI; replace HI := Aside0.mk hI; clear hI) | (refine Two.app2 (b := u11) (by rfl) (.tmp 77) (.tmp 80) ((HI.out.lit1 rfl).lit2 (k := wb.heap.size + 1) (by simp)) (by rfl) (by rfl) (by rfl) (by have := BND.out; simp only [List.length_map, List.length_take]; omega) ?_; intro a1 W1 hI; replace HI := Aside0.mk hI; clear hI) | (refine Two.app2 (b := u11) (by rfl) (.tmp 77) (.tmp 80) ((HI.out.lit1 rfl).lit2 (k := wb.heap.size + 1) (by simp)).drew (by rfl) (by rfl) (by rfl) (by have := BND.out; simp only [List.length_map, List.length_take]; omega) ?_; intro a1 W1 hI; replace HI := Aside0.mk hI; clear hI))
      all_goals go_wp2
      all_goals go_roundg ko
      all_goals first | (case measure => (have := HJ.out; omega)) | skip
      all_goals exact ⟨j + 1, by go_num, ⟨by have := HJ.out; omega⟩, ⟨HI.out.hb, by rw [HTK.out, List.map_append]; exact Kd.R_mono HI.out.ra (fun _ _ => trivial), by rw [HTK.out, List.map_append]; exact Kd.R_mono HI.out.rb (fun _ _ => trivial)⟩⟩
    · obtain rfl : j = l.length := by have := HJ.out; omega
      have hb := HS.out.1
      have ra_ := SI.of_R HS.out.2.1
      have rb_ := SI.of_R HS.out.2.2
      rw [List.take_length] at ra_ rb_
      have RA_ := Aside0.mk ra_
      have RB_ := Aside0.mk rb_
      clear ra_ rb_
      replace HA := Aside0.mk (HA.out.below hb)
      replace K5a := Aside0.mk (K5a.out.below hb)
      replace K6a := Aside0.mk (K6a.out.below hb)
      replace K7a := Aside0.mk (K7a.out.below hb)
      replace K8a := Aside0.mk (K8a.out.below hb)
      replace X := Aside0.mk (X.out.below hb)
      replace B := Aside0.mk (below_then B.out B.out.size hb)
      clear hb HS
      go_wp2_with (first | (go_at_call 101; (with_reducible refine (PL_.out _ _ _ K5a.out RA_.out).mono ?_); rintro e W5 ⟨rfl, hb⟩; replace B := Aside0.mk (below_then B.out B.out.size hb); replace HA := Aside0.mk (HA.out.below hb); replace K5a := Aside0.mk (K5a.out.below hb); replace K6a := Aside0.mk (K6a.out.below hb); replace K7a := Aside0.mk (K7a.out.below hb); replace K8a := Aside0.mk (K8a.out.below hb); replace X := Aside0.mk (X.out.below hb); replace hx := fun i => X.out.cell i; (try (replace RB_ := Aside0.mk (RB_.out.below hb))); clear  hb) | (go_at_call 102; (with_reducible refine (SM_.out _ _ _ RB_.out (by rw [E7.out]; exact K7a.out)).mono ?_); rintro e W6 ⟨rfl, hb⟩; replace B := Aside0.mk (below_then B.out B.out.size hb); replace HA := Aside0.mk (HA.out.below hb); replace K5a := Aside0.mk (K5a.out.below hb); replace K6a := Aside0.mk (K6a.out.below hb); replace K7a := Aside0.mk (K7a.out.below hb); replace K8a := Aside0.mk (K8a.out.below hb); replace X := Aside0.mk (X.out.below hb); replace hx := fun i => X.out.cell i; (try (replace RA_ := Aside0.mk (RA_.out.below hb))); clear  hb) | (go_at_call 95; (with_reducible refine (awake10_c _).mono ?_); rintro e W7 ⟨rfl, hb⟩; replace B := Aside0.mk (below_then B.out B.out.size hb); replace HA := Aside0.mk (HA.out.below hb); replace K5a := Aside0.mk (K5a.out.below hb); replace K6a := Aside0.mk (K6a.out.below hb); replace K7a := Aside0.mk (K7a.out.below hb); replace K8a := Aside0.mk (K8a.out.below hb); replace X := Aside0.mk (X.out.below hb); replace hx := fun i => X.out.cell i; clear  hb))
      all_goals go_ret
      all_goals exact ⟨rfl, B.out⟩
set_option maxHeartbeats 64000000 in
set_option maxRecDepth 100000 in
theorem fhistPairs_s1 (a : Fh) (hW : wfF a) (n5 : a.f5.length ≤ 400) (n6 : a.f6.length ≤ 400) (n7 : a.f7.length ≤ 300) (n8 : a.f8.length ≤ 300) (hr : checkF a = 0) (cs : ∀ (w : World) (v : Value), GI w v a → Calls Try.prog 94 #[v] w fun e w' => e = .returned (.bool true) ∧ Below w.heap.size w w') (w : World) (u : Value) (hua : GI w u a) : Calls Try.prog 22 #[u, .int .i64 1] w fun e w' => e = .returned (.bool true) ∧ Below w.heap.size w w' := by
  have hud := Try.underlying79
  have hup := Try.underlying123
  obtain ⟨z1, z2, z3⟩ := checkF_zero hr
  have bb := sideF_bounds z3
  have ho := openF_right hr
  have cp := fpairs_c a hW 1
  rw [show pairsF a 1 = ((openF a).2.1, checkF a) from rfl, hr, ho] at cp
  have cr := ref10_c a (by omega) (by omega)
  have cq := refCheckF_c a hW
  rw [hr] at cq
  dsimp only at cp
  generalize (sideF a.f6 a.f8).1 = l at *
  have pl_ := places10_c a.f6 hW.2.2.2.2.2.2.1 (by omega) bb.2.2.2.1
  rw [← bb.2.2.1] at pl_
  have sm_ := same10_c a.f8 (by omega)
  rw [← bb.2.2.2.2.1] at sm_
  have lb : l.length ≤ 300 := by rw [bb.2.1]; omega
  have e7 := bb.2.2.2.2.1
  have CS := Aside0.mk cs
  have CP := Aside0.mk cp
  have CR := Aside0.mk cr
  have CQ := Aside0.mk cq
  have PL_ := Aside0.mk pl_
  have SM_ := Aside0.mk sm_
  have LB := Aside0.mk lb
  have E7 := Aside0.mk e7
  clear cs cp cr cq pl_ sm_ bb ho z1 z2 z3 hr hW n5 n6 n7 n8 lb e7
  obtain ⟨A5a, c5a, A6a, c6a, A7a, c7a, A8a, c8a, e, k5a, k6a, k7a, k8a⟩ := hua.open_
  subst e
  have B := Aside0.mk (below_alloc (Below.refl w.heap.size w) (.cells #[.int .i64 a.f0, .int .u64 a.f1, .int .u64 a.f2, .int .u64 a.f3, .int .u64 a.f4, .slice A5a a.f5.length c5a, .slice A6a a.f6.length c6a, .slice A7a a.f7.length c7a, .slice A8a a.f8.length c8a] 79))
  have X := Aside0.mk (Blk.new w #[.int .i64 a.f0, .int .u64 a.f1, .int .u64 a.f2, .int .u64 a.f3, .int .u64 a.f4, .slice A5a a.f5.length c5a, .slice A6a a.f6.length c6a, .slice A7a a.f7.length c7a, .slice A8a a.f8.length c8a] 79)
  have hx := fun i => X.out.cell i
  have HA := Aside0.mk (hua.below B.out)
  have K5a := Aside0.mk (k5a.below B.out)
  have K6a := Aside0.mk (k6a.below B.out)
  have K7a := Aside0.mk (k7a.below B.out)
  have K8a := Aside0.mk (k8a.below B.out)
  clear hua k5a k6a k7a k8a
  go_enter Try.func22, Try.ntmps22
  go_wp2_with (first | (go_at_call 94; (with_reducible refine (CS.out _ _ HA.out).mono ?_); rintro e W1 ⟨rfl, hb⟩; replace B := Aside0.mk (below_then B.out B.out.size hb); replace HA := Aside0.mk (HA.out.below hb); replace K5a := Aside0.mk (K5a.out.below hb); replace K6a := Aside0.mk (K6a.out.below hb); replace K7a := Aside0.mk (K7a.out.below hb); replace K8a := Aside0.mk (K8a.out.below hb); replace X := Aside0.mk (X.out.below hb); replace hx := fun i => X.out.cell i; clear  hb) | (go_at_call 100; (with_reducible refine (CP.out _ _ HA.out).mono ?_); rintro e W2 ⟨pv, rfl, hl, hb⟩; replace B := Aside0.mk (below_then B.out B.out.size hb); replace HA := Aside0.mk (HA.out.below hb); replace K5a := Aside0.mk (K5a.out.below hb); replace K6a := Aside0.mk (K6a.out.below hb); replace K7a := Aside0.mk (K7a.out.below hb); replace K8a := Aside0.mk (K8a.out.below hb); replace X := Aside0.mk (X.out.below hb); replace hx := fun i => X.out.cell i; have L := Aside0.mk hl; have hl' := L.out; obtain ⟨LA, Lc, eL, hLc, hLr⟩ := hl'; subst eL; clear hLc hLr; clear hl hb) | (go_at_call 97; (with_reducible refine (CR.out _ _ HA.out).mono ?_); rintro e W3 ⟨rv, rfl, hr, hb⟩; replace B := Aside0.mk (below_then B.out B.out.size hb); replace HA := Aside0.mk (HA.out.below hb); replace K5a := Aside0.mk (K5a.out.below hb); replace K6a := Aside0.mk (K6a.out.below hb); replace K7a := Aside0.mk (K7a.out.below hb); replace K8a := Aside0.mk (K8a.out.below hb); replace L := Aside0.mk (L.out.below hb); replace X := Aside0.mk (X.out.below hb); replace hx := fun i => X.out.cell i; have RV := Aside0.mk hr; clear hr hb) | (go_at_call 63; (with_reducible refine (CQ.out _ _ RV.out).mono ?_); rintro e W4 ⟨rfl, hb⟩; replace B := Aside0.mk (below_then B.out B.out.size hb); replace HA := Aside0.mk (HA.out.below hb); replace K5a := Aside0.mk (K5a.out.below hb); replace K6a := Aside0.mk (K6a.out.below hb); replace K7a := Aside0.mk (K7a.out.below hb); replace K8a := Aside0.mk (K8a.out.below hb); replace L := Aside0.mk (L.out.below hb); replace RV := Aside0.mk (RV.out.below hb); replace X := Aside0.mk (X.out.below hb); replace hx := fun i => X.out.cell i; clear  hb))
  go_quiet (fail)
  obtain ⟨W5_, hw_⟩ : ∃ w_, w_ = W4.drewN nq := ⟨_, rfl⟩
  rw [← hw_]
  have hd : Below W4.heap.size W4 W5_ := by rw [hw_]; exact pw_below_drewN (Below.refl _ _) _
  replace HA := Aside0.mk (HA.out.below hd)
  replace L := Aside0.mk (L.out.below hd)
  replace K5a := Aside0.mk (K5a.out.below hd)
  replace K6a := Aside0.mk (K6a.out.below hd)
  replace K7a := Aside0.mk (K7a.out.below hd)
  replace K8a := Aside0.mk (K8a.out.below hd)
  replace X := Aside0.mk (X.out.below hd)
  replace hx := fun i => X.out.cell i
  replace B := Aside0.mk (below_then B.out B.out.size hd)
  clear hd hw_ nq
  go_wp2
  go_quiet (fail)
  obtain ⟨W6_, hw_⟩ : ∃ w_, w_ = W5_.drewN nq := ⟨_, rfl⟩
  rw [← hw_]
  have hd : Below W5_.heap.size W5_ W6_ := by rw [hw_]; exact pw_below_drewN (Below.refl _ _) _
  replace HA := Aside0.mk (HA.out.below hd)
  replace L := Aside0.mk (L.out.below hd)
  replace K5a := Aside0.mk (K5a.out.below hd)
  replace K6a := Aside0.mk (K6a.out.below hd)
  replace K7a := Aside0.mk (K7a.out.below hd)
  replace K8a := Aside0.mk (K8a.out.below hd)
  replace X := Aside0.mk (X.out.below hd)
  replace hx := fun i => X.out.cell i
  replace B := Aside0.mk (below_then B.out B.out.size hd)
  clear hd hw_ nq
  go_wp2
  go_loopg [10, 11, 68] l.length (fun gg v10 v11 v68 wr => ∃ j : Nat, v68 = .int .i64 (j : Int) ∧ Aside0 (j + gg = l.length) ∧ Aside0 (Below W6_.heap.size W6_ wr ∧ Kd.R (Kd.int .i64) 3 wr W6_.heap.size (fun _ => True) v10 ((l.take j).map (·.f0)) ∧ Kd.R (Kd.int .u64) 62 wr W6_.heap.size (fun _ => True) v11 ((l.take j).map (·.f1))))
  case atStart => exact ⟨0, rfl, ⟨by simp⟩, ⟨Below.refl _ _, Kd.R_nil _ _ _ _ _, Kd.R_nil _ _ _ _ _⟩⟩
  case round =>
    obtain ⟨j, rfl, HJ, HS⟩ := hrel
    by_cases hlt : j < l.length
    · obtain ⟨ko, rfl⟩ : ∃ ko, gk = ko + 1 := ⟨gk - 1, by have := HJ.out; omega⟩
      have p1 : (0 : Int) ≤ (j : Int) := by omega
      have p2 : (j : Int) < (l.length : Int) := by omega
      obtain ⟨A', c', e', -, hLr⟩ := L.out.below HS.out.1
      obtain ⟨e1, e2, e3⟩ := Value.slice.inj e'
      subst e1
      obtain ⟨ad, ea, hx0, hx1⟩ := at_T123 hLr (j : Int) p1 p2
      subst ea
      rw [Int.toNat_natCast] at hx0 hx1
      have hrd : rd_T123 l (j : Int) = l[j] := rdPu_at hlt
      rw [hrd] at hx0 hx1
      have htk : l.take (j + 1) = l.take j ++ [l[j]] := List.take_succ_eq_append_getElem hlt
      have HTK := Aside0.mk htk
      generalize l[j] = x at *
      have p3 : decide ((j : Int) < (l.length : Int)) = true := decide_eq_true p2
      have p4 : wrap64 ((j : Int) + 1) = ((j + 1 : Nat) : Int) := by have := LB.out; rw [wrap_succ (by omega)]
      have BND := Aside0.mk (show j ≤ 300 by have := LB.out; omega)
      clear e' e2 e3 hLr htk hrd
      go_wp2
      have hbl := Blk.new wr #[.int .i64 x.f0, .int .u64 x.f1] 123
      have hal := below_alloc (Below.refl wr.heap.size wr) (.cells #[.int .i64 x.f0, .int .u64 x.f1] 123)
      generalize wr.alloc (.cells #[.int .i64 x.f0, .int .u64 x.f1] 123) = wb at *
      have HI : Aside0 (Two W6_ wb wr.heap.size x.f0 x.f1 u10 u11 ((l.take j).map (·.f0)) ((l.take j).map (·.f1)) none none) := ⟨⟨below_then HS.out.1 HS.out.1.size hal, Kd.R_mono (Kd.R_below HS.out.2.1 hal) (fun _ _ => by simp), Kd.R_mono (Kd.R_below HS.out.2.2 hal) (fun _ _ => by simp), hbl, fun k e => (by cases e), fun k e => (by cases e)⟩⟩
      clear hbl hal HS
      go_region_held3 (fun W => W.cell? ⟨wr.heap.size, 0, none⟩ = some (.int .i64 x.f0) ∧ W.cell? ⟨wr.heap.size, 1, none⟩ = some (.int .u64 x.f1)) (first | (with_reducible exact Two.cells HI.out) | (with_reducible exact Two.cells HI.out.drew) | (with_reducible exact Two.cells (HI.out.lit1 rfl)) | (with_reducible exact Two.cells (HI.out.lit1 rfl).drew) | (with_reducible exact Two.cells (HI.out.lit2 rfl)) | (with_reducible exact Two.cells (HI.out.lit2 rfl).drew) | (with_reducible exact Two.cells ((HI.out.lit1 rfl).lit2 rfl)) | (with_reducible exact Two.cells ((HI.out.lit1 rfl).lit2 rfl).drew) | (with_reducible exact Two.cells ((HI.out.lit2 rfl).lit1 rfl)) | (with_reducible exact Two.cells ((HI.out.lit2 rfl).lit1 rfl).drew)) (first | (refine Two.app1 (a := u10) (by rfl) (.tmp 72) (.tmp 75) HI.out (by rfl) (by rfl) (by rfl) (by have := BND.out; simp only [List.length_map, List.length_take]; omega) ?_; intro a1 W1 hI; replace HI := Aside0.mk hI; clear hI) | (refine Two.app1 (a := u10) (by rfl) (.tmp 72) (.tmp 75) (HI.out.lit1 rfl) (by rfl) (by rfl) (by rfl) (by have := BND.out; simp only [List.length_map, List.length_take]; omega) ?_; intro a1 W1 hI; replace HI := Aside0.mk hI; clear hI) | (refine Two.app1 (a := u10) (by rfl) (.tmp 72) (.tmp 75) (HI.out.lit1 rfl).drew (by rfl) (by rfl) (by rfl) (by have := BND.out; simp only [List.length_map, List.length_take]; omega) ?_; intro a1 W1 hI; replace HI := Aside0.mk hI; clear hI) | (refine Two.app1 (a := u10) (by rfl) (.tmp 72) (.tmp 75) ((HI.out.lit1 rfl).lit2 (k := wb.heap.size + 1) (by simp)) (by rfl) (by rfl) (by rfl) (by have := BND.out; simp only [List.length_map, List.length_take]; omega) ?_; intro a1 W1 hI; replace HI := Aside0.mk hI; clear hI) | (refine Two.app1 (a := u10) (by rfl) (.tmp 72) (.tmp 75) ((HI.out.lit1 rfl).lit2 (k := wb.heap.size + 1) (by simp)).drew (by rfl) (by rfl) (by rfl) (by have := BND.out; simp only [List.length_map, List.length_take]; omega) ?_; intro a1 W1 hI; replace HI := Aside0.mk hI; clear hI) | (refine Two.app1 (a := u10) (by rfl) (.tmp 72) (.tmp 75) ((HI.out.lit2 rfl).lit1 (k := wb.heap.size + 1) (by simp)) (by rfl) (by rfl) (by rfl) (by have := BND.out; simp only [List.length_map, List.length_take]; omega) ?_; intro a1 W1 hI; replace HI := Aside0.mk hI; clear hI) | (refine Two.app1 (a := u10) (by rfl) (.tmp 72) (.tmp 75) ((HI.out.lit2 rfl).lit1 (k := wb.heap.size + 1) (by simp)).drew (by rfl) (by rfl) (by rfl) (by have := BND.out; simp only [List.length_map, List.length_take]; omega) ?_; intro a1 W1 hI; replace HI := Aside0.mk hI; clear hI) | (refine Two.app2 (b := u11) (by rfl) (.tmp 77) (.tmp 80) HI.out (by rfl) (by rfl) (by rfl) (by have := BND.out; simp only [List.length_map, List.length_take]; omega) ?_; intro a1 W1 hI; replace HI := Aside0.mk hI; clear hI) | (refine Two.app2 (b := u11) (by rfl) (.tmp 77) (.tmp 80) (HI.out.lit2 rfl) (by rfl) (by rfl) (by rfl) (by have := BND.out; simp only [List.length_map, List.length_take]; omega) ?_; intro a1 W1 hI; replace HI := Aside0.mk hI; clear hI) | (refine Two.app2 (b := u11) (by rfl) (.tmp 77) (.tmp 80) (HI.out.lit2 rfl).drew (by rfl) (by rfl) (by rfl) (by have := BND.out; simp only [List.length_map, List.length_take]; omega) ?_; intro a1 W1 hI; replace HI := Aside0.mk hI; clear hI) | (refine Two.app2 (b := u11) (by rfl) (.tmp 77) (.tmp 80) ((HI.out.lit2 rfl).lit1 (k := wb.heap.size + 1) (by simp)) (by rfl) (by rfl) (by rfl) (by have := BND.out; simp only [List.length_map, List.length_take]; omega) ?_; intro a1 W1 hI; replace HI := Aside0.mk hI; clear hI) | (refine Two.app2 (b := u11) (by rfl) (.tmp 77) (.tmp 80) ((HI.out.lit2 rfl).lit1 (k := wb.heap.size + 1) (by simp)).drew (by rfl) (by rfl) (by rfl) (by have := BND.out; simp only [List.length_map, List.length_take]; omega) ?_; intro a1 W1 hI; replace HI := Aside0.mk hI; clear hI) | (refine Two.app2 (b := u11) (by rfl) (.tmp 77) (.tmp 80) ((HI.out.lit1 rfl).lit2 (k := wb.heap.size + 1) (by simp)) (by rfl) (by rfl) (by rfl) (by have := BND.out; simp only [List.length_map, List.length_take]; omega) ?_; intro a1 W1 hI; replace HI := Aside0.mk hI; clear hI) | (refine Two.app2 (b := u11) (by rfl) (.tmp 77) (.tmp 80) ((HI.out.lit1 rfl).lit2 (k := wb.heap.size + 1) (by simp)).drew (by rfl) (by rfl) (by rfl) (by have := BND.out; simp only [List.length_map, List.length_take]; omega) ?_; intro a1 W1 hI; replace HI := Aside0.mk hI; clear hI))
      all_goals go_wp2
      all_goals go_roundg ko
      all_goals first | (case measure => (have := HJ.out; omega)) | skip
      all_goals exact ⟨j + 1, by go_num, ⟨by have := HJ.out; omega⟩, ⟨HI.out.hb, by rw [HTK.out, List.map_append]; exact Kd.R_mono HI.out.ra (fun _ _ => trivial), by rw [HTK.out, List.map_append]; exact Kd.R_mono HI.out.rb (fun _ _ => trivial)⟩⟩
    · obtain rfl : j = l.length := by have := HJ.out; omega
      have hb := HS.out.1
      have ra_ := SI.of_R HS.out.2.1
      have rb_ := SI.of_R HS.out.2.2
      rw [List.take_length] at ra_ rb_
      have RA_ := Aside0.mk ra_
      have RB_ := Aside0.mk rb_
      clear ra_ rb_
      replace HA := Aside0.mk (HA.out.below hb)
      replace K5a := Aside0.mk (K5a.out.below hb)
      replace K6a := Aside0.mk (K6a.out.below hb)
      replace K7a := Aside0.mk (K7a.out.below hb)
      replace K8a := Aside0.mk (K8a.out.below hb)
      replace X := Aside0.mk (X.out.below hb)
      replace B := Aside0.mk (below_then B.out B.out.size hb)
      clear hb HS
      go_wp2_with (first | (go_at_call 101; (with_reducible refine (PL_.out _ _ _ K6a.out RA_.out).mono ?_); rintro e W5 ⟨rfl, hb⟩; replace B := Aside0.mk (below_then B.out B.out.size hb); replace HA := Aside0.mk (HA.out.below hb); replace K5a := Aside0.mk (K5a.out.below hb); replace K6a := Aside0.mk (K6a.out.below hb); replace K7a := Aside0.mk (K7a.out.below hb); replace K8a := Aside0.mk (K8a.out.below hb); replace X := Aside0.mk (X.out.below hb); replace hx := fun i => X.out.cell i; (try (replace RB_ := Aside0.mk (RB_.out.below hb))); clear  hb) | (go_at_call 102; (with_reducible refine (SM_.out _ _ _ RB_.out (by rw [E7.out]; exact K8a.out)).mono ?_); rintro e W6 ⟨rfl, hb⟩; replace B := Aside0.mk (below_then B.out B.out.size hb); replace HA := Aside0.mk (HA.out.below hb); replace K5a := Aside0.mk (K5a.out.below hb); replace K6a := Aside0.mk (K6a.out.below hb); replace K7a := Aside0.mk (K7a.out.below hb); replace K8a := Aside0.mk (K8a.out.below hb); replace X := Aside0.mk (X.out.below hb); replace hx := fun i => X.out.cell i; (try (replace RA_ := Aside0.mk (RA_.out.below hb))); clear  hb) | (go_at_call 95; (with_reducible refine (awake10_c _).mono ?_); rintro e W7 ⟨rfl, hb⟩; replace B := Aside0.mk (below_then B.out B.out.size hb); replace HA := Aside0.mk (HA.out.below hb); replace K5a := Aside0.mk (K5a.out.below hb); replace K6a := Aside0.mk (K6a.out.below hb); replace K7a := Aside0.mk (K7a.out.below hb); replace K8a := Aside0.mk (K8a.out.below hb); replace X := Aside0.mk (X.out.below hb); replace hx := fun i => X.out.cell i; clear  hb))
      all_goals go_ret
      all_goals exact ⟨rfl, B.out⟩
set_option maxHeartbeats 32000000 in
set_option maxRecDepth 100000 in
theorem fhistPairs_no (a : Fh) (side : Int) (hside : side = 0 ∨ side = 1) (hW : wfF a) (n5 : a.f5.length ≤ 400) (n6 : a.f6.length ≤ 400) (hr : checkF a ≠ 0) (cs : ∀ (w : World) (v : Value), GI w v a → Calls Try.prog 94 #[v] w fun e w' => e = .returned (.bool true) ∧ Below w.heap.size w w') (w : World) (u : Value) (hua : GI w u a) : Calls Try.prog 22 #[u, .int .i64 side] w fun e w' => e = .returned (.bool true) ∧ Below w.heap.size w w' := by
  have hud := Try.underlying79
  have cp := fpairs_c a hW side
  have e1 : pairsF a side = ([], checkF a) := by
    obtain ⟨x1, x2⟩ := openF_wrong hr
    unfold pairsF checkF
    rcases hside with h | h
    · rw [if_pos h, x1]
    · rw [if_neg (by omega), if_pos h, x2]
  rw [e1] at cp
  have cr := ref10_c a (by omega) (by omega)
  have cq := refCheckF_c a hW
  have hsd : ((side != 0) && (side != 1)) = false := by rcases hside with h | h <;> subst h <;> rfl
  generalize checkF a = r at *
  have d : (r != 0) = true := bne_iff_ne.2 hr
  have CS := Aside0.mk cs
  have CP := Aside0.mk cp
  have CR := Aside0.mk cr
  have CQ := Aside0.mk cq
  clear cs cp cr cq hr hW n5 n6 e1
  rcases hside with h | h
  all_goals subst h
  all_goals clear hsd
  ·
    obtain ⟨A5a, c5a, A6a, c6a, A7a, c7a, A8a, c8a, e, k5a, k6a, k7a, k8a⟩ := hua.open_
    subst e
    have B := Aside0.mk (below_alloc (Below.refl w.heap.size w) (.cells #[.int .i64 a.f0, .int .u64 a.f1, .int .u64 a.f2, .int .u64 a.f3, .int .u64 a.f4, .slice A5a a.f5.length c5a, .slice A6a a.f6.length c6a, .slice A7a a.f7.length c7a, .slice A8a a.f8.length c8a] 79))
    have X := Aside0.mk (Blk.new w #[.int .i64 a.f0, .int .u64 a.f1, .int .u64 a.f2, .int .u64 a.f3, .int .u64 a.f4, .slice A5a a.f5.length c5a, .slice A6a a.f6.length c6a, .slice A7a a.f7.length c7a, .slice A8a a.f8.length c8a] 79)
    have hx := fun i => X.out.cell i
    have HA := Aside0.mk (hua.below B.out)
    have K5a := Aside0.mk (k5a.below B.out)
    have K6a := Aside0.mk (k6a.below B.out)
    have K7a := Aside0.mk (k7a.below B.out)
    have K8a := Aside0.mk (k8a.below B.out)
    clear hua k5a k6a k7a k8a
    go_enter Try.func22, Try.ntmps22
    go_wp2_with (first | (go_at_call 94; (with_reducible refine (CS.out _ _ HA.out).mono ?_); rintro e W1 ⟨rfl, hb⟩; replace B := Aside0.mk (below_then B.out B.out.size hb); replace HA := Aside0.mk (HA.out.below hb); replace X := Aside0.mk (X.out.below hb); replace hx := fun i => X.out.cell i; clear  hb) | (go_at_call 100; (with_reducible refine (CP.out _ _ HA.out).mono ?_); rintro e W2 ⟨pv, rfl, hl, hb⟩; replace B := Aside0.mk (below_then B.out B.out.size hb); replace HA := Aside0.mk (HA.out.below hb); replace X := Aside0.mk (X.out.below hb); replace hx := fun i => X.out.cell i; have L := Aside0.mk hl; have hl' := L.out; obtain ⟨LA, Lc, eL⟩ := hl'.nil_; subst eL; clear hl hb) | (go_at_call 97; (with_reducible refine (CR.out _ _ HA.out).mono ?_); rintro e W3 ⟨rv, rfl, hr, hb⟩; replace B := Aside0.mk (below_then B.out B.out.size hb); replace HA := Aside0.mk (HA.out.below hb); replace L := Aside0.mk (L.out.below hb); replace X := Aside0.mk (X.out.below hb); replace hx := fun i => X.out.cell i; have RV := Aside0.mk hr; clear hr hb) | (go_at_call 63; (with_reducible refine (CQ.out _ _ RV.out).mono ?_); rintro e W4 ⟨rfl, hb⟩; replace B := Aside0.mk (below_then B.out B.out.size hb); replace HA := Aside0.mk (HA.out.below hb); replace L := Aside0.mk (L.out.below hb); replace RV := Aside0.mk (RV.out.below hb); replace X := Aside0.mk (X.out.below hb); replace hx := fun i => X.out.cell i; clear  hb) | (go_at_call 95; (with_reducible refine (awake10_c _).mono ?_); rintro e W5 ⟨rfl, hb⟩; replace B := Aside0.mk (below_then B.out B.out.size hb); replace HA := Aside0.mk (HA.out.below hb); replace L := Aside0.mk (L.out.below hb); replace RV := Aside0.mk (RV.out.below hb); replace X := Aside0.mk (X.out.below hb); replace hx := fun i => X.out.cell i; clear  hb))
    go_ret
    exact ⟨rfl, B.out⟩
  ·
    obtain ⟨A5a, c5a, A6a, c6a, A7a, c7a, A8a, c8a, e, k5a, k6a, k7a, k8a⟩ := hua.open_
    subst e
    have B := Aside0.mk (below_alloc (Below.refl w.heap.size w) (.cells #[.int .i64 a.f0, .int .u64 a.f1, .int .u64 a.f2, .int .u64 a.f3, .int .u64 a.f4, .slice A5a a.f5.length c5a, .slice A6a a.f6.length c6a, .slice A7a a.f7.length c7a, .slice A8a a.f8.length c8a] 79))
    have X := Aside0.mk (Blk.new w #[.int .i64 a.f0, .int .u64 a.f1, .int .u64 a.f2, .int .u64 a.f3, .int .u64 a.f4, .slice A5a a.f5.length c5a, .slice A6a a.f6.length c6a, .slice A7a a.f7.length c7a, .slice A8a a.f8.length c8a] 79)
    have hx := fun i => X.out.cell i
    have HA := Aside0.mk (hua.below B.out)
    have K5a := Aside0.mk (k5a.below B.out)
    have K6a := Aside0.mk (k6a.below B.out)
    have K7a := Aside0.mk (k7a.below B.out)
    have K8a := Aside0.mk (k8a.below B.out)
    clear hua k5a k6a k7a k8a
    go_enter Try.func22, Try.ntmps22
    go_wp2_with (first | (go_at_call 94; (with_reducible refine (CS.out _ _ HA.out).mono ?_); rintro e W1 ⟨rfl, hb⟩; replace B := Aside0.mk (below_then B.out B.out.size hb); replace HA := Aside0.mk (HA.out.below hb); replace X := Aside0.mk (X.out.below hb); replace hx := fun i => X.out.cell i; clear  hb) | (go_at_call 100; (with_reducible refine (CP.out _ _ HA.out).mono ?_); rintro e W2 ⟨pv, rfl, hl, hb⟩; replace B := Aside0.mk (below_then B.out B.out.size hb); replace HA := Aside0.mk (HA.out.below hb); replace X := Aside0.mk (X.out.below hb); replace hx := fun i => X.out.cell i; have L := Aside0.mk hl; have hl' := L.out; obtain ⟨LA, Lc, eL⟩ := hl'.nil_; subst eL; clear hl hb) | (go_at_call 97; (with_reducible refine (CR.out _ _ HA.out).mono ?_); rintro e W3 ⟨rv, rfl, hr, hb⟩; replace B := Aside0.mk (below_then B.out B.out.size hb); replace HA := Aside0.mk (HA.out.below hb); replace L := Aside0.mk (L.out.below hb); replace X := Aside0.mk (X.out.below hb); replace hx := fun i => X.out.cell i; have RV := Aside0.mk hr; clear hr hb) | (go_at_call 63; (with_reducible refine (CQ.out _ _ RV.out).mono ?_); rintro e W4 ⟨rfl, hb⟩; replace B := Aside0.mk (below_then B.out B.out.size hb); replace HA := Aside0.mk (HA.out.below hb); replace L := Aside0.mk (L.out.below hb); replace RV := Aside0.mk (RV.out.below hb); replace X := Aside0.mk (X.out.below hb); replace hx := fun i => X.out.cell i; clear  hb) | (go_at_call 95; (with_reducible refine (awake10_c _).mono ?_); rintro e W5 ⟨rfl, hb⟩; replace B := Aside0.mk (below_then B.out B.out.size hb); replace HA := Aside0.mk (HA.out.below hb); replace L := Aside0.mk (L.out.below hb); replace RV := Aside0.mk (RV.out.below hb); replace X := Aside0.mk (X.out.below hb); replace hx := fun i => X.out.cell i; clear  hb))
    go_ret
    exact ⟨rfl, B.out⟩
set_option maxHeartbeats 32000000 in
set_option maxRecDepth 100000 in
theorem fhistPairs_c (a : Fh) (side : Int) (hw : wfG a) (hs : i64 side) (w : World) (u x1 : Value) (hx1 : x1 = .int .i64 side) (hua : GI w u a) : Calls Try.prog 22 #[u, x1] w fun e w' => e = .returned (.bool true) ∧ Below w.heap.size w w' := by
  subst hx1
  obtain ⟨b, hb, cs⟩ := small10_c a hw.2.2.2.2.2.1 hw.2.2.2.2.2.2.1
  cases b with
  | false =>
    have hud := Try.underlying79
    have CS := Aside0.mk cs
    clear cs hb
    obtain ⟨A5a, c5a, A6a, c6a, A7a, c7a, A8a, c8a, e, k5a, k6a, k7a, k8a⟩ := hua.open_
    subst e
    have B := Aside0.mk (below_alloc (Below.refl w.heap.size w) (.cells #[.int .i64 a.f0, .int .u64 a.f1, .int .u64 a.f2, .int .u64 a.f3, .int .u64 a.f4, .slice A5a a.f5.length c5a, .slice A6a a.f6.length c6a, .slice A7a a.f7.length c7a, .slice A8a a.f8.length c8a] 79))
    have X := Aside0.mk (Blk.new w #[.int .i64 a.f0, .int .u64 a.f1, .int .u64 a.f2, .int .u64 a.f3, .int .u64 a.f4, .slice A5a a.f5.length c5a, .slice A6a a.f6.length c6a, .slice A7a a.f7.length c7a, .slice A8a a.f8.length c8a] 79)
    have hx := fun i => X.out.cell i
    have HA := Aside0.mk (hua.below B.out)
    have K5a := Aside0.mk (k5a.below B.out)
    have K6a := Aside0.mk (k6a.below B.out)
    have K7a := Aside0.mk (k7a.below B.out)
    have K8a := Aside0.mk (k8a.below B.out)
    clear hua k5a k6a k7a k8a
    go_enter Try.func22, Try.ntmps22
    go_wp2_with (first | (go_at_call 94; (with_reducible refine (CS.out _ _ HA.out).mono ?_); rintro e W1 ⟨rfl, hb⟩; replace B := Aside0.mk (below_then B.out B.out.size hb); replace HA := Aside0.mk (HA.out.below hb); replace X := Aside0.mk (X.out.below hb); replace hx := fun i => X.out.cell i; clear  hb) | (go_at_call 95; (with_reducible refine (awake10_c _).mono ?_); rintro e W2 ⟨rfl, hb⟩; replace B := Aside0.mk (below_then B.out B.out.size hb); replace HA := Aside0.mk (HA.out.below hb); replace X := Aside0.mk (X.out.below hb); replace hx := fun i => X.out.cell i; clear  hb))
    go_ret
    exact ⟨rfl, B.out⟩
  | true =>
    obtain ⟨n5, n6, n7, n8⟩ := hb rfl
    have hW := wfF_of hw n7 n8
    by_cases hsd : side = 0 ∨ side = 1
    · by_cases hr : checkF a = 0
      · rcases hsd with h | h
        · subst h; exact fhistPairs_s0 a hW n5 n6 n7 n8 hr cs w u hua
        · subst h; exact fhistPairs_s1 a hW n5 n6 n7 n8 hr cs w u hua
      · exact fhistPairs_no a side hsd hW n5 n6 hr cs w u hua
    · have hud := Try.underlying79
      have cp := fpairs_c a hW side
      rw [show pairsF a side = ([], 11) by unfold pairsF; rw [if_neg (by omega), if_neg (by omega)]] at cp
      have d0 : (side != 0) = true := bne_iff_ne.2 (by omega)
      have d1 : (side != 1) = true := bne_iff_ne.2 (by omega)
      have CS := Aside0.mk cs
      have CP := Aside0.mk cp
      clear cs cp hb hW n5 n6 n7 n8 hsd hw hs
      obtain ⟨A5a, c5a, A6a, c6a, A7a, c7a, A8a, c8a, e, k5a, k6a, k7a, k8a⟩ := hua.open_
      subst e
      have B := Aside0.mk (below_alloc (Below.refl w.heap.size w) (.cells #[.int .i64 a.f0, .int .u64 a.f1, .int .u64 a.f2, .int .u64 a.f3, .int .u64 a.f4, .slice A5a a.f5.length c5a, .slice A6a a.f6.length c6a, .slice A7a a.f7.length c7a, .slice A8a a.f8.length c8a] 79))
      have X := Aside0.mk (Blk.new w #[.int .i64 a.f0, .int .u64 a.f1, .int .u64 a.f2, .int .u64 a.f3, .int .u64 a.f4, .slice A5a a.f5.length c5a, .slice A6a a.f6.length c6a, .slice A7a a.f7.length c7a, .slice A8a a.f8.length c8a] 79)
      have hx := fun i => X.out.cell i
      have HA := Aside0.mk (hua.below B.out)
      have K5a := Aside0.mk (k5a.below B.out)
      have K6a := Aside0.mk (k6a.below B.out)
      have K7a := Aside0.mk (k7a.below B.out)
      have K8a := Aside0.mk (k8a.below B.out)
      clear hua k5a k6a k7a k8a
      go_enter Try.func22, Try.ntmps22
      go_wp2_with (first | (go_at_call 94; (with_reducible refine (CS.out _ _ HA.out).mono ?_); rintro e W1 ⟨rfl, hb⟩; replace B := Aside0.mk (below_then B.out B.out.size hb); replace HA := Aside0.mk (HA.out.below hb); replace X := Aside0.mk (X.out.below hb); replace hx := fun i => X.out.cell i; clear  hb) | (go_at_call 100; (with_reducible refine (CP.out _ _ HA.out).mono ?_); rintro e W2 ⟨pv, rfl, hl, hb⟩; replace B := Aside0.mk (below_then B.out B.out.size hb); replace HA := Aside0.mk (HA.out.below hb); replace X := Aside0.mk (X.out.below hb); replace hx := fun i => X.out.cell i; have L := Aside0.mk hl; have hl' := L.out; obtain ⟨LA, Lc, eL⟩ := hl'.nil_; subst eL; clear hl hb) | (go_at_call 95; (with_reducible refine (awake10_c _).mono ?_); rintro e W3 ⟨rfl, hb⟩; replace B := Aside0.mk (below_then B.out B.out.size hb); replace HA := Aside0.mk (HA.out.below hb); replace L := Aside0.mk (L.out.below hb); replace X := Aside0.mk (X.out.below hb); replace hx := fun i => X.out.cell i; clear  hb))
      go_ret
      exact ⟨rfl, B.out⟩
def tidepolelaw10_FhistPairs.f (s0 z0 zc0 ct0 sm0 : Int) (l0_5 l0_6 : List Sp) (l0_7 l0_8 : List Int) (a1 : Int) : Option Bool := if wfG ⟨s0, z0, zc0, ct0, sm0, l0_5, l0_6, l0_7, l0_8⟩ ∧ i64 a1 then some true else none
theorem tidepolelaw10_FhistPairs.calls (s0 : Int) (z0 : Int) (zc0 : Int) (ct0 : Int) (sm0 : Int) (A0_5 : Option Addr) (c0_5 : Nat) (l0_5 : List Sp) (A0_6 : Option Addr) (c0_6 : Nat) (l0_6 : List Sp) (A0_7 : Option Addr) (c0_7 : Nat) (l0_7 : List Int) (A0_8 : Option Addr) (c0_8 : Nat) (l0_8 : List Int) (a1 : Int) (r : Bool) (w : World) (hr0_5 : Kd.C kSp w A0_5 l0_5.length l0_5) (hc0_5 : l0_5.length ≤ c0_5) (hr0_6 : Kd.C kSp w A0_6 l0_6.length l0_6) (hc0_6 : l0_6.length ≤ c0_6) (hr0_7 : Kd.C (Kd.int .u64) w A0_7 l0_7.length l0_7) (hc0_7 : l0_7.length ≤ c0_7) (hr0_8 : Kd.C (Kd.int .u64) w A0_8 l0_8.length l0_8) (hc0_8 : l0_8.length ≤ c0_8) (h : tidepolelaw10_FhistPairs.f s0 z0 zc0 ct0 sm0 l0_5 l0_6 l0_7 l0_8 a1 = some r) :
    Calls Try.prog 22 #[.agg #[.int .i64 s0, .int .u64 z0, .int .u64 zc0, .int .u64 ct0, .int .u64 sm0, .slice A0_5 l0_5.length c0_5, .slice A0_6 l0_6.length c0_6, .slice A0_7 l0_7.length c0_7, .slice A0_8 l0_8.length c0_8], .int .i64 a1] w fun e w' => e = .returned (.bool r) ∧ Below w.heap.size w w' := by
  obtain ⟨⟨q0, q1⟩, rfl⟩ := of_ite_some h
  exact fhistPairs_c _ _ q0 q1 w _ _ rfl (GI.mk (h := ⟨s0, z0, zc0, ct0, sm0, l0_5, l0_6, l0_7, l0_8⟩) (.of hr0_5 hc0_5) (.of hr0_6 hc0_6) (.of hr0_7 hc0_7) (.of hr0_8 hc0_8))
end Go.Proofs.Ytacgeafjilipdaa.P
namespace Go.Proofs.Ytacgeafjilipdaa.P
def headSigns : List Char := List.map Char.ofNat [104, 97, 114, 110, 101, 115, 115, 32, 97, 50, 97, 99, 52, 56, 53, 53, 54, 101, 54, 52, 97, 51, 49, 101, 54, 54, 98, 55, 102, 55, 97, 51, 54, 49, 102, 100, 52, 100, 51, 54, 55, 57, 100, 102, 98, 49, 97, 57, 53, 50, 101, 57, 54, 51, 55, 99, 57, 57, 56, 52, 48, 101, 100, 50, 99, 98, 97, 100, 54, 54, 50, 100, 32, 99, 117, 116, 32, 97, 116, 32, 116, 105, 100, 101, 112, 111, 108, 101, 47, 116, 105, 100, 101, 112, 111, 108, 101, 108, 97, 119, 48, 55, 46, 80, 97, 105, 114, 115, 85, 110, 122, 105, 112, 32, 116, 105, 100, 101, 112, 111, 108, 101, 47, 116, 105, 100, 101, 112, 111, 108, 101, 108, 97, 119, 48, 55, 46, 80, 97, 105, 114, 115, 70, 105, 110, 100, 115, 32, 116, 105, 100, 101, 112, 111, 108, 101, 47, 116, 105, 100, 101, 112, 111, 108, 101, 108, 97, 119, 48, 55, 46, 80, 97, 105, 114, 115, 77, 101, 114, 103, 101, 32, 116, 105, 100, 101, 112, 111, 108, 101, 47, 116, 105, 100, 101, 112, 111, 108, 101, 108, 97, 119, 48, 55, 46, 80, 97, 105, 114, 115, 90, 105, 112, 32, 116, 105, 100, 101, 112, 111, 108, 101, 47, 116, 105, 100, 101, 112, 111, 108, 101, 108, 97, 119, 48, 55, 46, 80, 97, 105, 114, 115, 68, 101, 108, 116, 97, 115, 32, 116, 105, 100, 101, 112, 111, 108, 101, 47, 116, 105, 100, 101, 112, 111, 108, 101, 108, 97, 119, 49, 49, 46, 82, 101, 115, 101, 116, 73, 110, 116, 115, 32, 116, 105, 100, 101, 112, 111, 108, 101, 47, 116, 105, 100, 101, 112, 111, 108, 101, 108, 97, 119, 49, 49, 46, 82, 101, 115, 101, 116, 70, 108, 111, 97, 116, 115, 32, 116, 105, 100, 101, 112, 111, 108, 101, 47, 116, 105, 100, 101, 112, 111, 108, 101, 108, 97, 119, 49, 49, 46, 82, 101, 115, 101, 116, 78, 97, 109, 101, 115, 32, 116, 105, 100, 101, 112, 111, 108, 101, 47, 116, 105, 100, 101, 112, 111, 108, 101, 108, 97, 119, 49, 49, 46, 82, 101, 115, 101, 116, 71, 111, 101, 115, 32, 116, 105, 100, 101, 112, 111, 108, 101, 47, 116, 105, 100, 101, 112, 111, 108, 101, 108, 97, 119, 49, 49, 46, 82, 101, 115, 101, 116, 66, 111, 116, 104, 32, 116, 105, 100, 101, 112, 111, 108, 101, 47, 116, 105, 100, 101, 112, 111, 108, 101, 108, 97, 119, 48, 57, 46, 72, 105, 115, 116, 67, 104, 101, 99, 107, 115, 32, 116, 105, 100, 101, 112, 111, 108, 101, 47, 116, 105, 100, 101, 112, 111, 108, 101, 108, 97, 119, 48, 57, 46, 72, 105, 115, 116, 80, 97, 105, 114, 115, 32, 116, 105, 100, 101, 112, 111, 108, 101, 47, 116, 105, 100, 101, 112, 111, 108, 101, 108, 97, 119, 48, 57, 46, 72, 105, 115, 116, 69, 113, 117, 97, 108, 32, 116, 105, 100, 101, 112, 111, 108, 101, 47, 116, 105, 100, 101, 112, 111, 108, 101, 108, 97, 119, 48, 57, 46, 72, 105, 115, 116, 79, 118, 101, 114, 32, 116, 105, 100, 101, 112, 111, 108, 101, 47, 116, 105, 100, 101, 112, 111, 108, 101, 108, 97, 119, 48, 57, 46, 72, 105, 115, 116, 77, 97, 107, 101, 115, 32, 116, 105, 100, 101, 112, 111, 108, 101, 47, 116, 105, 100, 101, 112, 111, 108, 101, 108, 97, 119, 48, 57, 46, 72, 105, 115, 116, 67, 97, 110, 111, 110, 32, 116, 105, 100, 101, 112, 111, 108, 101, 47, 116, 105, 100, 101, 112, 111, 108, 101, 108, 97, 119, 48, 57, 46, 72, 105, 115, 116, 87, 97, 108, 107, 115, 32, 116, 105, 100, 101, 112, 111, 108, 101, 47, 116, 105, 100, 101, 112, 111, 108, 101, 108, 97, 119, 49, 49, 46, 82, 101, 115, 101, 116, 76, 97, 121, 115, 32, 116, 105, 100, 101, 112, 111, 108, 101, 47, 116, 105, 100, 101, 112, 111, 108, 101, 108, 97, 119, 49, 48, 46, 70, 104, 105, 115, 116, 67, 104, 101, 99, 107, 115, 32, 116, 105, 100, 101, 112, 111, 108, 101, 47, 116, 105, 100, 101, 112, 111, 108, 101, 108, 97, 119, 49, 48, 46, 70, 104, 105, 115, 116, 80, 97, 105, 114, 115, 32, 116, 105, 100, 101, 112, 111, 108, 101, 47, 116, 105, 100, 101, 112, 111, 108, 101, 108, 97, 119, 49, 48, 46, 70, 104, 105, 115, 116, 69, 113, 117, 97, 108, 32, 116, 105, 100, 101, 112, 111, 108, 101, 47, 116, 105, 100, 101, 112, 111, 108, 101, 108, 97, 119, 49, 48, 46, 70, 104, 105, 115, 116, 79, 118, 101, 114, 32, 116, 105, 100, 101, 112, 111, 108, 101, 47, 116, 105, 100, 101, 112, 111, 108, 101, 108, 97, 119, 49, 48, 46, 70, 104, 105, 115, 116, 70, 108, 111, 97, 116, 115, 32, 116, 105, 100, 101, 112, 111, 108, 101, 47, 116, 105, 100, 101, 112, 111, 108, 101, 108, 97, 119, 49, 48, 46, 70, 104, 105, 115, 116, 77, 97, 107, 101, 115, 32, 116, 105, 100, 101, 112, 111, 108, 101, 47, 116, 105, 100, 101, 112, 111, 108, 101, 108, 97, 119, 49, 48, 46, 70, 104, 105, 115, 116, 67, 97, 110, 111, 110, 32, 116, 105, 100, 101, 112, 111, 108, 101, 47, 116, 105, 100, 101, 112, 111, 108, 101, 108, 97, 119, 49, 48, 46, 70, 104, 105, 115, 116, 66, 97, 99, 107, 32, 116, 105, 100, 101, 112, 111, 108, 101, 47, 116, 105, 100, 101, 112, 111, 108, 101, 108, 97, 119, 49, 48, 46, 70, 104, 105, 115, 116, 70, 114, 111, 109]
theorem head_is : Try.prog.initOrder = String.ofList headSigns := by kernel_rfl
theorem head_signs : Try.prog.initOrder.toList = headSigns := by rw [head_is]; exact String.toList_ofList
theorem head_first : (behindMainWord (wordsSigns headSigns)).head? = some "cut".toList := by kernel_rfl
theorem head_words : ∃ r, behindMainWord (wordsSigns headSigns) = "cut".toList :: r := by have h := head_first; cases h2 : behindMainWord (wordsSigns headSigns) with | nil => rw [h2] at h; cases h | cons c r => rw [h2] at h; injection h with h; exact ⟨r, by rw [h]⟩
theorem strip_cut (r : List (List Char)) : stripLifts liftWords ("cut".toList :: r) = ([], "cut".toList :: r) := by kernel_rfl
theorem head_lifts : Try.prog.headLifts = [] := by obtain ⟨r, hr⟩ := head_words; unfold Program.headLifts; rw [head_signs, hr, strip_cut]; kernel_rfl
theorem head_doorFits : Try.prog.doorFits [] = true := by kernel_rfl
theorem head_laysLater : Try.prog.laysLater = false := by kernel_rfl
theorem head_bearsReflect : Try.prog.bearsReflect = false := by kernel_rfl
theorem mayEnter_of {P : Program} {L : List Char} {r : List (List Char)} (h1 : P.initOrder.toList = L) (h2 : behindMainWord (wordsSigns L) = "cut".toList :: r) (h3 : P.doorFits [] = true) (h4 : P.laysLater = false) (h5 : P.bearsReflect = false) : P.mayEnter = true := by unfold Program.mayEnter; rw [h1, h2]; simp only [strip_cut, h3, h4, h5]; kernel_rfl
theorem head_mayEnter : Try.prog.mayEnter = true := by obtain ⟨r, hr⟩ := head_words; exact mayEnter_of head_signs hr head_doorFits head_laysLater head_bearsReflect
theorem head_liftsFinal : Try.prog.liftsFinal = false := by obtain ⟨r, hr⟩ := head_words; unfold Program.liftsFinal; rw [head_signs, head_lifts, hr]; kernel_rfl
theorem make_of {P : Program} {L : List Char} {r : List (List Char)} (h1 : P.initOrder.toList = L) (h2 : behindMainWord (wordsSigns L) = "cut".toList :: r) : P.make = some .cut := by unfold Program.make; rw [h1, h2]; kernel_rfl
theorem head_make : Try.prog.make = some .cut := by obtain ⟨r, hr⟩ := head_words; exact make_of head_signs hr
theorem head_laidOut : laidOutB Try.prog = true := by kernel_rfl
theorem head_mapsRowed : mapsRowed Try.prog = true := by kernel_rfl
theorem head_stops : (Try.prog.stops == []) = true := by kernel_rfl
theorem head_stopKnobs : (Try.prog.stopKnobs == []) = true := by kernel_rfl
theorem head_plainKeys : Try.prog.plainKeys = true := by kernel_rfl
theorem head_stopsHeard : Try.prog.stopsHeard = true := by kernel_rfl
end Go.Proofs.Ytacgeafjilipdaa.P
namespace Go.Proofs.Ytacgeafjilipdaa.Pure
open Go.RowKit Go.Proofs.Ytacgeafjilipdaa.P Go.Proofs.YtacgeafjilipdaaW.PrintWords
theorem FhistPairs : ∀ (x0 : S79) (a1 : Int), wf79 x0 → (inI .i64) a1 → tidepolelaw10_FhistPairs.f x0.f0 x0.f1 x0.f2 x0.f3 x0.f4 x0.f5 x0.f6 x0.f7 x0.f8 a1 = some true := fun _ _ h0 h1 => if_pos ⟨wfG_of h0, i64_of h1⟩
end Go.Proofs.Ytacgeafjilipdaa.Pure
namespace Go.Proofs.Ytacgeafjilipdaa.fhistPairs
open Go.ChangeShapes Go.WideShapes Go.ChangeAt Go.RowKit Go.Proofs.Ytacgeafjilipdaa.P Go.Proofs.YtacgeafjilipdaaW.PrintWords
set_option linter.unusedVariables false
theorem own : ownKnob Try.prog.godebug = none := by kernel_rfl
theorem laidOut : laidOutB Try.prog = true := by kernel_rfl
set_option maxRecDepth 100000 in
set_option maxHeartbeats 4000000 in
theorem lifted (os : Os) (started : os.Started) (H : Type) (enc : TypeId × Value → H) :
    ReturnsInHanded {} Try.checked os 22 .any (Rows.fhistPairsSpec.pre6 enc Try.prog Try.f22 Rows.fhistPairsRow.domain false) (Rows.fhistPairsSpec.post enc Try.prog Try.f22 false true false false) := by
  refine returnsInHanded_of_change_sized (C := Try.checked) own started (by kernel_rfl) Try.func22
    (ChangeSpec.witness6 (enc := enc) (C := Try.checked) false ⟨#[], #[.agg #[.int .i64 0, .int .u64 0, .int .u64 0, .int .u64 0, .int .u64 0, .slice none 0 0, .slice none 0 0, .slice none 0 0, .slice none 0 0], .int .i64 0], []⟩ 8 (by kernel_rfl) (by kernel_rfl) (by kernel_rfl) (by kernel_rfl)) ?_
  intro W base args ds gs before hval0 hW hcnd hsz0 _
  have hval : ∀ (j : Nat) t v, Try.f22.params[j]? = some t → args[j]? = some v → Value.okWide Try.prog W .any base t v := hval0
  have hW' := hW
  obtain ⟨p, q, hA0, hV, rfl, hfz, hnd⟩ := hW
  have hA : DataW.TrodAll enc Try.prog W 0 (fun _ => true) true Try.f22.params.toList args.toList ds p := hA0
  rw [Try.params22] at hA hval
  obtain ⟨v0, vs0, d0, ds0, p0, q0, hargs, rfl, rfl, h0, r0⟩ := trodAll_cons hA
  obtain ⟨v1, vs1, d1, ds1, p1, q1, rfl, rfl, rfl, h1, r1⟩ := trodAll_cons r0
  obtain ⟨rfl, rfl, rfl⟩ := trodAll_nil r1
  obtain rfl : args = #[v0, v1] := by cases args; simp_all
  obtain ⟨rfl, rfl⟩ := trodVars_none hV
  have k0 := h0
  have lt0 : ∀ x ∈ p0, x.block < W.heap.size := by obtain ⟨m, hm⟩ := k0; exact DataW.trod_lt m _ _ _ hm
  obtain ⟨fu0, hf0⟩ := h0
  obtain ⟨x0, hK0, w0⟩ := opens79 enc W 0 _ true fu0 _ _ hf0
  obtain ⟨cs0, rfl, _⟩ := okWide_struct Try.underlying79 (hval 0 79 v0 rfl rfl)
  obtain ⟨A0_5, c0_5, A0_6, c0_6, A0_7, c0_7, A0_8, c0_8, he0, h0_5_l, hC0_5, h0_6_l, hC0_6, h0_7_l, hC0_7, h0_8_l, hC0_8⟩ := k79_open hK0
  obtain rfl : cs0 = #[.int .i64 x0.f0, .int .u64 x0.f1, .int .u64 x0.f2, .int .u64 x0.f3, .int .u64 x0.f4, .slice A0_5 x0.f5.length c0_5, .slice A0_6 x0.f6.length c0_6, .slice A0_7 x0.f7.length c0_7, .slice A0_8 x0.f8.length c0_8] := by
    have he : cs0.toList = _ := he0
    exact Array.toList_inj.1 he
  obtain ⟨a1, rfl, rfl, rfl, w1⟩ := open_int Try.underlying3 (hval 1 3 v1 rfl rfl) h1
  clear hA0 hval0 hsz0
  obtain hk := Pure.FhistPairs x0 a1 w0 w1
  refine (P.tidepolelaw10_FhistPairs.calls x0.f0 x0.f1 x0.f2 x0.f3 x0.f4 A0_5 c0_5 x0.f5 A0_6 c0_6 x0.f6 A0_7 c0_7 x0.f7 A0_8 c0_8 x0.f8 a1 true W hC0_5 h0_5_l hC0_6 h0_6_l hC0_7 h0_7_l hC0_8 h0_8_l hk).mono fun e W' ⟨he, bel⟩ => ?_
  subst he
  exact ⟨_, rfl, _, _, _, [], _, [], hW', trodAll_mk1 (shut_bool Try.underlying4 _), (trodAll_cons_mk (Below.trod laidOut (by kernel_rfl) (of_decide_eq_true (by kernel_rfl)) k0 bel lt0) (trodAll_cons_mk (shut_int Try.underlying3 w1) trodAll_mk0)), rfl, bel.frame _, fun h => by cases h⟩
theorem cf0 : (Rows.fhistPairsRow.wf (OpenSpec.ofChange Rows.fhistPairsSpec)) = true := by kernel_rfl
theorem cf1 : (laidOutB Try.prog) = true := P.head_laidOut
theorem cf2 : (mapsRowed Try.prog) = true := P.head_mapsRowed
theorem cf3 : (Try.f22.params.all (Try.prog.readableRec ·)) = true := by kernel_rfl
theorem cf4 : (namedTie Try.prog Rows.fhistPairsRow.named Rows.fhistPairsSpec.vars) = true := by kernel_rfl
theorem cf5 : ((Rows.fhistPairsRow.stops == [])) = true := by kernel_rfl
theorem cf6 : ((Try.prog.stops == [])) = true := P.head_stops
theorem cf7 : ((Rows.fhistPairsRow.knobs == [])) = true := by kernel_rfl
theorem cf8 : ((Try.prog.stopKnobs == [])) = true := P.head_stopKnobs
theorem cf9 : ((Rows.fhistPairsRow.inPlace == Try.prog.inPlace 22)) = true := by kernel_rfl
theorem cf10 : ((Rows.fhistPairsRow.unfollowed == Try.prog.unfollowed 22)) = true := by kernel_rfl
theorem cf11 : ((Rows.fhistPairsRow.recurses == Try.prog.recurses 22)) = true := by kernel_rfl
theorem cf12 : ((Rows.fhistPairsRow.named == Try.prog.varsNamed 22)) = true := by kernel_rfl
theorem cf13 : ((Rows.fhistPairsRow.maps == (Try.f22.params.toList ++ Rows.fhistPairsSpec.plain.varTypes Try.prog).any (Try.prog.mapsRec ·))) = true := by kernel_rfl
theorem cf14 : ((Rows.fhistPairsRow.ifaces == (Try.f22.params.toList ++ Rows.fhistPairsSpec.plain.varTypes Try.prog).any (Try.prog.ifacesRec ·))) = true := by kernel_rfl
theorem cf15 : ((Rows.fhistPairsRow.mapsOut == Try.prog.mapsAmong Try.f22.resultTypes.toList)) = true := by kernel_rfl
theorem cf16 : ((Rows.fhistPairsRow.loops == (Try.f22.params.toList ++ Rows.fhistPairsSpec.plain.varTypes Try.prog).any (Try.prog.loopsFrom ·))) = true := by kernel_rfl
theorem cf17 : ((Rows.fhistPairsRow.wideKeys == (Try.f22.params.toList ++ Rows.fhistPairsSpec.plain.varTypes Try.prog ++ Try.f22.resultTypes.toList).any (Try.prog.wideKeysFrom ·))) = true := by kernel_rfl
theorem cf18 : (Rows.fhistPairsSpec.vars.all (Try.prog.varReadable ·)) = true := by kernel_rfl
theorem cf19 : (Try.f22.resultTypes.all (fun t => Try.prog.readableRec t && decide (t < Try.prog.types.size))) = true := by kernel_rfl
theorem cf20 : ((Rows.fhistPairsRow.ifacesOut == Try.f22.resultTypes.toList.any (Try.prog.ifacesRec ·))) = true := by kernel_rfl
theorem cf21 : ((Rows.fhistPairsRow.loopsOut == Try.f22.resultTypes.toList.any (Try.prog.loopsFrom ·))) = true := by kernel_rfl
theorem cf22 : ((Rows.fhistPairsRow.plainKeys == Try.prog.plainKeys)) = true := by rw [P.head_plainKeys]; kernel_rfl
theorem cf23 : (Rows.fhistPairsRow.shortTexts.isNone) = true := by kernel_rfl
theorem cf24 : (Try.prog.stopsHeard) = true := P.head_stopsHeard
theorem cf25 : (Try.prog.mayEnter) = true := P.head_mayEnter
theorem cf26 : ((Rows.fhistPairsRow.lifted == Try.prog.liftsFinal)) = true := by rw [P.head_liftsFinal]; kernel_rfl
theorem cf27 : ((Try.prog.make == some Rows.fhistPairsRow.make)) = true := by rw [P.head_make]; kernel_rfl
theorem cf28 : ((Rows.fhistPairsRow.kinds == (if Rows.fhistPairsRow.domain.isEmpty then [] else Try.f22.params.toList.map fun t => match Try.prog.underlying t with | some (.int k) => some k | _ => none))) = true := by kernel_rfl
theorem cf29 : ((Rows.fhistPairsRow.pinned == Rows.fhistPairsRow.pinnedBy)) = true := by kernel_rfl
theorem cf30 : ((Rows.fhistPairsRow.veiled == (Try.f22.params.toList ++ Rows.fhistPairsSpec.plain.varTypes Try.prog ++ Try.f22.resultTypes.toList).any (Try.prog.veiledRec ·))) = true := by kernel_rfl
theorem cf31 : (Rows.fhistPairsRow.veiledFits Try.prog Try.f22.params.toList (Try.f22.params.toList ++ Rows.fhistPairsSpec.plain.varTypes Try.prog ++ Try.f22.resultTypes.toList)) = true := by kernel_rfl
theorem band_mk {a b : Bool} (h : a = true) (k : b = true) : (a && b) = true := by rw [h, k]; rfl
theorem closed : joinedFacts Try.prog 22 Try.f22 Rows.fhistPairsSpec Rows.fhistPairsRow = true := by unfold joinedFacts; exact (band_mk (band_mk (band_mk (band_mk (band_mk (band_mk (band_mk (band_mk (band_mk (band_mk (band_mk (band_mk (band_mk (band_mk (band_mk (band_mk (band_mk (band_mk (band_mk (band_mk (band_mk (band_mk (band_mk (band_mk (band_mk (band_mk (band_mk (band_mk (band_mk (band_mk (band_mk cf0 cf1) cf2) cf3) cf4) cf5) cf6) cf7) cf8) cf9) cf10) cf11) cf12) cf13) cf14) cf15) cf16) cf17) cf18) cf19) cf20) cf21) cf22) cf23) cf24) cf25) cf26) cf27) (by kernel_rfl)) cf29) cf30) cf31)
theorem over : Rows.fhistPairsRow.holds Try.pinned (OpenSpec.ofChange Rows.fhistPairsSpec) :=
  OpenClaim.holds_of_wide 22 Try.f22 rfl rfl rfl rfl rfl rfl rfl ⟨rfl, rfl, rfl, rfl, rfl⟩ rfl rfl rfl rfl rfl (by kernel_rfl) Try.func22 closed
    (of_decide_eq_true (by kernel_rfl)) (by unfold Func.isWrapper; first | (rw [if_pos (by decide +kernel)]; kernel_rfl) | (rw [if_neg (by decide +kernel)]; exact ⟨rfl, rfl⟩))
    (fun os started H enc _ => lifted os started H enc)
theorem proved : Rows.FhistPairsSaid := over
#print axioms proved
end Go.Proofs.Ytacgeafjilipdaa.fhistPairs
namespace Go.Proofs.Ytacgeafjilipdaa
theorem fhistPairs_holds : Rows.FhistPairsSaid := fhistPairs.proved
end Go.Proofs.Ytacgeafjilipdaa
