/- FhistCanon: the part that this text bears of the proof that the statement answers true for every input. No condition. -/
import Derived.Test.YtacgeafjilipdaaProg
import Derived.Below
import Derived.Deep.Draws
import Derived.Deep.AppendLies
import Derived.Maps.AppendAt
import Derived.OwnWalk
import Derived.Laws.BytesArg
import Derived.Laws.MakeOwn
import Derived.Laws.OwnMore
import Derived.Deep.OwnRows
import Derived.Tactics
import Derived.Lib.ConvBytes
import Derived.Laws.Slices
import Derived.WalkKit
import Derived.KernelRfl
import Derived.RowKit3
import Derived.Deep.LoopGhost
import Derived.Deep.QuietTactic
import Derived.BigQuiet
import Derived.WideLaws
import Derived.Deep.DeepCutAuto
import Derived.Deep.CutBlock
import Derived.Deep.RegionHeld3
import Derived.Laws.Rows
import Derived.Lib.AppendStr
import Derived.ArgAppend
import Derived.Laws.IdiomCopy
import Derived.OrdersHeld
import Derived.Laws.BitsLemmas
import Derived.RowKit
import Derived.Deep.Slices
import Derived.ChangeArms
import Derived.Shelf.Abstract
import Derived.WalkSpells
import Derived.RangeFuncNested
import Derived.RangeFuncBound
import Derived.RangeFuncCalls
import Derived.RangeFuncLeaves
import Derived.RangeFuncBox
import Derived.OwnWalkIn
import Derived.TacticsInMore
import Derived.LoopNIn
import Derived.LoopIn
import Derived.RegionIn
import Derived.Sort.QuietTacIn
import Derived.Deep.RegionWith
import Derived.Laws.BitsAllLaws
import Derived.ChangeKeysEq
import Derived.Great.Frames
import Derived.Laws.Externs
import Derived.ProofKit
import Derived.JoinedOf
import Derived.OpenShut
import Derived.ShutString
import Derived.ChangeOld
import Derived.SizedLaws
import Derived.Test.YtacgeafjilipdaaQFhistCanonWWords
import Derived.Test.YtacgeafjilipdaaQFhistCanonWLast
import Derived.Test.YtacgeafjilipdaaQFhistCanonWTab
import Derived.Test.YtacgeafjilipdaaQFhistCanonWFour
import Derived.Test.YtacgeafjilipdaaQFhistCanonWQPut
import Derived.Test.YtacgeafjilipdaaQFhistCanonWApart
import Derived.Test.YtacgeafjilipdaaQFhistCanonWArr
import Derived.Test.YtacgeafjilipdaaQFhistCanonWZeros
import Derived.Test.YtacgeafjilipdaaQFhistCanonWFoot
import Derived.Test.YtacgeafjilipdaaQFhistCanonWKept
import Derived.Test.YtacgeafjilipdaaQFhistCanonWShare
import Derived.Test.YtacgeafjilipdaaQFhistCanonWN
import Derived.Test.YtacgeafjilipdaaQFhistCanonWFootNe
import Derived.Test.YtacgeafjilipdaaQFhistCanonWAt
import Derived.Test.YtacgeafjilipdaaQFhistCanonWEqStruct
import Derived.Test.YtacgeafjilipdaaQFhistCanonWRepsOne
import Derived.Test.YtacgeafjilipdaaQFhistCanonWInv
import Derived.Test.YtacgeafjilipdaaQFhistCanonWInvWords
import Derived.Test.YtacgeafjilipdaaQFhistCanonWGuard
import Derived.Test.YtacgeafjilipdaaQFhistCanonWNEv
import Derived.Test.YtacgeafjilipdaaQFhistCanonWMore
import Derived.Test.YtacgeafjilipdaaRows
import Derived.Test.YtacgeafjilipdaaQFhistCanon0
import Derived.Test.YtacgeafjilipdaaQFhistCanon1
import Derived.Test.YtacgeafjilipdaaQFhistCanon2
import Derived.Test.YtacgeafjilipdaaQFhistCanon3
namespace Go.Proofs.Ytacgeafjilipdaa.P
open Go.RowKit Go.Shelf Go.Proofs.YtacgeafjilipdaaW.PrintWords Go.Proofs.YtacgeafjilipdaaW.PrintLast Go.Proofs.YtacgeafjilipdaaW.PrintMore
set_option linter.unusedVariables false
set_option linter.unusedSimpArgs false
theorem canonF_nz {h c : Fh} (hck : checkF c = 0) (ho : openF c = (some0U (openF h).1, some0U (openF h).2.1, 0)) : ∀ x ∈ c.f7 ++ c.f8, x ≠ 0 := by
  obtain ⟨-, z2, z3⟩ := checkF_zero hck
  rw [openF_right hck] at ho
  injection ho with h1 h2
  injection h2 with h2 h3
  have b5 := sideF_bounds z2
  have b6 := sideF_bounds z3
  intro x hx
  rcases List.mem_append.1 hx with hx | hx
  · rw [← b5.2.2.2.2.1, h1] at hx
    obtain ⟨p, hp, rfl⟩ := List.mem_map.1 hx
    have := (List.mem_filter.1 hp).2
    simpa using this
  · rw [← b6.2.2.2.2.1, h2] at hx
    obtain ⟨p, hp, rfl⟩ := List.mem_map.1 hx
    have := (List.mem_filter.1 hp).2
    simpa using this
set_option maxHeartbeats 32000000 in
set_option maxRecDepth 100000 in
theorem fhistCanon_no (a : Fh) (hW : wfF a) (n5 : a.f5.length ≤ 400) (n6 : a.f6.length ≤ 400) (hr : checkF a ≠ 0) (cs : ∀ (w : World) (v : Value), GI w v a → Calls Try.prog 94 #[v] w fun e w' => e = .returned (.bool true) ∧ Below w.heap.size w w') (w : World) (u : Value) (hua : GI w u a) : Calls Try.prog 27 #[u] w fun e w' => e = .returned (.bool true) ∧ Below w.heap.size w w' := by
  have hud := Try.underlying79
  have cc := fcanon_c a hW
  rw [show canonF a = (emptyF, checkF a) by unfold canonF; rw [if_pos hr]] at cc
  have cr := ref10_c a (by omega) (by omega)
  have cq := refCheckF_c a hW
  generalize checkF a = r at *
  have d : (r != 0) = true := bne_iff_ne.2 hr
  have CS := Aside0.mk cs
  have CC := Aside0.mk cc
  have CR := Aside0.mk cr
  have CQ := Aside0.mk cq
  clear cs cc cr cq hr hW n5 n6
  obtain ⟨A5a, c5a, A6a, c6a, A7a, c7a, A8a, c8a, e, k5a, k6a, k7a, k8a⟩ := hua.open_
  subst e
  have B := Aside0.mk (below_alloc (Below.refl w.heap.size w) (.cells #[.int .i64 a.f0, .int .u64 a.f1, .int .u64 a.f2, .int .u64 a.f3, .int .u64 a.f4, .slice A5a a.f5.length c5a, .slice A6a a.f6.length c6a, .slice A7a a.f7.length c7a, .slice A8a a.f8.length c8a] 79))
  have X := Aside0.mk (Blk.new w #[.int .i64 a.f0, .int .u64 a.f1, .int .u64 a.f2, .int .u64 a.f3, .int .u64 a.f4, .slice A5a a.f5.length c5a, .slice A6a a.f6.length c6a, .slice A7a a.f7.length c7a, .slice A8a a.f8.length c8a] 79)
  have hx := fun i => X.out.cell i
  have HA := Aside0.mk (hua.below B.out)
  have K5a := Aside0.mk (k5a.below B.out)
  have K6a := Aside0.mk (k6a.below B.out)
  have K7a := Aside0.mk (k7a.below B.out)
  have K8a := Aside0.mk (k8a.below B.out)
  clear hua k5a k6a k7a k8a
  go_enter Try.func27, Try.ntmps27
  go_wp2_with (first | (go_at_call 94; (with_reducible refine (CS.out _ _ HA.out).mono ?_); rintro e W1 ⟨rfl, hb⟩; replace B := Aside0.mk (below_then B.out B.out.size hb); replace HA := Aside0.mk (HA.out.below hb); replace X := Aside0.mk (X.out.below hb); replace hx := fun i => X.out.cell i; clear  hb) | (go_at_call 118; (with_reducible refine (CC.out _ _ HA.out).mono ?_); rintro e W2 ⟨cv, rfl, hc, hb⟩; replace B := Aside0.mk (below_then B.out B.out.size hb); replace HA := Aside0.mk (HA.out.below hb); replace X := Aside0.mk (X.out.below hb); replace hx := fun i => X.out.cell i; obtain ⟨cA5, cc5, cA6, cc6, cA7, cc7, cA8, cc8, ec⟩ := hc.empty_; clear hc; subst ec; have hxa := fun i => (X.out.alloc (.cells #[.int .i64 0, .int .u64 0, .int .u64 0, .int .u64 0, .int .u64 0, .slice cA5 0 cc5, .slice cA6 0 cc6, .slice cA7 0 cc7, .slice cA8 0 cc8] 79)).cell i; clear hb))
  (try clear hxa)
  have hal := below_alloc (Below.refl W2.heap.size W2) (.cells #[.int .i64 0, .int .u64 0, .int .u64 0, .int .u64 0, .int .u64 0, .slice cA5 0 cc5, .slice cA6 0 cc6, .slice cA7 0 cc7, .slice cA8 0 cc8] 79)
  replace B := Aside0.mk (below_then B.out B.out.size hal)
  replace HA := Aside0.mk (HA.out.below hal)
  replace X := Aside0.mk (X.out.alloc (.cells #[.int .i64 0, .int .u64 0, .int .u64 0, .int .u64 0, .int .u64 0, .slice cA5 0 cc5, .slice cA6 0 cc6, .slice cA7 0 cc7, .slice cA8 0 cc8] 79)); replace hx := fun i => X.out.cell i
  have T3 := Aside0.mk (Blk.new W2 #[.int .i64 0, .int .u64 0, .int .u64 0, .int .u64 0, .int .u64 0, .slice cA5 0 cc5, .slice cA6 0 cc6, .slice cA7 0 cc7, .slice cA8 0 cc8] 79); have ht3 := fun i => T3.out.cell i; clear hal
  go_wp2_with (first | (go_at_call 97; (with_reducible refine (CR.out _ _ HA.out).mono ?_); rintro e W3 ⟨rv, rfl, hr, hb⟩; replace B := Aside0.mk (below_then B.out B.out.size hb); replace HA := Aside0.mk (HA.out.below hb); replace X := Aside0.mk (X.out.below hb); replace hx := fun i => X.out.cell i; replace T3 := Aside0.mk (T3.out.below hb); replace ht3 := fun i => T3.out.cell i; have RV := Aside0.mk hr; clear hr hb) | (go_at_call 63; (with_reducible refine (CQ.out _ _ RV.out).mono ?_); rintro e W4 ⟨rfl, hb⟩; replace B := Aside0.mk (below_then B.out B.out.size hb); replace HA := Aside0.mk (HA.out.below hb); replace RV := Aside0.mk (RV.out.below hb); replace X := Aside0.mk (X.out.below hb); replace hx := fun i => X.out.cell i; replace T3 := Aside0.mk (T3.out.below hb); replace ht3 := fun i => T3.out.cell i; clear  hb) | (go_at_call 109; (with_reducible refine (empty10_x _ _ _ _ _ _ _ _ _).mono ?_); rintro e W5 ⟨rfl, hb⟩; replace B := Aside0.mk (below_then B.out B.out.size hb); replace HA := Aside0.mk (HA.out.below hb); replace RV := Aside0.mk (RV.out.below hb); replace X := Aside0.mk (X.out.below hb); replace hx := fun i => X.out.cell i; replace T3 := Aside0.mk (T3.out.below hb); replace ht3 := fun i => T3.out.cell i; clear  hb) | (go_at_call 95; (with_reducible refine (awake10_c _).mono ?_); rintro e W6 ⟨rfl, hb⟩; replace B := Aside0.mk (below_then B.out B.out.size hb); replace HA := Aside0.mk (HA.out.below hb); replace RV := Aside0.mk (RV.out.below hb); replace X := Aside0.mk (X.out.below hb); replace hx := fun i => X.out.cell i; replace T3 := Aside0.mk (T3.out.below hb); replace ht3 := fun i => T3.out.cell i; clear  hb))
  go_ret
  exact ⟨rfl, B.out⟩
set_option maxHeartbeats 64000000 in
set_option maxRecDepth 100000 in
theorem fhistCanon_yes (a : Fh) (hW : wfF a) (n5 : a.f5.length ≤ 400) (n6 : a.f6.length ≤ 400) (n7 : a.f7.length ≤ 300) (n8 : a.f8.length ≤ 300) (hr : checkF a = 0) (cs : ∀ (w : World) (v : Value), GI w v a → Calls Try.prog 94 #[v] w fun e w' => e = .returned (.bool true) ∧ Below w.heap.size w w') (w : World) (u : Value) (hua : GI w u a) : Calls Try.prog 27 #[u] w fun e w' => e = .returned (.bool true) ∧ Below w.heap.size w w' := by
  have hud := Try.underlying79
  obtain ⟨c, q1, q2, q3, q4, q5, q6, k5, k6, s5, s6, l5, l6, l7, l8, hWc⟩ := canonF_right hW hr (by omega) (by omega)
  have nz := canonF_nz q2 q3
  have cc0 := fcanon_c a hW
  rw [q1] at cc0
  have cc : ∀ (w : World) (v : Value), GI w v a → Calls Try.prog 118 #[v] w fun e w' => ∃ v', e = .returned (.tuple #[v', .int .i64 0]) ∧ GI w' v' c ∧ Below w.heap.size w w' := fun w v hv => (cc0 w v hv).mono fun e w1 ⟨v', e1, e2, e3⟩ => ⟨v', e1, e2.now, e3⟩
  have cr := ref10_c a (by omega) (by omega)
  have cq := refCheckF_c a hW
  rw [hr] at cq
  have crc := ref10_c c (by omega) (by omega)
  have ce := refEqualF_c c a hWc hW
  rw [q5] at ce
  have N5 := Aside0.mk (canonical_c c.f5 hWc.2.2.2.2.2.1 k5 s5)
  have N6 := Aside0.mk (canonical_c c.f6 hWc.2.2.2.2.2.2.1 k6 s6)
  have CS := Aside0.mk cs
  have CC := Aside0.mk cc
  have CR := Aside0.mk cr
  have CRc := Aside0.mk crc
  have CQ := Aside0.mk cq
  have CE := Aside0.mk ce
  have LN := Aside0.mk (And.intro l7 l8)
  have NZ := Aside0.mk nz
  clear cs cc cc0 cr crc cq ce q1 q2 q3 q4 q5 q6 k5 k6 s5 s6 l5 l6 l7 l8 hWc hW n5 n6 n7 n8 hr nz
  obtain ⟨A5a, c5a, A6a, c6a, A7a, c7a, A8a, c8a, e, k5a, k6a, k7a, k8a⟩ := hua.open_
  subst e
  have B := Aside0.mk (below_alloc (Below.refl w.heap.size w) (.cells #[.int .i64 a.f0, .int .u64 a.f1, .int .u64 a.f2, .int .u64 a.f3, .int .u64 a.f4, .slice A5a a.f5.length c5a, .slice A6a a.f6.length c6a, .slice A7a a.f7.length c7a, .slice A8a a.f8.length c8a] 79))
  have X := Aside0.mk (Blk.new w #[.int .i64 a.f0, .int .u64 a.f1, .int .u64 a.f2, .int .u64 a.f3, .int .u64 a.f4, .slice A5a a.f5.length c5a, .slice A6a a.f6.length c6a, .slice A7a a.f7.length c7a, .slice A8a a.f8.length c8a] 79)
  have hx := fun i => X.out.cell i
  have HA := Aside0.mk (hua.below B.out)
  have K5a := Aside0.mk (k5a.below B.out)
  have K6a := Aside0.mk (k6a.below B.out)
  have K7a := Aside0.mk (k7a.below B.out)
  have K8a := Aside0.mk (k8a.below B.out)
  clear hua k5a k6a k7a k8a
  go_enter Try.func27, Try.ntmps27
  go_wp2_with (first | (go_at_call 94; (with_reducible refine (CS.out _ _ HA.out).mono ?_); rintro e W1 ⟨rfl, hb⟩; replace B := Aside0.mk (below_then B.out B.out.size hb); replace HA := Aside0.mk (HA.out.below hb); replace X := Aside0.mk (X.out.below hb); replace hx := fun i => X.out.cell i; clear  hb) | (go_at_call 118; (with_reducible refine (CC.out _ _ HA.out).mono ?_); rintro e W2 ⟨cv, rfl, hc, hb⟩; replace B := Aside0.mk (below_then B.out B.out.size hb); replace HA := Aside0.mk (HA.out.below hb); replace X := Aside0.mk (X.out.below hb); replace hx := fun i => X.out.cell i; have C := Aside0.mk hc; have hc' := C.out; obtain ⟨cA5, cc5, cA6, cc6, cA7, cc7, cA8, cc8, ec, h5, h6, h7, h8⟩ := hc'.open_; subst ec; have C5 := Aside0.mk h5; have C6 := Aside0.mk h6; have C7 := Aside0.mk h7; have C8 := Aside0.mk h8; clear h5 h6 h7 h8; have hxa := fun i => (X.out.alloc (.cells #[.int .i64 c.f0, .int .u64 c.f1, .int .u64 c.f2, .int .u64 c.f3, .int .u64 c.f4, .slice cA5 c.f5.length cc5, .slice cA6 c.f6.length cc6, .slice cA7 c.f7.length cc7, .slice cA8 c.f8.length cc8] 79)).cell i; clear hc hb))
  (try clear hxa)
  have hal := below_alloc (Below.refl W2.heap.size W2) (.cells #[.int .i64 c.f0, .int .u64 c.f1, .int .u64 c.f2, .int .u64 c.f3, .int .u64 c.f4, .slice cA5 c.f5.length cc5, .slice cA6 c.f6.length cc6, .slice cA7 c.f7.length cc7, .slice cA8 c.f8.length cc8] 79)
  replace B := Aside0.mk (below_then B.out B.out.size hal)
  replace HA := Aside0.mk (HA.out.below hal)
  replace C := Aside0.mk (C.out.below hal)
  replace C5 := Aside0.mk (C5.out.below hal)
  replace C6 := Aside0.mk (C6.out.below hal)
  replace C7 := Aside0.mk (C7.out.below hal)
  replace C8 := Aside0.mk (C8.out.below hal)
  replace X := Aside0.mk (X.out.alloc (.cells #[.int .i64 c.f0, .int .u64 c.f1, .int .u64 c.f2, .int .u64 c.f3, .int .u64 c.f4, .slice cA5 c.f5.length cc5, .slice cA6 c.f6.length cc6, .slice cA7 c.f7.length cc7, .slice cA8 c.f8.length cc8] 79)); replace hx := fun i => X.out.cell i
  have T3 := Aside0.mk (Blk.new W2 #[.int .i64 c.f0, .int .u64 c.f1, .int .u64 c.f2, .int .u64 c.f3, .int .u64 c.f4, .slice cA5 c.f5.length cc5, .slice cA6 c.f6.length cc6, .slice cA7 c.f7.length cc7, .slice cA8 c.f8.length cc8] 79); have ht3 := fun i => T3.out.cell i; clear hal
  go_wp2_with (first | (go_at_call 97; (with_reducible refine (CR.out _ _ HA.out).mono ?_); rintro e W3 ⟨rv, rfl, hr, hb⟩; replace B := Aside0.mk (below_then B.out B.out.size hb); replace HA := Aside0.mk (HA.out.below hb); replace C := Aside0.mk (C.out.below hb); replace C5 := Aside0.mk (C5.out.below hb); replace C6 := Aside0.mk (C6.out.below hb); replace C7 := Aside0.mk (C7.out.below hb); replace C8 := Aside0.mk (C8.out.below hb); replace X := Aside0.mk (X.out.below hb); replace hx := fun i => X.out.cell i; replace T3 := Aside0.mk (T3.out.below hb); replace ht3 := fun i => T3.out.cell i; have RV := Aside0.mk hr; clear hr hb) | (go_at_call 63; (with_reducible refine (CQ.out _ _ RV.out).mono ?_); rintro e W4 ⟨rfl, hb⟩; replace B := Aside0.mk (below_then B.out B.out.size hb); replace HA := Aside0.mk (HA.out.below hb); replace C := Aside0.mk (C.out.below hb); replace C5 := Aside0.mk (C5.out.below hb); replace C6 := Aside0.mk (C6.out.below hb); replace C7 := Aside0.mk (C7.out.below hb); replace C8 := Aside0.mk (C8.out.below hb); replace RV := Aside0.mk (RV.out.below hb); replace X := Aside0.mk (X.out.below hb); replace hx := fun i => X.out.cell i; replace T3 := Aside0.mk (T3.out.below hb); replace ht3 := fun i => T3.out.cell i; clear  hb))
  go_region_held3 (fun W => (∀ i, W.cell? ⟨w.heap.size, i, none⟩ = (#[.int .i64 a.f0, .int .u64 a.f1, .int .u64 a.f2, .int .u64 a.f3, .int .u64 a.f4, .slice A5a a.f5.length c5a, .slice A6a a.f6.length c6a, .slice A7a a.f7.length c7a, .slice A8a a.f8.length c8a] : Array Value)[i]?) ∧ (∀ i, W.cell? ⟨W2.heap.size, i, none⟩ = (#[.int .i64 c.f0, .int .u64 c.f1, .int .u64 c.f2, .int .u64 c.f3, .int .u64 c.f4, .slice cA5 c.f5.length cc5, .slice cA6 c.f6.length cc6, .slice cA7 c.f7.length cc7, .slice cA8 c.f8.length cc8] : Array Value)[i]?)) (first | (with_reducible exact ⟨fun i => X.out.cell i, fun i => T3.out.cell i⟩) | (with_reducible exact ⟨fun i => (X.out.below HB1.out).cell i, fun i => (T3.out.below HB1.out).cell i⟩) | (exact ⟨fun i => (X.out.below (below_drew (Below.refl _ _))).cell i, fun i => (T3.out.below (below_drew (Below.refl _ _))).cell i⟩) | (exact ⟨fun i => (X.out.below (below_drew (below_alloc (Below.refl _ _) _))).cell i, fun i => (T3.out.below (below_drew (below_alloc (Below.refl _ _) _))).cell i⟩)) (first | (refine Kd.R_append_rows_step (Kd.int .u64) (w0 := W4) W4.heap.size (by rfl) (.tmp 32) (.tmp 34) 77 62 (.int .u64 0) 8 rfl Try.underlying77 info62 rfl (by decide) (by omega) (.slice (some ⟨W4.heap.size, 0, none⟩) 0 0) [] c.f7 _ _ _ (fun _ => True) (fun _ => False) rfl rfl ?aO ?aR (fun _ _ h => h) (fun _ h => h.elim) (fun _ _ => trivial) ?aB ?aS ?aL ?_; (case aO => exact ⟨fun _ _ => trivial, [], ⟨rfl, .inr ⟨W4.heap.size, 0, #[], rfl, Nat.le_refl _, (show (W4.alloc (.cells #[] 62)).heap[W4.heap.size]? = _ from by simpa using blk_new W4 (.cells #[] 62)), Nat.le_refl _, by unfold maxLen; omega, rfl, rfl⟩⟩, Reps.none _ _⟩); (case aR => (obtain ⟨_, _, e', _, hr'⟩ := C7.out.below (below_drew (below_alloc (Below.refl _ _) _)); cases e'; exact hr')); (case aB => exact below_drew (below_alloc (Below.refl _ _) _)); (case aS => simp); (case aL => (have := LN.out; simp; omega)); intro v1 w1 ho hb hg hat; rw [List.nil_append] at ho; have HO1 := Aside0.mk ho; have HB1 := Aside0.mk hb; clear ho hb hg hat) | (refine Kd.R_append_rows_step (Kd.int .u64) (w0 := W4) W4.heap.size (by rfl) (.tmp 35) (.tmp 37) 77 62 (.int .u64 0) 8 rfl Try.underlying77 info62 rfl (by decide) (by omega) _ c.f7 c.f8 _ _ _ (fun _ => True) (fun _ => False) rfl rfl ?aO ?aR (fun _ _ h => h) (fun _ h => h.elim) (fun _ _ => trivial) ?aB ?aS ?aL ?_; (case aO => exact HO1.out); (case aR => (obtain ⟨_, _, e', _, hr'⟩ := C8.out.below HB1.out; cases e'; exact hr')); (case aB => exact HB1.out); (case aS => exact HB1.out.size); (case aL => (have := LN.out; omega)); intro v2 w2 ho hb hg hat; obtain ⟨l, el⟩ : ∃ l_, l_ = c.f7 ++ c.f8 := ⟨_, rfl⟩; rw [← el] at ho; have EL := Aside0.mk el; clear el; have L := Aside0.mk (SI.of_R ho); have hl' := L.out; obtain ⟨LA, Lc, eL, hLc, hLr⟩ := hl'; subst eL; have HR := Aside0.mk hLr; clear hLc hLr; replace B := Aside0.mk (below_then B.out B.out.size hb); replace HA := Aside0.mk (HA.out.below hb); replace C := Aside0.mk (C.out.below hb); replace C5 := Aside0.mk (C5.out.below hb); replace C6 := Aside0.mk (C6.out.below hb); replace X := Aside0.mk (X.out.below hb); replace hx := fun i => X.out.cell i; replace T3 := Aside0.mk (T3.out.below hb); replace ht3 := fun i => T3.out.cell i; clear ho hb hg hat HO1 HB1))
  have NL := Aside0.mk (show l.length ≤ 4096 by have := LN.out; rw [EL.out, List.length_append]; omega)
  rw [← EL.out] at NZ
  clear LN
  go_wp2
  go_loopg [40] l.length (fun gg v40 wr => ∃ j : Nat, v40 = .int .i64 (j : Int) ∧ Aside0 (j + gg = l.length) ∧ wr = w2)
  case atStart => exact ⟨0, rfl, ⟨by simp⟩, rfl⟩
  case round =>
    obtain ⟨j, rfl, HJ, rfl⟩ := hrel
    by_cases hlt : j < l.length
    · obtain ⟨ko, rfl⟩ : ∃ ko, gk = ko + 1 := ⟨gk - 1, by have := HJ.out; omega⟩
      obtain ⟨ad, ea, hcell⟩ := Kd.at_int HR.out (j : Int) (by omega) (by omega)
      subst ea
      rw [Int.toNat_natCast] at hcell
      have hz : (rd l (j : Int) == 0) = false := beq_eq_false_iff_ne.2 (by rw [rd_at hlt]; exact NZ.out _ (List.getElem_mem hlt))
      have p1 : (0 : Int) ≤ (j : Int) := by omega
      have p2 : (j : Int) < (l.length : Int) := by omega
      have p3 : decide ((j : Int) < (l.length : Int)) = true := decide_eq_true p2
      have p4 : wrap64 ((j : Int) + 1) = ((j + 1 : Nat) : Int) := by have := NL.out; rw [wrap_succ (by omega)]
      clear hlt
      go_wp2
      go_roundg ko
      case measure => have := HJ.out; omega
      case rel => exact ⟨j + 1, by go_num, ⟨by have := HJ.out; omega⟩, rfl⟩
    · have p3 : decide ((j : Int) < (l.length : Int)) = false := decide_eq_false (by omega)
      go_wp2
      replace HA := Aside0.mk (HA.out.below (below_drew (Below.refl _ _)))
      replace C := Aside0.mk (C.out.below (below_drew (Below.refl _ _)))
      replace C5 := Aside0.mk (C5.out.below (below_drew (Below.refl _ _)))
      replace C6 := Aside0.mk (C6.out.below (below_drew (Below.refl _ _)))
      replace X := Aside0.mk (X.out.below (below_drew (Below.refl _ _)))
      replace T3 := Aside0.mk (T3.out.below (below_drew (Below.refl _ _)))
      replace B := Aside0.mk (below_drew B.out)
      go_region_held3 (fun W => (∀ i, W.cell? ⟨w.heap.size, i, none⟩ = (#[.int .i64 a.f0, .int .u64 a.f1, .int .u64 a.f2, .int .u64 a.f3, .int .u64 a.f4, .slice A5a a.f5.length c5a, .slice A6a a.f6.length c6a, .slice A7a a.f7.length c7a, .slice A8a a.f8.length c8a] : Array Value)[i]?) ∧ (∀ i, W.cell? ⟨W2.heap.size, i, none⟩ = (#[.int .i64 c.f0, .int .u64 c.f1, .int .u64 c.f2, .int .u64 c.f3, .int .u64 c.f4, .slice cA5 c.f5.length cc5, .slice cA6 c.f6.length cc6, .slice cA7 c.f7.length cc7, .slice cA8 c.f8.length cc8] : Array Value)[i]?)) (exact ⟨fun i => X.out.cell i, fun i => T3.out.cell i⟩) (first | (go_at_call 97; (with_reducible refine (CRc.out _ _ C.out).mono ?_); rintro e W5 ⟨sa, rfl, hr, hb⟩; replace B := Aside0.mk (below_then B.out B.out.size hb); replace HA := Aside0.mk (HA.out.below hb); replace C := Aside0.mk (C.out.below hb); replace C5 := Aside0.mk (C5.out.below hb); replace C6 := Aside0.mk (C6.out.below hb); replace X := Aside0.mk (X.out.below hb); replace hx := fun i => X.out.cell i; replace T3 := Aside0.mk (T3.out.below hb); replace ht3 := fun i => T3.out.cell i; (try (replace SB_ := Aside0.mk (SB_.out.below hb))); have SA_ := Aside0.mk hr; clear hr hb) | (go_at_call 97; (with_reducible refine (CR.out _ _ HA.out).mono ?_); rintro e W6 ⟨sb, rfl, hr, hb⟩; replace B := Aside0.mk (below_then B.out B.out.size hb); replace HA := Aside0.mk (HA.out.below hb); replace C := Aside0.mk (C.out.below hb); replace C5 := Aside0.mk (C5.out.below hb); replace C6 := Aside0.mk (C6.out.below hb); replace X := Aside0.mk (X.out.below hb); replace hx := fun i => X.out.cell i; replace T3 := Aside0.mk (T3.out.below hb); replace ht3 := fun i => T3.out.cell i; (try (replace SA_ := Aside0.mk (SA_.out.below hb))); have SB_ := Aside0.mk hr; clear hr hb) | (go_at_call 104; (with_reducible refine (CE.out _ _ _ SA_.out SB_.out).mono ?_); rintro e W7 ⟨rfl, hb⟩; replace B := Aside0.mk (below_then B.out B.out.size hb); replace HA := Aside0.mk (HA.out.below hb); replace C := Aside0.mk (C.out.below hb); replace C5 := Aside0.mk (C5.out.below hb); replace C6 := Aside0.mk (C6.out.below hb); replace X := Aside0.mk (X.out.below hb); replace hx := fun i => X.out.cell i; replace T3 := Aside0.mk (T3.out.below hb); replace ht3 := fun i => T3.out.cell i; clear  hb) | (go_at_call 47; (with_reducible refine (N5.out _ _ C5.out).mono ?_); rintro e W8 ⟨rfl, hb⟩; replace B := Aside0.mk (below_then B.out B.out.size hb); replace HA := Aside0.mk (HA.out.below hb); replace C := Aside0.mk (C.out.below hb); replace C5 := Aside0.mk (C5.out.below hb); replace C6 := Aside0.mk (C6.out.below hb); replace X := Aside0.mk (X.out.below hb); replace hx := fun i => X.out.cell i; replace T3 := Aside0.mk (T3.out.below hb); replace ht3 := fun i => T3.out.cell i; clear  hb) | (go_at_call 47; (with_reducible refine (N6.out _ _ C6.out).mono ?_); rintro e W9 ⟨rfl, hb⟩; replace B := Aside0.mk (below_then B.out B.out.size hb); replace HA := Aside0.mk (HA.out.below hb); replace C := Aside0.mk (C.out.below hb); replace C5 := Aside0.mk (C5.out.below hb); replace C6 := Aside0.mk (C6.out.below hb); replace X := Aside0.mk (X.out.below hb); replace hx := fun i => X.out.cell i; replace T3 := Aside0.mk (T3.out.below hb); replace ht3 := fun i => T3.out.cell i; clear  hb) | (go_at_call 95; (with_reducible refine (awake10_c _).mono ?_); rintro e W10 ⟨rfl, hb⟩; replace B := Aside0.mk (below_then B.out B.out.size hb); replace HA := Aside0.mk (HA.out.below hb); replace C := Aside0.mk (C.out.below hb); replace C5 := Aside0.mk (C5.out.below hb); replace C6 := Aside0.mk (C6.out.below hb); replace X := Aside0.mk (X.out.below hb); replace hx := fun i => X.out.cell i; replace T3 := Aside0.mk (T3.out.below hb); replace ht3 := fun i => T3.out.cell i; clear  hb))
      all_goals go_wp2
      all_goals go_ret
      all_goals exact ⟨rfl, B.out⟩
theorem fhistCanon_c (a : Fh) (hw : wfG a) (w : World) (u : Value) (hua : GI w u a) : Calls Try.prog 27 #[u] w fun e w' => e = .returned (.bool true) ∧ Below w.heap.size w w' := by
  obtain ⟨b, hb, cs⟩ := small10_c a hw.2.2.2.2.2.1 hw.2.2.2.2.2.2.1
  cases b with
  | false =>
    have hud := Try.underlying79
    have CS := Aside0.mk cs
    clear cs hb
    obtain ⟨A5a, c5a, A6a, c6a, A7a, c7a, A8a, c8a, e, k5a, k6a, k7a, k8a⟩ := hua.open_
    subst e
    have B := Aside0.mk (below_alloc (Below.refl w.heap.size w) (.cells #[.int .i64 a.f0, .int .u64 a.f1, .int .u64 a.f2, .int .u64 a.f3, .int .u64 a.f4, .slice A5a a.f5.length c5a, .slice A6a a.f6.length c6a, .slice A7a a.f7.length c7a, .slice A8a a.f8.length c8a] 79))
    have X := Aside0.mk (Blk.new w #[.int .i64 a.f0, .int .u64 a.f1, .int .u64 a.f2, .int .u64 a.f3, .int .u64 a.f4, .slice A5a a.f5.length c5a, .slice A6a a.f6.length c6a, .slice A7a a.f7.length c7a, .slice A8a a.f8.length c8a] 79)
    have hx := fun i => X.out.cell i
    have HA := Aside0.mk (hua.below B.out)
    have K5a := Aside0.mk (k5a.below B.out)
    have K6a := Aside0.mk (k6a.below B.out)
    have K7a := Aside0.mk (k7a.below B.out)
    have K8a := Aside0.mk (k8a.below B.out)
    clear hua k5a k6a k7a k8a
    go_enter Try.func27, Try.ntmps27
    go_wp2_with (first | (go_at_call 94; (with_reducible refine (CS.out _ _ HA.out).mono ?_); rintro e W1 ⟨rfl, hb⟩; replace B := Aside0.mk (below_then B.out B.out.size hb); replace HA := Aside0.mk (HA.out.below hb); replace X := Aside0.mk (X.out.below hb); replace hx := fun i => X.out.cell i; clear  hb) | (go_at_call 95; (with_reducible refine (awake10_c _).mono ?_); rintro e W2 ⟨rfl, hb⟩; replace B := Aside0.mk (below_then B.out B.out.size hb); replace HA := Aside0.mk (HA.out.below hb); replace X := Aside0.mk (X.out.below hb); replace hx := fun i => X.out.cell i; clear  hb))
    go_ret
    exact ⟨rfl, B.out⟩
  | true =>
    obtain ⟨n5, n6, n7, n8⟩ := hb rfl
    by_cases hr : checkF a = 0
    · exact fhistCanon_yes a (wfF_of hw n7 n8) n5 n6 n7 n8 hr cs w u hua
    · exact fhistCanon_no a (wfF_of hw n7 n8) n5 n6 hr cs w u hua
def tidepolelaw10_FhistCanon.f (s0 z0 zc0 ct0 sm0 : Int) (l0_5 l0_6 : List Sp) (l0_7 l0_8 : List Int) : Option Bool := if wfG ⟨s0, z0, zc0, ct0, sm0, l0_5, l0_6, l0_7, l0_8⟩ then some true else none
theorem tidepolelaw10_FhistCanon.calls (s0 : Int) (z0 : Int) (zc0 : Int) (ct0 : Int) (sm0 : Int) (A0_5 : Option Addr) (c0_5 : Nat) (l0_5 : List Sp) (A0_6 : Option Addr) (c0_6 : Nat) (l0_6 : List Sp) (A0_7 : Option Addr) (c0_7 : Nat) (l0_7 : List Int) (A0_8 : Option Addr) (c0_8 : Nat) (l0_8 : List Int) (r : Bool) (w : World) (hr0_5 : Kd.C kSp w A0_5 l0_5.length l0_5) (hc0_5 : l0_5.length ≤ c0_5) (hr0_6 : Kd.C kSp w A0_6 l0_6.length l0_6) (hc0_6 : l0_6.length ≤ c0_6) (hr0_7 : Kd.C (Kd.int .u64) w A0_7 l0_7.length l0_7) (hc0_7 : l0_7.length ≤ c0_7) (hr0_8 : Kd.C (Kd.int .u64) w A0_8 l0_8.length l0_8) (hc0_8 : l0_8.length ≤ c0_8) (h : tidepolelaw10_FhistCanon.f s0 z0 zc0 ct0 sm0 l0_5 l0_6 l0_7 l0_8 = some r) :
    Calls Try.prog 27 #[.agg #[.int .i64 s0, .int .u64 z0, .int .u64 zc0, .int .u64 ct0, .int .u64 sm0, .slice A0_5 l0_5.length c0_5, .slice A0_6 l0_6.length c0_6, .slice A0_7 l0_7.length c0_7, .slice A0_8 l0_8.length c0_8]] w fun e w' => e = .returned (.bool r) ∧ Below w.heap.size w w' := by
  obtain ⟨q0, rfl⟩ := of_ite_some h
  exact fhistCanon_c _ q0 w _ (GI.mk (h := ⟨s0, z0, zc0, ct0, sm0, l0_5, l0_6, l0_7, l0_8⟩) (.of hr0_5 hc0_5) (.of hr0_6 hc0_6) (.of hr0_7 hc0_7) (.of hr0_8 hc0_8))
end Go.Proofs.Ytacgeafjilipdaa.P
namespace Go.Proofs.Ytacgeafjilipdaa.P
def headSigns : List Char := List.map Char.ofNat [104, 97, 114, 110, 101, 115, 115, 32, 97, 50, 97, 99, 52, 56, 53, 53, 54, 101, 54, 52, 97, 51, 49, 101, 54, 54, 98, 55, 102, 55, 97, 51, 54, 49, 102, 100, 52, 100, 51, 54, 55, 57, 100, 102, 98, 49, 97, 57, 53, 50, 101, 57, 54, 51, 55, 99, 57, 57, 56, 52, 48, 101, 100, 50, 99, 98, 97, 100, 54, 54, 50, 100, 32, 99, 117, 116, 32, 97, 116, 32, 116, 105, 100, 101, 112, 111, 108, 101, 47, 116, 105, 100, 101, 112, 111, 108, 101, 108, 97, 119, 48, 55, 46, 80, 97, 105, 114, 115, 85, 110, 122, 105, 112, 32, 116, 105, 100, 101, 112, 111, 108, 101, 47, 116, 105, 100, 101, 112, 111, 108, 101, 108, 97, 119, 48, 55, 46, 80, 97, 105, 114, 115, 70, 105, 110, 100, 115, 32, 116, 105, 100, 101, 112, 111, 108, 101, 47, 116, 105, 100, 101, 112, 111, 108, 101, 108, 97, 119, 48, 55, 46, 80, 97, 105, 114, 115, 77, 101, 114, 103, 101, 32, 116, 105, 100, 101, 112, 111, 108, 101, 47, 116, 105, 100, 101, 112, 111, 108, 101, 108, 97, 119, 48, 55, 46, 80, 97, 105, 114, 115, 90, 105, 112, 32, 116, 105, 100, 101, 112, 111, 108, 101, 47, 116, 105, 100, 101, 112, 111, 108, 101, 108, 97, 119, 48, 55, 46, 80, 97, 105, 114, 115, 68, 101, 108, 116, 97, 115, 32, 116, 105, 100, 101, 112, 111, 108, 101, 47, 116, 105, 100, 101, 112, 111, 108, 101, 108, 97, 119, 49, 49, 46, 82, 101, 115, 101, 116, 73, 110, 116, 115, 32, 116, 105, 100, 101, 112, 111, 108, 101, 47, 116, 105, 100, 101, 112, 111, 108, 101, 108, 97, 119, 49, 49, 46, 82, 101, 115, 101, 116, 70, 108, 111, 97, 116, 115, 32, 116, 105, 100, 101, 112, 111, 108, 101, 47, 116, 105, 100, 101, 112, 111, 108, 101, 108, 97, 119, 49, 49, 46, 82, 101, 115, 101, 116, 78, 97, 109, 101, 115, 32, 116, 105, 100, 101, 112, 111, 108, 101, 47, 116, 105, 100, 101, 112, 111, 108, 101, 108, 97, 119, 49, 49, 46, 82, 101, 115, 101, 116, 71, 111, 101, 115, 32, 116, 105, 100, 101, 112, 111, 108, 101, 47, 116, 105, 100, 101, 112, 111, 108, 101, 108, 97, 119, 49, 49, 46, 82, 101, 115, 101, 116, 66, 111, 116, 104, 32, 116, 105, 100, 101, 112, 111, 108, 101, 47, 116, 105, 100, 101, 112, 111, 108, 101, 108, 97, 119, 48, 57, 46, 72, 105, 115, 116, 67, 104, 101, 99, 107, 115, 32, 116, 105, 100, 101, 112, 111, 108, 101, 47, 116, 105, 100, 101, 112, 111, 108, 101, 108, 97, 119, 48, 57, 46, 72, 105, 115, 116, 80, 97, 105, 114, 115, 32, 116, 105, 100, 101, 112, 111, 108, 101, 47, 116, 105, 100, 101, 112, 111, 108, 101, 108, 97, 119, 48, 57, 46, 72, 105, 115, 116, 69, 113, 117, 97, 108, 32, 116, 105, 100, 101, 112, 111, 108, 101, 47, 116, 105, 100, 101, 112, 111, 108, 101, 108, 97, 119, 48, 57, 46, 72, 105, 115, 116, 79, 118, 101, 114, 32, 116, 105, 100, 101, 112, 111, 108, 101, 47, 116, 105, 100, 101, 112, 111, 108, 101, 108, 97, 119, 48, 57, 46, 72, 105, 115, 116, 77, 97, 107, 101, 115, 32, 116, 105, 100, 101, 112, 111, 108, 101, 47, 116, 105, 100, 101, 112, 111, 108, 101, 108, 97, 119, 48, 57, 46, 72, 105, 115, 116, 67, 97, 110, 111, 110, 32, 116, 105, 100, 101, 112, 111, 108, 101, 47, 116, 105, 100, 101, 112, 111, 108, 101, 108, 97, 119, 48, 57, 46, 72, 105, 115, 116, 87, 97, 108, 107, 115, 32, 116, 105, 100, 101, 112, 111, 108, 101, 47, 116, 105, 100, 101, 112, 111, 108, 101, 108, 97, 119, 49, 49, 46, 82, 101, 115, 101, 116, 76, 97, 121, 115, 32, 116, 105, 100, 101, 112, 111, 108, 101, 47, 116, 105, 100, 101, 112, 111, 108, 101, 108, 97, 119, 49, 48, 46, 70, 104, 105, 115, 116, 67, 104, 101, 99, 107, 115, 32, 116, 105, 100, 101, 112, 111, 108, 101, 47, 116, 105, 100, 101, 112, 111, 108, 101, 108, 97, 119, 49, 48, 46, 70, 104, 105, 115, 116, 80, 97, 105, 114, 115, 32, 116, 105, 100, 101, 112, 111, 108, 101, 47, 116, 105, 100, 101, 112, 111, 108, 101, 108, 97, 119, 49, 48, 46, 70, 104, 105, 115, 116, 69, 113, 117, 97, 108, 32, 116, 105, 100, 101, 112, 111, 108, 101, 47, 116, 105, 100, 101, 112, 111, 108, 101, 108, 97, 119, 49, 48, 46, 70, 104, 105, 115, 116, 79, 118, 101, 114, 32, 116, 105, 100, 101, 112, 111, 108, 101, 47, 116, 105, 100, 101, 112, 111, 108, 101, 108, 97, 119, 49, 48, 46, 70, 104, 105, 115, 116, 70, 108, 111, 97, 116, 115, 32, 116, 105, 100, 101, 112, 111, 108, 101, 47, 116, 105, 100, 101, 112, 111, 108, 101, 108, 97, 119, 49, 48, 46, 70, 104, 105, 115, 116, 77, 97, 107, 101, 115, 32, 116, 105, 100, 101, 112, 111, 108, 101, 47, 116, 105, 100, 101, 112, 111, 108, 101, 108, 97, 119, 49, 48, 46, 70, 104, 105, 115, 116, 67, 97, 110, 111, 110, 32, 116, 105, 100, 101, 112, 111, 108, 101, 47, 116, 105, 100, 101, 112, 111, 108, 101, 108, 97, 119, 49, 48, 46, 70, 104, 105, 115, 116, 66, 97, 99, 107, 32, 116, 105, 100, 101, 112, 111, 108, 101, 47, 116, 105, 100, 101, 112, 111, 108, 101, 108, 97, 119, 49, 48, 46, 70, 104, 105, 115, 116, 70, 114, 111, 109]
theorem head_is : Try.prog.initOrder = String.ofList headSigns := by kernel_rfl
theorem head_signs : Try.prog.initOrder.toList = headSigns := by rw [head_is]; exact String.toList_ofList
theorem head_first : (behindMainWord (wordsSigns headSigns)).head? = some "cut".toList := by kernel_rfl
theorem head_words : ∃ r, behindMainWord (wordsSigns headSigns) = "cut".toList :: r := by have h := head_first; cases h2 : behindMainWord (wordsSigns headSigns) with | nil => rw [h2] at h; cases h | cons c r => rw [h2] at h; injection h with h; exact ⟨r, by rw [h]⟩
theorem strip_cut (r : List (List Char)) : stripLifts liftWords ("cut".toList :: r) = ([], "cut".toList :: r) := by kernel_rfl
theorem head_lifts : Try.prog.headLifts = [] := by obtain ⟨r, hr⟩ := head_words; unfold Program.headLifts; rw [head_signs, hr, strip_cut]; kernel_rfl
theorem head_doorFits : Try.prog.doorFits [] = true := by kernel_rfl
theorem head_laysLater : Try.prog.laysLater = false := by kernel_rfl
theorem head_bearsReflect : Try.prog.bearsReflect = false := by kernel_rfl
theorem mayEnter_of {P : Program} {L : List Char} {r : List (List Char)} (h1 : P.initOrder.toList = L) (h2 : behindMainWord (wordsSigns L) = "cut".toList :: r) (h3 : P.doorFits [] = true) (h4 : P.laysLater = false) (h5 : P.bearsReflect = false) : P.mayEnter = true := by unfold Program.mayEnter; rw [h1, h2]; simp only [strip_cut, h3, h4, h5]; kernel_rfl
theorem head_mayEnter : Try.prog.mayEnter = true := by obtain ⟨r, hr⟩ := head_words; exact mayEnter_of head_signs hr head_doorFits head_laysLater head_bearsReflect
theorem head_liftsFinal : Try.prog.liftsFinal = false := by obtain ⟨r, hr⟩ := head_words; unfold Program.liftsFinal; rw [head_signs, head_lifts, hr]; kernel_rfl
theorem make_of {P : Program} {L : List Char} {r : List (List Char)} (h1 : P.initOrder.toList = L) (h2 : behindMainWord (wordsSigns L) = "cut".toList :: r) : P.make = some .cut := by unfold Program.make; rw [h1, h2]; kernel_rfl
theorem head_make : Try.prog.make = some .cut := by obtain ⟨r, hr⟩ := head_words; exact make_of head_signs hr
theorem head_laidOut : laidOutB Try.prog = true := by kernel_rfl
theorem head_mapsRowed : mapsRowed Try.prog = true := by kernel_rfl
theorem head_stops : (Try.prog.stops == []) = true := by kernel_rfl
theorem head_stopKnobs : (Try.prog.stopKnobs == []) = true := by kernel_rfl
theorem head_plainKeys : Try.prog.plainKeys = true := by kernel_rfl
theorem head_stopsHeard : Try.prog.stopsHeard = true := by kernel_rfl
end Go.Proofs.Ytacgeafjilipdaa.P
namespace Go.Proofs.Ytacgeafjilipdaa.Pure
open Go.RowKit Go.Proofs.Ytacgeafjilipdaa.P Go.Proofs.YtacgeafjilipdaaW.PrintWords
theorem FhistCanon : ∀ (x0 : S79), wf79 x0 → tidepolelaw10_FhistCanon.f x0.f0 x0.f1 x0.f2 x0.f3 x0.f4 x0.f5 x0.f6 x0.f7 x0.f8 = some true := fun _ h0 => if_pos (wfG_of h0)
end Go.Proofs.Ytacgeafjilipdaa.Pure
namespace Go.Proofs.Ytacgeafjilipdaa.fhistCanon
open Go.ChangeShapes Go.WideShapes Go.ChangeAt Go.RowKit Go.Proofs.Ytacgeafjilipdaa.P Go.Proofs.YtacgeafjilipdaaW.PrintWords
set_option linter.unusedVariables false
theorem own : ownKnob Try.prog.godebug = none := by kernel_rfl
theorem laidOut : laidOutB Try.prog = true := by kernel_rfl
set_option maxRecDepth 100000 in
set_option maxHeartbeats 4000000 in
theorem lifted (os : Os) (started : os.Started) (H : Type) (enc : TypeId × Value → H) :
    ReturnsInHanded {} Try.checked os 27 .any (Rows.fhistCanonSpec.pre6 enc Try.prog Try.f27 Rows.fhistCanonRow.domain false) (Rows.fhistCanonSpec.post enc Try.prog Try.f27 false true false false) := by
  refine returnsInHanded_of_change_sized (C := Try.checked) own started (by kernel_rfl) Try.func27
    (ChangeSpec.witness6 (enc := enc) (C := Try.checked) false ⟨#[], #[.agg #[.int .i64 0, .int .u64 0, .int .u64 0, .int .u64 0, .int .u64 0, .slice none 0 0, .slice none 0 0, .slice none 0 0, .slice none 0 0]], []⟩ 8 (by kernel_rfl) (by kernel_rfl) (by kernel_rfl) (by kernel_rfl)) ?_
  intro W base args ds gs before hval0 hW hcnd hsz0 _
  have hval : ∀ (j : Nat) t v, Try.f27.params[j]? = some t → args[j]? = some v → Value.okWide Try.prog W .any base t v := hval0
  have hW' := hW
  obtain ⟨p, q, hA0, hV, rfl, hfz, hnd⟩ := hW
  have hA : DataW.TrodAll enc Try.prog W 0 (fun _ => true) true Try.f27.params.toList args.toList ds p := hA0
  rw [Try.params27] at hA hval
  obtain ⟨v0, vs0, d0, ds0, p0, q0, hargs, rfl, rfl, h0, r0⟩ := trodAll_cons hA
  obtain ⟨rfl, rfl, rfl⟩ := trodAll_nil r0
  obtain rfl : args = #[v0] := by cases args; simp_all
  obtain ⟨rfl, rfl⟩ := trodVars_none hV
  have k0 := h0
  have lt0 : ∀ x ∈ p0, x.block < W.heap.size := by obtain ⟨m, hm⟩ := k0; exact DataW.trod_lt m _ _ _ hm
  obtain ⟨fu0, hf0⟩ := h0
  obtain ⟨x0, hK0, w0⟩ := opens79 enc W 0 _ true fu0 _ _ hf0
  obtain ⟨cs0, rfl, _⟩ := okWide_struct Try.underlying79 (hval 0 79 v0 rfl rfl)
  obtain ⟨A0_5, c0_5, A0_6, c0_6, A0_7, c0_7, A0_8, c0_8, he0, h0_5_l, hC0_5, h0_6_l, hC0_6, h0_7_l, hC0_7, h0_8_l, hC0_8⟩ := k79_open hK0
  obtain rfl : cs0 = #[.int .i64 x0.f0, .int .u64 x0.f1, .int .u64 x0.f2, .int .u64 x0.f3, .int .u64 x0.f4, .slice A0_5 x0.f5.length c0_5, .slice A0_6 x0.f6.length c0_6, .slice A0_7 x0.f7.length c0_7, .slice A0_8 x0.f8.length c0_8] := by
    have he : cs0.toList = _ := he0
    exact Array.toList_inj.1 he
  clear hA0 hval0 hsz0
  obtain hk := Pure.FhistCanon x0 w0
  refine (P.tidepolelaw10_FhistCanon.calls x0.f0 x0.f1 x0.f2 x0.f3 x0.f4 A0_5 c0_5 x0.f5 A0_6 c0_6 x0.f6 A0_7 c0_7 x0.f7 A0_8 c0_8 x0.f8 true W hC0_5 h0_5_l hC0_6 h0_6_l hC0_7 h0_7_l hC0_8 h0_8_l hk).mono fun e W' ⟨he, bel⟩ => ?_
  subst he
  exact ⟨_, rfl, _, _, _, [], _, [], hW', trodAll_mk1 (shut_bool Try.underlying4 _), (trodAll_cons_mk (Below.trod laidOut (by kernel_rfl) (of_decide_eq_true (by kernel_rfl)) k0 bel lt0) trodAll_mk0), rfl, bel.frame _, fun h => by cases h⟩
theorem cf0 : (Rows.fhistCanonRow.wf (OpenSpec.ofChange Rows.fhistCanonSpec)) = true := by kernel_rfl
theorem cf1 : (laidOutB Try.prog) = true := P.head_laidOut
theorem cf2 : (mapsRowed Try.prog) = true := P.head_mapsRowed
theorem cf3 : (Try.f27.params.all (Try.prog.readableRec ·)) = true := by kernel_rfl
theorem cf4 : (namedTie Try.prog Rows.fhistCanonRow.named Rows.fhistCanonSpec.vars) = true := by kernel_rfl
theorem cf5 : ((Rows.fhistCanonRow.stops == [])) = true := by kernel_rfl
theorem cf6 : ((Try.prog.stops == [])) = true := P.head_stops
theorem cf7 : ((Rows.fhistCanonRow.knobs == [])) = true := by kernel_rfl
theorem cf8 : ((Try.prog.stopKnobs == [])) = true := P.head_stopKnobs
theorem cf9 : ((Rows.fhistCanonRow.inPlace == Try.prog.inPlace 27)) = true := by kernel_rfl
theorem cf10 : ((Rows.fhistCanonRow.unfollowed == Try.prog.unfollowed 27)) = true := by kernel_rfl
theorem cf11 : ((Rows.fhistCanonRow.recurses == Try.prog.recurses 27)) = true := by kernel_rfl
theorem cf12 : ((Rows.fhistCanonRow.named == Try.prog.varsNamed 27)) = true := by kernel_rfl
theorem cf13 : ((Rows.fhistCanonRow.maps == (Try.f27.params.toList ++ Rows.fhistCanonSpec.plain.varTypes Try.prog).any (Try.prog.mapsRec ·))) = true := by kernel_rfl
theorem cf14 : ((Rows.fhistCanonRow.ifaces == (Try.f27.params.toList ++ Rows.fhistCanonSpec.plain.varTypes Try.prog).any (Try.prog.ifacesRec ·))) = true := by kernel_rfl
theorem cf15 : ((Rows.fhistCanonRow.mapsOut == Try.prog.mapsAmong Try.f27.resultTypes.toList)) = true := by kernel_rfl
theorem cf16 : ((Rows.fhistCanonRow.loops == (Try.f27.params.toList ++ Rows.fhistCanonSpec.plain.varTypes Try.prog).any (Try.prog.loopsFrom ·))) = true := by kernel_rfl
theorem cf17 : ((Rows.fhistCanonRow.wideKeys == (Try.f27.params.toList ++ Rows.fhistCanonSpec.plain.varTypes Try.prog ++ Try.f27.resultTypes.toList).any (Try.prog.wideKeysFrom ·))) = true := by kernel_rfl
theorem cf18 : (Rows.fhistCanonSpec.vars.all (Try.prog.varReadable ·)) = true := by kernel_rfl
theorem cf19 : (Try.f27.resultTypes.all (fun t => Try.prog.readableRec t && decide (t < Try.prog.types.size))) = true := by kernel_rfl
theorem cf20 : ((Rows.fhistCanonRow.ifacesOut == Try.f27.resultTypes.toList.any (Try.prog.ifacesRec ·))) = true := by kernel_rfl
theorem cf21 : ((Rows.fhistCanonRow.loopsOut == Try.f27.resultTypes.toList.any (Try.prog.loopsFrom ·))) = true := by kernel_rfl
theorem cf22 : ((Rows.fhistCanonRow.plainKeys == Try.prog.plainKeys)) = true := by rw [P.head_plainKeys]; kernel_rfl
theorem cf23 : (Rows.fhistCanonRow.shortTexts.isNone) = true := by kernel_rfl
theorem cf24 : (Try.prog.stopsHeard) = true := P.head_stopsHeard
theorem cf25 : (Try.prog.mayEnter) = true := P.head_mayEnter
theorem cf26 : ((Rows.fhistCanonRow.lifted == Try.prog.liftsFinal)) = true := by rw [P.head_liftsFinal]; kernel_rfl
theorem cf27 : ((Try.prog.make == some Rows.fhistCanonRow.make)) = true := by rw [P.head_make]; kernel_rfl
theorem cf28 : ((Rows.fhistCanonRow.kinds == (if Rows.fhistCanonRow.domain.isEmpty then [] else Try.f27.params.toList.map fun t => match Try.prog.underlying t with | some (.int k) => some k | _ => none))) = true := by kernel_rfl
theorem cf29 : ((Rows.fhistCanonRow.pinned == Rows.fhistCanonRow.pinnedBy)) = true := by kernel_rfl
theorem cf30 : ((Rows.fhistCanonRow.veiled == (Try.f27.params.toList ++ Rows.fhistCanonSpec.plain.varTypes Try.prog ++ Try.f27.resultTypes.toList).any (Try.prog.veiledRec ·))) = true := by kernel_rfl
theorem cf31 : (Rows.fhistCanonRow.veiledFits Try.prog Try.f27.params.toList (Try.f27.params.toList ++ Rows.fhistCanonSpec.plain.varTypes Try.prog ++ Try.f27.resultTypes.toList)) = true := by kernel_rfl
theorem band_mk {a b : Bool} (h : a = true) (k : b = true) : (a && b) = true := by rw [h, k]; rfl
theorem closed : joinedFacts Try.prog 27 Try.f27 Rows.fhistCanonSpec Rows.fhistCanonRow = true := by unfold joinedFacts; exact (band_mk (band_mk (band_mk (band_mk (band_mk (band_mk (band_mk (band_mk (band_mk (band_mk (band_mk (band_mk (band_mk (band_mk (band_mk (band_mk (band_mk (band_mk (band_mk (band_mk (band_mk (band_mk (band_mk (band_mk (band_mk (band_mk (band_mk (band_mk (band_mk (band_mk (band_mk cf0 cf1) cf2) cf3) cf4) cf5) cf6) cf7) cf8) cf9) cf10) cf11) cf12) cf13) cf14) cf15) cf16) cf17) cf18) cf19) cf20) cf21) cf22) cf23) cf24) cf25) cf26) cf27) (by kernel_rfl)) cf29) cf30) cf31)
theorem over : Rows.fhistCanonRow.holds Try.pinned (OpenSpec.ofChange Rows.fhistCanonSpec) :=
  OpenClaim.holds_of_wide 27 Try.f27 rfl rfl rfl rfl rfl rfl rfl ⟨rfl, rfl, rfl, rfl, rfl⟩ rfl rfl rfl rfl rfl (by kernel_rfl) Try.func27 closed
    (of_decide_eq_true (by kernel_rfl)) (by unfold Func.isWrapper; first | (rw [if_pos (by decide +kernel)]; kernel_rfl) | (rw [if_neg (by decide +kernel)]; exact ⟨rfl, rfl⟩))
    (fun os started H enc _ => lifted os started H enc)
theorem proved : Rows.FhistCanonSaid := over
#print axioms proved
end Go.Proofs.Ytacgeafjilipdaa.fhistCanon
namespace Go.Proofs.Ytacgeafjilipdaa
theorem fhistCanon_holds : Rows.FhistCanonSaid := fhistCanon.proved
end Go.Proofs.Ytacgeafjilipdaa
