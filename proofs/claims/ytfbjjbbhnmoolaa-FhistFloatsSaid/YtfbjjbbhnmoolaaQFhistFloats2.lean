/- FhistFloats: the part that this text bears of the proof that the statement answers true for every input. No condition. -/
import Derived.Test.YtfbjjbbhnmoolaaProg
import Derived.Below
import Derived.Deep.Draws
import Derived.Deep.AppendLies
import Derived.Maps.AppendAt
import Derived.OwnWalk
import Derived.Laws.BytesArg
import Derived.Laws.MakeOwn
import Derived.Laws.OwnMore
import Derived.Deep.OwnRows
import Derived.Tactics
import Derived.Lib.ConvBytes
import Derived.Laws.Slices
import Derived.WalkKit
import Derived.KernelRfl
import Derived.RowKit3
import Derived.Deep.LoopGhost
import Derived.Deep.QuietTactic
import Derived.BigQuiet
import Derived.WideLaws
import Derived.Deep.DeepCutAuto
import Derived.Deep.CutBlock
import Derived.Deep.RegionHeld3
import Derived.Laws.Rows
import Derived.Lib.AppendStr
import Derived.ArgAppend
import Derived.Laws.IdiomCopy
import Derived.OrdersHeld
import Derived.Laws.BitsLemmas
import Derived.RowKit
import Derived.Deep.Slices
import Derived.ChangeArms
import Derived.Shelf.Abstract
import Derived.WalkSpells
import Derived.RangeFuncNested
import Derived.RangeFuncBound
import Derived.RangeFuncCalls
import Derived.RangeFuncLeaves
import Derived.RangeFuncBox
import Derived.OwnWalkIn
import Derived.TacticsInMore
import Derived.LoopNIn
import Derived.LoopIn
import Derived.RegionIn
import Derived.Sort.QuietTacIn
import Derived.Deep.RegionWith
import Derived.ChangeKeysEq
import Derived.Great.Frames
import Derived.Laws.Externs
import Derived.Laws.FloatArith
import Derived.ProofKit
import Derived.JoinedOf
import Derived.Laws.BitsAllLaws
import Derived.Laws.StructEq
import Derived.Shelf.Spec.BitsCarry
import Derived.Test.YtfbjjbbhnmoolaaQFhistFloatsWWords
import Derived.Test.YtfbjjbbhnmoolaaQFhistFloatsWLast
import Derived.Test.YtfbjjbbhnmoolaaQFhistFloatsWTab
import Derived.Test.YtfbjjbbhnmoolaaQFhistFloatsWFour
import Derived.Test.YtfbjjbbhnmoolaaQFhistFloatsWQPut
import Derived.Test.YtfbjjbbhnmoolaaQFhistFloatsWApart
import Derived.Test.YtfbjjbbhnmoolaaQFhistFloatsWArr
import Derived.Test.YtfbjjbbhnmoolaaQFhistFloatsWZeros
import Derived.Test.YtfbjjbbhnmoolaaQFhistFloatsWFoot
import Derived.Test.YtfbjjbbhnmoolaaQFhistFloatsWKept
import Derived.Test.YtfbjjbbhnmoolaaQFhistFloatsWShare
import Derived.Test.YtfbjjbbhnmoolaaQFhistFloatsWN
import Derived.Test.YtfbjjbbhnmoolaaQFhistFloatsWFootNe
import Derived.Test.YtfbjjbbhnmoolaaQFhistFloatsWAt
import Derived.Test.YtfbjjbbhnmoolaaQFhistFloatsWEqStruct
import Derived.Test.YtfbjjbbhnmoolaaQFhistFloatsWRepsOne
import Derived.Test.YtfbjjbbhnmoolaaQFhistFloatsWInv
import Derived.Test.YtfbjjbbhnmoolaaQFhistFloatsWInvWords
import Derived.Test.YtfbjjbbhnmoolaaQFhistFloatsWGuard
import Derived.Test.YtfbjjbbhnmoolaaQFhistFloatsWNEv
import Derived.Test.YtfbjjbbhnmoolaaQFhistFloatsWMore
import Derived.Test.YtfbjjbbhnmoolaaRows
import Derived.Test.YtfbjjbbhnmoolaaQFhistFloats0
import Derived.Test.YtfbjjbbhnmoolaaQFhistFloats1
set_option linter.unusedVariables false
set_option linter.unusedSimpArgs false
namespace Go.Proofs.Ytfbjjbbhnmoolaa.P
open Go.RowKit Go.Shelf Go.Proofs.YtfbjjbbhnmoolaaW.PrintWords Go.Proofs.YtfbjjbbhnmoolaaW.PrintLast Go.Proofs.YtfbjjbbhnmoolaaW.PrintMore
theorem wrapU_inj {x y : Int} (hx : i64 x) (hy : i64 y) (h : IntKind.u64.wrap x = IntKind.u64.wrap y) : x = y := by
  simp only [IntKind.wrap_u64] at h
  obtain ⟨h1, h2⟩ := hx
  obtain ⟨h3, h4⟩ := hy
  omega
theorem run_eqItems_one {P : Program} (d : Nat) (e : TypeId) (hu : P.underlying e = some (.int .u64)) (hc : P.cellsOf e = 1) (xs ys : List Int) (W : World) : ∀ (is : List Nat), (∀ i ∈ is, i < xs.length ∧ i < ys.length) →
    (Op.eqItems (d + 1) e 1 (xs.map (Value.int .u64)).toArray (ys.map (Value.int .u64)).toArray is).run P W = .ok (is.all fun i => xs.getD i 0 == ys.getD i 0) W
  | [], _ => by simp [Op.eqItems]
  | i :: is, h => by
    have hi := h i (List.mem_cons_self ..)
    have ih := run_eqItems_one d e hu hc xs ys W is (fun j hj => h j (List.mem_cons_of_mem _ hj))
    have hp : ∀ (zs : List Int), i < zs.length → (part e (zs.map (Value.int .u64)).toArray (i * 1)).run P W = .ok (.int .u64 (zs.getD i 0)) W := fun zs hz => by
      rw [Nat.mul_one]
      have ha : (isAgg e).run P W = .ok false W := by simp [isAgg, run_underlying hu]
      simp [part, ha, hz, List.getD]
    simp only [Op.eqItems, Sem.run_bind, hp xs hi.1, hp ys hi.2, Result.andThen_ok, run_equalIn_int W d e .u64 .u64 _ _ hu, List.all_cons]
    cases hq : (xs.getD i 0 == ys.getD i 0) with
    | true => simp [ih]
    | false => simp
set_option maxRecDepth 100000 in
theorem eq5_run (a b : Fh) (ia : i64 a.f0) (ib : i64 b.f0) (W : World) : (Op.equalIn 10000 172 (.agg #[.int .u64 (IntKind.u64.wrap a.f0), .int .u64 a.f1, .int .u64 a.f2, .int .u64 a.f3, .int .u64 a.f4]) (.agg #[.int .u64 (IntKind.u64.wrap b.f0), .int .u64 b.f1, .int .u64 b.f2, .int .u64 b.f3, .int .u64 b.f4])).run Try.prog W = .ok (decide (sameNumsF a b)) W := by
  have hie : (Try.prog.info? 22).isSome = true := by kernel_rfl
  obtain ⟨i0, hi⟩ := Option.isSome_iff_exists.1 hie
  have hc : Try.prog.cellsOf 22 = 1 := by kernel_rfl
  rw [run_equalIn_array W 9999 _ _ Try.underlying172 hi, hc]
  have := run_eqItems_one (P := Try.prog) 9998 22 Try.underlying22 hc [IntKind.u64.wrap a.f0, a.f1, a.f2, a.f3, a.f4] [IntKind.u64.wrap b.f0, b.f1, b.f2, b.f3, b.f4] W (List.range 5) (by intro i hi; rw [List.mem_range] at hi; exact ⟨hi, hi⟩)
  refine this.trans ?_
  congr 1
  rw [Bool.eq_iff_iff, decide_eq_true_eq]
  rw [show List.range 5 = [0, 1, 2, 3, 4] from rfl]
  simp only [List.all_cons, List.all_nil, Bool.and_true, Bool.and_eq_true, beq_iff_eq, List.getD_cons_zero, List.getD_cons_succ]
  unfold sameNumsF
  constructor
  · rintro ⟨h0, h1, h2, h3, h4⟩; exact ⟨wrapU_inj ia ib h0, h1, h2, h3, h4⟩
  · rintro ⟨h0, h1, h2, h3, h4⟩; exact ⟨by rw [h0], h1, h2, h3, h4⟩
theorem numbersF_c (h : Fh) (w : World) (v : Value) (hv : GI w v h) : Calls Try.prog 117 #[v] w fun e w' => e = .returned (.agg #[.int .u64 (IntKind.u64.wrap h.f0), .int .u64 h.f1, .int .u64 h.f2, .int .u64 h.f3, .int .u64 h.f4]) ∧ Below w.heap.size w w' := by
  have hud := Try.underlying31
  have hut := Try.underlying172
  obtain ⟨A5, c5, A6, c6, A7, c7, A8, c8, e, -⟩ := hv.open_
  subst e
  have X := Aside0.mk ((Blk.new w #[.int .i64 h.f0, .int .u64 h.f1, .int .u64 h.f2, .int .u64 h.f3, .int .u64 h.f4, .slice A5 h.f5.length c5, .slice A6 h.f6.length c6, .slice A7 h.f7.length c7, .slice A8 h.f8.length c8] 31).alloc (.cells #[.int .u64 0, .int .u64 0, .int .u64 0, .int .u64 0, .int .u64 0] 172))
  have hx := fun i => X.out.cell i
  clear hv
  go_enter Try.func117, Try.ntmps117
  go_wp2
  refine bodyPost_ret (results_cell_row rfl _ _ (w.heap.size + 1) 172 #[.int .u64 (IntKind.u64.wrap h.f0), .int .u64 h.f1, .int .u64 h.f2, .int .u64 h.f3, .int .u64 h.f4] (0, 0) _ rfl (Blk.at1 (w := w) (.cells #[.int .i64 h.f0, .int .u64 h.f1, .int .u64 h.f2, .int .u64 h.f3, .int .u64 h.f4, .slice A5 h.f5.length c5, .slice A6 h.f6.length c6, .slice A7 h.f7.length c7, .slice A8 h.f8.length c8] 31) #[.int .u64 (IntKind.u64.wrap h.f0), .int .u64 h.f1, .int .u64 h.f2, .int .u64 h.f3, .int .u64 h.f4] 172) Try.underlying172 rfl (by kernel_rfl)) rfl ?_
  exact ⟨rfl, below_alloc (below_alloc (Below.refl _ _) _) _⟩
theorem equalPu_c (a b : List Pu) (hm : a.length < 17592186044416) (w : World) (u v : Value) (hu : SI kPu w u a) (hv : SI kPu w v b) : Calls Try.prog 118 #[u, v] w fun e w' => e = .returned (.bool (decide (a = b))) ∧ Below w.heap.size w w' := by
  obtain ⟨A, c, rfl, hc, hr⟩ := hu
  obtain ⟨B, d, rfl, hd, hs⟩ := hv
  exact (pairs_Equal_uint64.calls (a.length + 1) A c a B d b _ w hr hc hs hd (equalPu_eq a b hm _ (by omega))).mono fun e w1 h => ⟨h.1, h.2.below⟩
set_option maxHeartbeats 32000000 in
set_option maxRecDepth 100000 in
theorem fequal_c (a b : Fh) (hwa : wfF a) (hwb : wfF b) (w : World) (u v : Value) (hu : GI w u a) (hv : GI w v b) : Calls Try.prog 90 #[u, v] w fun e w' =>
    e = .returned (.bool (equalF a b)) ∧ Below w.heap.size w w' := by
  have hud := Try.underlying31
  have hut := Try.underlying172
  have ia := hwa.1
  have ib := hwb.1
  have oa := fopen_c a hwa
  have ob := fopen_c b hwb
  have na := numbersF_c a
  have nb := numbersF_c b
  have ra := openF_row hwa
  have rb := openF_row hwb
  have wp := withoutU_c (openF a).1 (by have := ra.1.len; omega)
  have wn := withoutU_c (openF a).2.1 (by have := ra.2.len; omega)
  have wq := withoutU_c (openF b).1 (by have := rb.1.len; omega)
  have wm := withoutU_c (openF b).2.1 (by have := rb.2.len; omega)
  have ep := equalPu_c (some0U (openF a).1) (some0U (openF b).1) (by have := ra.1.len; have := List.length_filter_le (fun x : Pu => !(x.f1 == 0)) (openF a).1; unfold some0U; omega)
  have en := equalPu_c (some0U (openF a).2.1) (some0U (openF b).2.1) (by have := ra.2.len; have := List.length_filter_le (fun x : Pu => !(x.f1 == 0)) (openF a).2.1; unfold some0U; omega)
  clear hwa hwb ra rb
  obtain ⟨r, hr⟩ : ∃ r, r = equalF a b := ⟨_, rfl⟩
  rw [← hr]
  unfold equalF checkF at hr
  generalize decide (some0U (openF a).1 = some0U (openF b).1) = b1 at *
  generalize decide (some0U (openF a).2.1 = some0U (openF b).2.1) = b2 at *
  generalize some0U (openF a).1 = sp at *
  generalize some0U (openF a).2.1 = sn at *
  generalize some0U (openF b).1 = sq at *
  generalize some0U (openF b).2.1 = sm at *
  generalize openF a = o1 at *
  generalize openF b = o2 at *
  obtain ⟨p, n, ea⟩ := o1
  obtain ⟨q, m, eb⟩ := o2
  simp only at oa ob wp wn wq wm hr
  have HR := Aside0.mk hr
  have OA := Aside0.mk oa
  have OB := Aside0.mk ob
  have NA := Aside0.mk na
  have NB := Aside0.mk nb
  have WP := Aside0.mk wp
  have WN := Aside0.mk wn
  have WQ := Aside0.mk wq
  have WM := Aside0.mk wm
  have EP := Aside0.mk ep
  have EN := Aside0.mk en
  clear hr oa ob na nb wp wn wq wm ep en
  obtain ⟨A5a, c5a, A6a, c6a, A7a, c7a, A8a, c8a, e, -⟩ := hu.open_
  subst e
  obtain ⟨A5b, c5b, A6b, c6b, A7b, c7b, A8b, c8b, e, -⟩ := hv.open_
  subst e
  have B := Aside0.mk (below_alloc (below_alloc (Below.refl w.heap.size w) (.cells #[.int .i64 a.f0, .int .u64 a.f1, .int .u64 a.f2, .int .u64 a.f3, .int .u64 a.f4, .slice A5a a.f5.length c5a, .slice A6a a.f6.length c6a, .slice A7a a.f7.length c7a, .slice A8a a.f8.length c8a] 31)) (.cells #[.int .i64 b.f0, .int .u64 b.f1, .int .u64 b.f2, .int .u64 b.f3, .int .u64 b.f4, .slice A5b b.f5.length c5b, .slice A6b b.f6.length c6b, .slice A7b b.f7.length c7b, .slice A8b b.f8.length c8b] 31))
  have X := Aside0.mk ((Blk.new w #[.int .i64 a.f0, .int .u64 a.f1, .int .u64 a.f2, .int .u64 a.f3, .int .u64 a.f4, .slice A5a a.f5.length c5a, .slice A6a a.f6.length c6a, .slice A7a a.f7.length c7a, .slice A8a a.f8.length c8a] 31).alloc (.cells #[.int .i64 b.f0, .int .u64 b.f1, .int .u64 b.f2, .int .u64 b.f3, .int .u64 b.f4, .slice A5b b.f5.length c5b, .slice A6b b.f6.length c6b, .slice A7b b.f7.length c7b, .slice A8b b.f8.length c8b] 31))
  have Y := Aside0.mk (Blk.at1 (w := w) (.cells #[.int .i64 a.f0, .int .u64 a.f1, .int .u64 a.f2, .int .u64 a.f3, .int .u64 a.f4, .slice A5a a.f5.length c5a, .slice A6a a.f6.length c6a, .slice A7a a.f7.length c7a, .slice A8a a.f8.length c8a] 31) #[.int .i64 b.f0, .int .u64 b.f1, .int .u64 b.f2, .int .u64 b.f3, .int .u64 b.f4, .slice A5b b.f5.length c5b, .slice A6b b.f6.length c6b, .slice A7b b.f7.length c7b, .slice A8b b.f8.length c8b] 31)
  have hx := fun i => X.out.cell i
  have hy := fun i => Y.out.cell i
  have HA := Aside0.mk (hu.below B.out)
  have HC := Aside0.mk (hv.below B.out)
  clear hu hv
  by_cases c1 : ea = 0
  rotate_left
  · have hr : r = false := by rw [HR.out, decide_eq_false c1]; simp
    subst hr
    have d1 : (ea != 0) = true := bne_iff_ne.2 c1
    clear c1
    go_enter Try.func90, Try.ntmps90
    go_wp2_with (first | (go_at_call 101; (with_reducible refine (OA.out _ _ HA.out).mono ?_); rintro e W1 ⟨v0, v1, rfl, h0, h1, hb⟩; replace B := Aside0.mk (below_then B.out B.out.size hb); replace HA := Aside0.mk (HA.out.below hb); replace HC := Aside0.mk (HC.out.below hb); replace X := Aside0.mk (X.out.below hb); replace hx := fun i => X.out.cell i; replace Y := Aside0.mk (Y.out.below hb); replace hy := fun i => Y.out.cell i; have P := Aside0.mk h0; have N := Aside0.mk h1; clear h0 h1 hb) | (go_at_call 101; (with_reducible refine (OB.out _ _ HC.out).mono ?_); rintro e W2 ⟨v2, v3, rfl, h0, h1, hb⟩; replace B := Aside0.mk (below_then B.out B.out.size hb); replace HA := Aside0.mk (HA.out.below hb); replace HC := Aside0.mk (HC.out.below hb); replace P := Aside0.mk (P.out.below hb); replace N := Aside0.mk (N.out.below hb); replace X := Aside0.mk (X.out.below hb); replace hx := fun i => X.out.cell i; replace Y := Aside0.mk (Y.out.below hb); replace hy := fun i => Y.out.cell i; have Q := Aside0.mk h0; have M := Aside0.mk h1; clear h0 h1 hb))
    replace HA := Aside0.mk (HA.out.below (below_drew (Below.refl _ _)))
    replace HC := Aside0.mk (HC.out.below (below_drew (Below.refl _ _)))
    replace P := Aside0.mk (P.out.below (below_drew (Below.refl _ _)))
    replace N := Aside0.mk (N.out.below (below_drew (Below.refl _ _)))
    replace Q := Aside0.mk (Q.out.below (below_drew (Below.refl _ _)))
    replace M := Aside0.mk (M.out.below (below_drew (Below.refl _ _)))
    replace X := Aside0.mk (X.out.below (below_drew (Below.refl _ _)))
    replace Y := Aside0.mk (Y.out.below (below_drew (Below.refl _ _)))
    replace B := Aside0.mk (below_drew B.out)
    go_region
    all_goals go_wp2
    all_goals go_ret
    all_goals exact ⟨rfl, B.out⟩
  subst c1
  by_cases c2 : eb = 0
  rotate_left
  · have hr : r = false := by rw [HR.out, decide_eq_false c2]; simp
    subst hr
    have d1 : (eb != 0) = true := bne_iff_ne.2 c2
    clear c2
    go_enter Try.func90, Try.ntmps90
    go_wp2_with (first | (go_at_call 101; (with_reducible refine (OA.out _ _ HA.out).mono ?_); rintro e W1 ⟨v0, v1, rfl, h0, h1, hb⟩; replace B := Aside0.mk (below_then B.out B.out.size hb); replace HA := Aside0.mk (HA.out.below hb); replace HC := Aside0.mk (HC.out.below hb); replace X := Aside0.mk (X.out.below hb); replace hx := fun i => X.out.cell i; replace Y := Aside0.mk (Y.out.below hb); replace hy := fun i => Y.out.cell i; have P := Aside0.mk h0; have N := Aside0.mk h1; clear h0 h1 hb) | (go_at_call 101; (with_reducible refine (OB.out _ _ HC.out).mono ?_); rintro e W2 ⟨v2, v3, rfl, h0, h1, hb⟩; replace B := Aside0.mk (below_then B.out B.out.size hb); replace HA := Aside0.mk (HA.out.below hb); replace HC := Aside0.mk (HC.out.below hb); replace P := Aside0.mk (P.out.below hb); replace N := Aside0.mk (N.out.below hb); replace X := Aside0.mk (X.out.below hb); replace hx := fun i => X.out.cell i; replace Y := Aside0.mk (Y.out.below hb); replace hy := fun i => Y.out.cell i; have Q := Aside0.mk h0; have M := Aside0.mk h1; clear h0 h1 hb))
    replace HA := Aside0.mk (HA.out.below (below_drew (Below.refl _ _)))
    replace HC := Aside0.mk (HC.out.below (below_drew (Below.refl _ _)))
    replace P := Aside0.mk (P.out.below (below_drew (Below.refl _ _)))
    replace N := Aside0.mk (N.out.below (below_drew (Below.refl _ _)))
    replace Q := Aside0.mk (Q.out.below (below_drew (Below.refl _ _)))
    replace M := Aside0.mk (M.out.below (below_drew (Below.refl _ _)))
    replace X := Aside0.mk (X.out.below (below_drew (Below.refl _ _)))
    replace Y := Aside0.mk (Y.out.below (below_drew (Below.refl _ _)))
    replace B := Aside0.mk (below_drew B.out)
    go_region
    all_goals go_wp2
    all_goals go_ret
    all_goals exact ⟨rfl, B.out⟩
  subst c2
  have hq := eq5_run a b ia ib
  by_cases hs : sameNumsF a b
  rotate_left
  · have hr : r = false := by rw [HR.out, decide_eq_false hs]; simp
    subst hr
    rw [decide_eq_false hs] at hq
    clear hs
    go_enter Try.func90, Try.ntmps90
    go_wp2_with (first | (go_at_call 101; (with_reducible refine (OA.out _ _ HA.out).mono ?_); rintro e W1 ⟨v0, v1, rfl, h0, h1, hb⟩; replace B := Aside0.mk (below_then B.out B.out.size hb); replace HA := Aside0.mk (HA.out.below hb); replace HC := Aside0.mk (HC.out.below hb); replace X := Aside0.mk (X.out.below hb); replace hx := fun i => X.out.cell i; replace Y := Aside0.mk (Y.out.below hb); replace hy := fun i => Y.out.cell i; have P := Aside0.mk h0; have N := Aside0.mk h1; clear h0 h1 hb) | (go_at_call 101; (with_reducible refine (OB.out _ _ HC.out).mono ?_); rintro e W2 ⟨v2, v3, rfl, h0, h1, hb⟩; replace B := Aside0.mk (below_then B.out B.out.size hb); replace HA := Aside0.mk (HA.out.below hb); replace HC := Aside0.mk (HC.out.below hb); replace P := Aside0.mk (P.out.below hb); replace N := Aside0.mk (N.out.below hb); replace X := Aside0.mk (X.out.below hb); replace hx := fun i => X.out.cell i; replace Y := Aside0.mk (Y.out.below hb); replace hy := fun i => Y.out.cell i; have Q := Aside0.mk h0; have M := Aside0.mk h1; clear h0 h1 hb))
    replace HA := Aside0.mk (HA.out.below (below_drew (Below.refl _ _)))
    replace HC := Aside0.mk (HC.out.below (below_drew (Below.refl _ _)))
    replace P := Aside0.mk (P.out.below (below_drew (Below.refl _ _)))
    replace N := Aside0.mk (N.out.below (below_drew (Below.refl _ _)))
    replace Q := Aside0.mk (Q.out.below (below_drew (Below.refl _ _)))
    replace M := Aside0.mk (M.out.below (below_drew (Below.refl _ _)))
    replace X := Aside0.mk (X.out.below (below_drew (Below.refl _ _)))
    replace Y := Aside0.mk (Y.out.below (below_drew (Below.refl _ _)))
    replace B := Aside0.mk (below_drew B.out)
    go_region_held3 (fun W => (∀ i, W.cell? ⟨w.heap.size, i, none⟩ = (#[.int .i64 a.f0, .int .u64 a.f1, .int .u64 a.f2, .int .u64 a.f3, .int .u64 a.f4, .slice A5a a.f5.length c5a, .slice A6a a.f6.length c6a, .slice A7a a.f7.length c7a, .slice A8a a.f8.length c8a] : Array Value)[i]?) ∧ (∀ i, W.cell? ⟨w.heap.size + 1, i, none⟩ = (#[.int .i64 b.f0, .int .u64 b.f1, .int .u64 b.f2, .int .u64 b.f3, .int .u64 b.f4, .slice A5b b.f5.length c5b, .slice A6b b.f6.length c6b, .slice A7b b.f7.length c7b, .slice A8b b.f8.length c8b] : Array Value)[i]?)) (exact ⟨fun i => X.out.cell i, fun i => Y.out.cell i⟩) (first | (go_at_call 117; (with_reducible refine (NA.out _ _ HA.out).mono ?_); rintro e W3 ⟨rfl, hb⟩; replace B := Aside0.mk (below_then B.out B.out.size hb); replace HA := Aside0.mk (HA.out.below hb); replace HC := Aside0.mk (HC.out.below hb); replace P := Aside0.mk (P.out.below hb); replace N := Aside0.mk (N.out.below hb); replace Q := Aside0.mk (Q.out.below hb); replace M := Aside0.mk (M.out.below hb); replace X := Aside0.mk (X.out.below hb); replace hx := fun i => X.out.cell i; replace Y := Aside0.mk (Y.out.below hb); replace hy := fun i => Y.out.cell i; clear  hb) | (go_at_call 117; (with_reducible refine (NB.out _ _ HC.out).mono ?_); rintro e W4 ⟨rfl, hb⟩; replace B := Aside0.mk (below_then B.out B.out.size hb); replace HA := Aside0.mk (HA.out.below hb); replace HC := Aside0.mk (HC.out.below hb); replace P := Aside0.mk (P.out.below hb); replace N := Aside0.mk (N.out.below hb); replace Q := Aside0.mk (Q.out.below hb); replace M := Aside0.mk (M.out.below hb); replace X := Aside0.mk (X.out.below hb); replace hx := fun i => X.out.cell i; replace Y := Aside0.mk (Y.out.below hb); replace hy := fun i => Y.out.cell i; clear  hb))
    all_goals go_wp2
    all_goals go_ret
    all_goals exact ⟨rfl, B.out⟩
  have HS := Aside0.mk hs
  rw [decide_eq_true hs] at hq
  clear hs
  have hr : r = (b1 && b2) := by rw [HR.out, decide_eq_true HS.out]; simp
  cases b1 with
  | false =>
    rw [Bool.false_and] at hr
    subst hr
    go_enter Try.func90, Try.ntmps90
    go_wp2_with (first | (go_at_call 101; (with_reducible refine (OA.out _ _ HA.out).mono ?_); rintro e W1 ⟨v0, v1, rfl, h0, h1, hb⟩; replace B := Aside0.mk (below_then B.out B.out.size hb); replace HA := Aside0.mk (HA.out.below hb); replace HC := Aside0.mk (HC.out.below hb); replace X := Aside0.mk (X.out.below hb); replace hx := fun i => X.out.cell i; replace Y := Aside0.mk (Y.out.below hb); replace hy := fun i => Y.out.cell i; have P := Aside0.mk h0; have N := Aside0.mk h1; clear h0 h1 hb) | (go_at_call 101; (with_reducible refine (OB.out _ _ HC.out).mono ?_); rintro e W2 ⟨v2, v3, rfl, h0, h1, hb⟩; replace B := Aside0.mk (below_then B.out B.out.size hb); replace HA := Aside0.mk (HA.out.below hb); replace HC := Aside0.mk (HC.out.below hb); replace P := Aside0.mk (P.out.below hb); replace N := Aside0.mk (N.out.below hb); replace X := Aside0.mk (X.out.below hb); replace hx := fun i => X.out.cell i; replace Y := Aside0.mk (Y.out.below hb); replace hy := fun i => Y.out.cell i; have Q := Aside0.mk h0; have M := Aside0.mk h1; clear h0 h1 hb))
    replace HA := Aside0.mk (HA.out.below (below_drew (Below.refl _ _)))
    replace HC := Aside0.mk (HC.out.below (below_drew (Below.refl _ _)))
    replace P := Aside0.mk (P.out.below (below_drew (Below.refl _ _)))
    replace N := Aside0.mk (N.out.below (below_drew (Below.refl _ _)))
    replace Q := Aside0.mk (Q.out.below (below_drew (Below.refl _ _)))
    replace M := Aside0.mk (M.out.below (below_drew (Below.refl _ _)))
    replace X := Aside0.mk (X.out.below (below_drew (Below.refl _ _)))
    replace Y := Aside0.mk (Y.out.below (below_drew (Below.refl _ _)))
    replace B := Aside0.mk (below_drew B.out)
    go_region_held3 (fun W => (∀ i, W.cell? ⟨w.heap.size, i, none⟩ = (#[.int .i64 a.f0, .int .u64 a.f1, .int .u64 a.f2, .int .u64 a.f3, .int .u64 a.f4, .slice A5a a.f5.length c5a, .slice A6a a.f6.length c6a, .slice A7a a.f7.length c7a, .slice A8a a.f8.length c8a] : Array Value)[i]?) ∧ (∀ i, W.cell? ⟨w.heap.size + 1, i, none⟩ = (#[.int .i64 b.f0, .int .u64 b.f1, .int .u64 b.f2, .int .u64 b.f3, .int .u64 b.f4, .slice A5b b.f5.length c5b, .slice A6b b.f6.length c6b, .slice A7b b.f7.length c7b, .slice A8b b.f8.length c8b] : Array Value)[i]?)) (exact ⟨fun i => X.out.cell i, fun i => Y.out.cell i⟩) (first | (go_at_call 117; (with_reducible refine (NA.out _ _ HA.out).mono ?_); rintro e W3 ⟨rfl, hb⟩; replace B := Aside0.mk (below_then B.out B.out.size hb); replace HA := Aside0.mk (HA.out.below hb); replace HC := Aside0.mk (HC.out.below hb); replace P := Aside0.mk (P.out.below hb); replace N := Aside0.mk (N.out.below hb); replace Q := Aside0.mk (Q.out.below hb); replace M := Aside0.mk (M.out.below hb); replace X := Aside0.mk (X.out.below hb); replace hx := fun i => X.out.cell i; replace Y := Aside0.mk (Y.out.below hb); replace hy := fun i => Y.out.cell i; clear  hb) | (go_at_call 117; (with_reducible refine (NB.out _ _ HC.out).mono ?_); rintro e W4 ⟨rfl, hb⟩; replace B := Aside0.mk (below_then B.out B.out.size hb); replace HA := Aside0.mk (HA.out.below hb); replace HC := Aside0.mk (HC.out.below hb); replace P := Aside0.mk (P.out.below hb); replace N := Aside0.mk (N.out.below hb); replace Q := Aside0.mk (Q.out.below hb); replace M := Aside0.mk (M.out.below hb); replace X := Aside0.mk (X.out.below hb); replace hx := fun i => X.out.cell i; replace Y := Aside0.mk (Y.out.below hb); replace hy := fun i => Y.out.cell i; clear  hb))
    all_goals go_wp2_with (first | (go_at_call 114; (with_reducible refine (WP.out _ _ P.out).mono ?_); rintro e W5 ⟨x0, rfl, hs, hb⟩; replace B := Aside0.mk (below_then B.out B.out.size hb); replace HA := Aside0.mk (HA.out.below hb); replace HC := Aside0.mk (HC.out.below hb); replace P := Aside0.mk (P.out.below hb); replace N := Aside0.mk (N.out.below hb); replace Q := Aside0.mk (Q.out.below hb); replace M := Aside0.mk (M.out.below hb); replace X := Aside0.mk (X.out.below hb); replace hx := fun i => X.out.cell i; replace Y := Aside0.mk (Y.out.below hb); replace hy := fun i => Y.out.cell i; have S0 := Aside0.mk hs; clear hs hb) | (go_at_call 114; (with_reducible refine (WQ.out _ _ Q.out).mono ?_); rintro e W6 ⟨x1, rfl, hs, hb⟩; replace B := Aside0.mk (below_then B.out B.out.size hb); replace HA := Aside0.mk (HA.out.below hb); replace HC := Aside0.mk (HC.out.below hb); replace P := Aside0.mk (P.out.below hb); replace N := Aside0.mk (N.out.below hb); replace Q := Aside0.mk (Q.out.below hb); replace M := Aside0.mk (M.out.below hb); replace S0 := Aside0.mk (S0.out.below hb); replace X := Aside0.mk (X.out.below hb); replace hx := fun i => X.out.cell i; replace Y := Aside0.mk (Y.out.below hb); replace hy := fun i => Y.out.cell i; have S1 := Aside0.mk hs; clear hs hb) | (go_at_call 118; (with_reducible refine (EP.out _ _ _ S0.out S1.out).mono ?_); rintro e W7 ⟨rfl, hb⟩; replace B := Aside0.mk (below_then B.out B.out.size hb); replace HA := Aside0.mk (HA.out.below hb); replace HC := Aside0.mk (HC.out.below hb); replace P := Aside0.mk (P.out.below hb); replace N := Aside0.mk (N.out.below hb); replace Q := Aside0.mk (Q.out.below hb); replace M := Aside0.mk (M.out.below hb); replace S0 := Aside0.mk (S0.out.below hb); replace S1 := Aside0.mk (S1.out.below hb); replace X := Aside0.mk (X.out.below hb); replace hx := fun i => X.out.cell i; replace Y := Aside0.mk (Y.out.below hb); replace hy := fun i => Y.out.cell i; clear  hb))
    all_goals go_ret
    all_goals exact ⟨rfl, B.out⟩
  | true =>
    rw [Bool.true_and] at hr
    subst hr
    go_enter Try.func90, Try.ntmps90
    go_wp2_with (first | (go_at_call 101; (with_reducible refine (OA.out _ _ HA.out).mono ?_); rintro e W1 ⟨v0, v1, rfl, h0, h1, hb⟩; replace B := Aside0.mk (below_then B.out B.out.size hb); replace HA := Aside0.mk (HA.out.below hb); replace HC := Aside0.mk (HC.out.below hb); replace X := Aside0.mk (X.out.below hb); replace hx := fun i => X.out.cell i; replace Y := Aside0.mk (Y.out.below hb); replace hy := fun i => Y.out.cell i; have P := Aside0.mk h0; have N := Aside0.mk h1; clear h0 h1 hb) | (go_at_call 101; (with_reducible refine (OB.out _ _ HC.out).mono ?_); rintro e W2 ⟨v2, v3, rfl, h0, h1, hb⟩; replace B := Aside0.mk (below_then B.out B.out.size hb); replace HA := Aside0.mk (HA.out.below hb); replace HC := Aside0.mk (HC.out.below hb); replace P := Aside0.mk (P.out.below hb); replace N := Aside0.mk (N.out.below hb); replace X := Aside0.mk (X.out.below hb); replace hx := fun i => X.out.cell i; replace Y := Aside0.mk (Y.out.below hb); replace hy := fun i => Y.out.cell i; have Q := Aside0.mk h0; have M := Aside0.mk h1; clear h0 h1 hb))
    replace HA := Aside0.mk (HA.out.below (below_drew (Below.refl _ _)))
    replace HC := Aside0.mk (HC.out.below (below_drew (Below.refl _ _)))
    replace P := Aside0.mk (P.out.below (below_drew (Below.refl _ _)))
    replace N := Aside0.mk (N.out.below (below_drew (Below.refl _ _)))
    replace Q := Aside0.mk (Q.out.below (below_drew (Below.refl _ _)))
    replace M := Aside0.mk (M.out.below (below_drew (Below.refl _ _)))
    replace X := Aside0.mk (X.out.below (below_drew (Below.refl _ _)))
    replace Y := Aside0.mk (Y.out.below (below_drew (Below.refl _ _)))
    replace B := Aside0.mk (below_drew B.out)
    go_region_held3 (fun W => (∀ i, W.cell? ⟨w.heap.size, i, none⟩ = (#[.int .i64 a.f0, .int .u64 a.f1, .int .u64 a.f2, .int .u64 a.f3, .int .u64 a.f4, .slice A5a a.f5.length c5a, .slice A6a a.f6.length c6a, .slice A7a a.f7.length c7a, .slice A8a a.f8.length c8a] : Array Value)[i]?) ∧ (∀ i, W.cell? ⟨w.heap.size + 1, i, none⟩ = (#[.int .i64 b.f0, .int .u64 b.f1, .int .u64 b.f2, .int .u64 b.f3, .int .u64 b.f4, .slice A5b b.f5.length c5b, .slice A6b b.f6.length c6b, .slice A7b b.f7.length c7b, .slice A8b b.f8.length c8b] : Array Value)[i]?)) (exact ⟨fun i => X.out.cell i, fun i => Y.out.cell i⟩) (first | (go_at_call 117; (with_reducible refine (NA.out _ _ HA.out).mono ?_); rintro e W3 ⟨rfl, hb⟩; replace B := Aside0.mk (below_then B.out B.out.size hb); replace HA := Aside0.mk (HA.out.below hb); replace HC := Aside0.mk (HC.out.below hb); replace P := Aside0.mk (P.out.below hb); replace N := Aside0.mk (N.out.below hb); replace Q := Aside0.mk (Q.out.below hb); replace M := Aside0.mk (M.out.below hb); replace X := Aside0.mk (X.out.below hb); replace hx := fun i => X.out.cell i; replace Y := Aside0.mk (Y.out.below hb); replace hy := fun i => Y.out.cell i; clear  hb) | (go_at_call 117; (with_reducible refine (NB.out _ _ HC.out).mono ?_); rintro e W4 ⟨rfl, hb⟩; replace B := Aside0.mk (below_then B.out B.out.size hb); replace HA := Aside0.mk (HA.out.below hb); replace HC := Aside0.mk (HC.out.below hb); replace P := Aside0.mk (P.out.below hb); replace N := Aside0.mk (N.out.below hb); replace Q := Aside0.mk (Q.out.below hb); replace M := Aside0.mk (M.out.below hb); replace X := Aside0.mk (X.out.below hb); replace hx := fun i => X.out.cell i; replace Y := Aside0.mk (Y.out.below hb); replace hy := fun i => Y.out.cell i; clear  hb))
    all_goals go_wp2_with (first | (go_at_call 114; (with_reducible refine (WP.out _ _ P.out).mono ?_); rintro e W5 ⟨x0, rfl, hs, hb⟩; replace B := Aside0.mk (below_then B.out B.out.size hb); replace HA := Aside0.mk (HA.out.below hb); replace HC := Aside0.mk (HC.out.below hb); replace P := Aside0.mk (P.out.below hb); replace N := Aside0.mk (N.out.below hb); replace Q := Aside0.mk (Q.out.below hb); replace M := Aside0.mk (M.out.below hb); replace X := Aside0.mk (X.out.below hb); replace hx := fun i => X.out.cell i; replace Y := Aside0.mk (Y.out.below hb); replace hy := fun i => Y.out.cell i; have S0 := Aside0.mk hs; clear hs hb) | (go_at_call 114; (with_reducible refine (WQ.out _ _ Q.out).mono ?_); rintro e W6 ⟨x1, rfl, hs, hb⟩; replace B := Aside0.mk (below_then B.out B.out.size hb); replace HA := Aside0.mk (HA.out.below hb); replace HC := Aside0.mk (HC.out.below hb); replace P := Aside0.mk (P.out.below hb); replace N := Aside0.mk (N.out.below hb); replace Q := Aside0.mk (Q.out.below hb); replace M := Aside0.mk (M.out.below hb); replace S0 := Aside0.mk (S0.out.below hb); replace X := Aside0.mk (X.out.below hb); replace hx := fun i => X.out.cell i; replace Y := Aside0.mk (Y.out.below hb); replace hy := fun i => Y.out.cell i; have S1 := Aside0.mk hs; clear hs hb) | (go_at_call 118; (with_reducible refine (EP.out _ _ _ S0.out S1.out).mono ?_); rintro e W7 ⟨rfl, hb⟩; replace B := Aside0.mk (below_then B.out B.out.size hb); replace HA := Aside0.mk (HA.out.below hb); replace HC := Aside0.mk (HC.out.below hb); replace P := Aside0.mk (P.out.below hb); replace N := Aside0.mk (N.out.below hb); replace Q := Aside0.mk (Q.out.below hb); replace M := Aside0.mk (M.out.below hb); replace S0 := Aside0.mk (S0.out.below hb); replace S1 := Aside0.mk (S1.out.below hb); replace X := Aside0.mk (X.out.below hb); replace hx := fun i => X.out.cell i; replace Y := Aside0.mk (Y.out.below hb); replace hy := fun i => Y.out.cell i; clear  hb) | (go_at_call 114; (with_reducible refine (WN.out _ _ N.out).mono ?_); rintro e W8 ⟨x2, rfl, hs, hb⟩; replace B := Aside0.mk (below_then B.out B.out.size hb); replace HA := Aside0.mk (HA.out.below hb); replace HC := Aside0.mk (HC.out.below hb); replace P := Aside0.mk (P.out.below hb); replace N := Aside0.mk (N.out.below hb); replace Q := Aside0.mk (Q.out.below hb); replace M := Aside0.mk (M.out.below hb); replace S0 := Aside0.mk (S0.out.below hb); replace S1 := Aside0.mk (S1.out.below hb); replace X := Aside0.mk (X.out.below hb); replace hx := fun i => X.out.cell i; replace Y := Aside0.mk (Y.out.below hb); replace hy := fun i => Y.out.cell i; have S2 := Aside0.mk hs; clear hs hb) | (go_at_call 114; (with_reducible refine (WM.out _ _ M.out).mono ?_); rintro e W9 ⟨x3, rfl, hs, hb⟩; replace B := Aside0.mk (below_then B.out B.out.size hb); replace HA := Aside0.mk (HA.out.below hb); replace HC := Aside0.mk (HC.out.below hb); replace P := Aside0.mk (P.out.below hb); replace N := Aside0.mk (N.out.below hb); replace Q := Aside0.mk (Q.out.below hb); replace M := Aside0.mk (M.out.below hb); replace S0 := Aside0.mk (S0.out.below hb); replace S1 := Aside0.mk (S1.out.below hb); replace S2 := Aside0.mk (S2.out.below hb); replace X := Aside0.mk (X.out.below hb); replace hx := fun i => X.out.cell i; replace Y := Aside0.mk (Y.out.below hb); replace hy := fun i => Y.out.cell i; have S3 := Aside0.mk hs; clear hs hb) | (go_at_call 118; (with_reducible refine (EN.out _ _ _ S2.out S3.out).mono ?_); rintro e W10 ⟨rfl, hb⟩; replace B := Aside0.mk (below_then B.out B.out.size hb); replace HA := Aside0.mk (HA.out.below hb); replace HC := Aside0.mk (HC.out.below hb); replace P := Aside0.mk (P.out.below hb); replace N := Aside0.mk (N.out.below hb); replace Q := Aside0.mk (Q.out.below hb); replace M := Aside0.mk (M.out.below hb); replace S0 := Aside0.mk (S0.out.below hb); replace S1 := Aside0.mk (S1.out.below hb); replace S2 := Aside0.mk (S2.out.below hb); replace S3 := Aside0.mk (S3.out.below hb); replace X := Aside0.mk (X.out.below hb); replace hx := fun i => X.out.cell i; replace Y := Aside0.mk (Y.out.below hb); replace hy := fun i => Y.out.cell i; clear  hb))
    all_goals go_ret
    all_goals exact ⟨rfl, B.out⟩
end Go.Proofs.Ytfbjjbbhnmoolaa.P
namespace Go.Proofs.Ytfbjjbbhnmoolaa.P
open Go.RowKit Go.Shelf Go.Proofs.YtfbjjbbhnmoolaaW.PrintWords Go.Proofs.YtfbjjbbhnmoolaaW.PrintLast Go.Proofs.YtfbjjbbhnmoolaaW.PrintMore
set_option maxRecDepth 100000 in
set_option maxHeartbeats 4000000 in
theorem all1P_in (n : Nat) (hn : 1 ≤ n) (L n0 n1 Bn : Nat) (v : Value) (l : List S86) (k : Nat) (hck : span_Check.f k l = some 0) (hN : (placesAt 0 l).length ≤ 4611686018427387904) (J Jx : List (Int × Int) → World → Prop)
    (hJ : ∀ s W W', J s W → W.grownBy W' none → J s W')
    (hY : ∀ pre x W, J pre W → pre ++ [x] <+: numd (placesAt 0 l) → YieldAt Fence.wide (n - 1) Try.prog L #[.int .i64 x.1, .int .i64 x.2] W fun e W' =>
      (e = .returned (.bool true) ∧ J (pre ++ [x]) W' ∧ KeepR n0 n1 W W') ∨ (e = .returned (.bool false) ∧ Jx (pre ++ [x]) W'))
    (W : World) (hS : HoldsSp n0 n1 Bn v l W) (h0 : J [] W) :
    CallsIn Fence.wide n Try.prog 150 #[.func (.yield L) #[] #[], .pointer (some ⟨Bn, 0, none⟩)] W fun e W' => (∃ v, e = .returned v) ∧
      ((∃ ys, ys = numd (placesAt 0 l) ∧ J ys W') ∨ (∃ pre, pre <+: numd (placesAt 0 l) ∧ Jx pre W')) := by
  have hu := Try.underlying86
  have hf : Fence.wide.fn 104 := trivial
  obtain ⟨A, c, rfl, hlc, hC⟩ := Kd.R_reads hS.2.2.2
  have hcell : W.cell? ⟨Bn, 0, none⟩ = some (.slice A l.length c) := by
    have := blk_cell (i := 0) hS.2.2.1
    rw [this]; rfl
  have hm : l.length ≤ 9223372036854775807 := hC.2.1
  have HCk := Aside0.mk (span_Check.calls k A c l 0 W hC hlc hck)
  have HJ := Aside0.mk hJ
  have HY := Aside0.mk hY
  have HS := Aside0.mk hS
  have H0 := Aside0.mk h0
  clear hJ hY hS h0 hC
  refine callsIn_of_wp Try.func150 rfl trivial ?_ rfl
  simp only [Try.ntmps150, List.size_toArray, List.length_cons, List.length_nil, Nat.reduceAdd, Nat.reduceSub, Array.replicate_succ, Array.replicate_zero, List.push_toArray, List.append_toArray, List.nil_append, List.cons_append]
  gi_wp2_with (gi_at_call 104; refine (callsIn_wide.2 HCk.out).mono ?_; rintro e w1 ⟨rfl, hb⟩; have HB := Aside0.mk hb; have hcell1 := (hb.cell (World.block_lt_of_cell? W _ hcell)).trans hcell; clear hb hcell)
  have HS1 := Aside0.mk (HS.out.keep (KeepR.of_below HB.out HS.out.2.1))
  have H1 := Aside0.mk (HJ.out _ _ _ H0.out (grown_of_below HB.out none))
  clear HS H0 HB HCk
  gi_loopw [3, 4, 12] (fun s3 s4 s12 wr => ∃ kk : Nat, kk ≤ l.length ∧ s12 = .int .i64 kk ∧ s3 = .int .i64 (endAt 0 (l.take kk)) ∧ s4 = .int .i64 ((placesAt 0 (l.take kk)).length : Int) ∧ Aside0 (HoldsSp n0 n1 Bn (.slice A l.length c) l wr) ∧ Aside0 (J (numd (placesAt 0 (l.take kk))) wr)) (fun _ _ s12 _ => l.length - (intOf s12).toNat)
  case atStart => exact ⟨0, Nat.zero_le _, rfl, by simp [endAt], by simp [placesAt], HS1, by simpa [placesAt, numd] using H1⟩
  case round =>
    obtain ⟨kk, hkk, rfl, rfl, rfl, HS, HJ0⟩ := hrel
    clear HS1 H1
    by_cases hlt : kk < l.length
    · have hlti : (kk : Int) < (l.length : Int) := by omega
      have hC := (Kd.R_reads' HS.out.2.2.2).2.2
      obtain ⟨ad, e1, hx0, hx1⟩ := at_T86 hC kk (by omega) (by omega)
      cases e1
      clear hC
      have hrd : rd_T86 l (kk : Int) = l[kk] := by unfold rd_T86; simp [List.getD, hlt]
      rw [hrd, Int.toNat_natCast] at hx0 hx1
      have HT := Aside0.mk (List.take_succ_eq_append_getElem hlt)
      generalize l[kk] = y at hx0 hx1 HT hrd
      clear hrd
      obtain ⟨wo, rfl⟩ : ∃ wo : World, wo = wr := ⟨_, rfl⟩
      have hple : (placesAt 0 (l.take kk)).length ≤ 4611686018427387904 := Nat.le_trans (placesAt_take_le l kk) hN
      have HP1 := Aside0.mk (placesAt_snoc y (l.take kk) 0)
      have HE1 := Aside0.mk (endAt_snoc y (l.take kk) 0)
      have HLE : Aside0 ((placesAt 0 (l.take kk)).length + y.f1.toNat ≤ (placesAt 0 l).length ∧ placesAt 0 (l.take kk) ++ runAt (wrap64 (endAt 0 (l.take kk) + y.f0)) y.f1.toNat <+: placesAt 0 l) := by
        have h := placesAt_prefix (l.take (kk + 1)) (l.drop (kk + 1))
        rw [List.take_append_drop, HT.out, HP1.out] at h
        refine ⟨⟨?_, h⟩⟩
        have := h.length_le
        rwa [List.length_append, runAt_length] at this
      rw [← HT.out] at HP1 HE1
      clear HT
      generalize endAt 0 (l.take kk) = at0 at HP1 HE1 HLE
      generalize placesAt 0 (l.take kk) = ps at HP1 HLE HJ0 hple
      have HS0 := Aside0.mk (HS.out.keep (KeepR.of_below (below_alloc (Below.refl _ wo) (.cells #[.int .i64 y.f0, .int .i64 y.f1] 86)) HS.out.2.1))
      have HJ1 := Aside0.mk (HJ.out _ _ _ HJ0.out (grown_of_below (below_alloc (Below.refl _ wo) (.cells #[.int .i64 y.f0, .int .i64 y.f1] 86)) none))
      clear HS HJ0
      gi_wp2
      gi_loopw [3, 4, 22] (fun s3 s4 s22 wr => ∃ i : Nat, i ≤ y.f1.toNat ∧ s22 = .int .i64 i ∧ s3 = .int .i64 (runEnd (wrap64 (at0 + y.f0)) i) ∧ s4 = .int .i64 ((ps.length : Int) + (i : Int)) ∧ Aside0 (HoldsSp n0 n1 Bn (.slice (some ad) l.length c) l wr) ∧ Aside0 (J (numd (ps ++ runAt (wrap64 (at0 + y.f0)) i)) wr)) (fun _ _ s22 _ => (y.f1 - intOf s22).toNat)
      case atStart => exact ⟨0, Nat.zero_le _, rfl, rfl, by simp, HS0, by simpa [runAt] using HJ1⟩
      case round =>
        obtain ⟨i, hi, rfl, rfl, rfl, HS, HJ0⟩ := hrel
        clear HS0 HJ1
        by_cases hli : (i : Int) < y.f1
        · have hlen : (ps ++ runAt (wrap64 (at0 + y.f0)) i).length = ps.length + i := by rw [List.length_append, runAt_length]
          have hlt2 : ps.length + i < (placesAt 0 l).length := by have := HLE.out.1; omega
          have hnx : (ps.length : Int) + (i : Int) + 1 ≤ 4611686018427387904 := by omega
          have hn0 : 0 ≤ (ps.length : Int) + (i : Int) := by omega
          have hy1 : y.f1 ≤ 4611686018427387904 := by have := HLE.out.1; omega
          have HRUN : Aside0 (numd (ps ++ runAt (wrap64 (at0 + y.f0)) i) ++ [((ps.length : Int) + (i : Int), runEnd (wrap64 (at0 + y.f0)) i)] <+: numd (placesAt 0 l)) := by
            refine ⟨?_⟩
            have h1 := numd_prefix HLE.out.2
            have hi1 : i + 1 ≤ y.f1.toNat := by omega
            have h2 : ps ++ runAt (wrap64 (at0 + y.f0)) (i + 1) <+: ps ++ runAt (wrap64 (at0 + y.f0)) y.f1.toNat := by
              refine (List.prefix_append_right_inj _).2 ?_
              have : ∀ (m j : Nat) (a : Int), j ≤ m → runAt a j <+: runAt a m := by
                intro m
                induction m with
                | zero => intro j a hj; obtain rfl : j = 0 := by omega
                          exact List.prefix_rfl
                | succ m ih =>
                  intro j a hj
                  cases j with
                  | zero => exact List.nil_prefix
                  | succ j => exact (List.cons_prefix_cons).2 ⟨rfl, ih j _ (by omega)⟩
              exact this _ _ _ hi1
            have h3 := (numd_prefix h2).trans h1
            rw [runAt_snoc, ← List.append_assoc, numd_snoc, hlen] at h3
            exact h3
          obtain ⟨fn, tmps, assign, body, hy, hR⟩ := HY.out (numd (ps ++ runAt (wrap64 (at0 + y.f0)) i)) ((ps.length : Int) + (i : Int), runEnd (wrap64 (at0 + y.f0)) i) wr HJ0.out HRUN.out
          dsimp only at hy
          have HA := Aside0.mk (runAt_snoc i (wrap64 (at0 + y.f0)))
          have HE := Aside0.mk (runEnd_snoc i (wrap64 (at0 + y.f0)))
          have HNS := Aside0.mk (numd_snoc (ps ++ runAt (wrap64 (at0 + y.f0)) i) (runEnd (wrap64 (at0 + y.f0)) i))
          have HL := Aside0.mk hlen
          have HRR := Aside0.mk hR
          clear hR hlen HJ0 HRUN
          gi_wp2
          refine HRR.out.mono ?_
          rintro e W3 (⟨rfl, hJ3, hk3⟩ | ⟨rfl, hJx3⟩)
          · have HJ3 := Aside0.mk hJ3
            have HS3 := Aside0.mk (HS.out.keep hk3)
            clear hJ3 hk3
            gi_wp2
            go_roundw
            case rel => 
              refine ⟨i + 1, by omega, by go_num, by rw [HE.out], by go_num, HS3, ⟨?_⟩⟩
              rw [HA.out, ← List.append_assoc, HNS.out, HL.out]
              exact HJ3.out
            case measure => simp [intOf]; omega
          · have HX := Aside0.mk hJx3
            clear hJx3
            gi_wp2
            refine bodyPost_ret (results_none rfl _ _ _) rfl ?_
            refine ⟨⟨_, rfl⟩, .inr ⟨_, ?_, HX.out⟩⟩
            have h1 := numd_prefix HLE.out.2
            have hi1 : i + 1 ≤ y.f1.toNat := by omega
            have h2 : ps ++ runAt (wrap64 (at0 + y.f0)) (i + 1) <+: ps ++ runAt (wrap64 (at0 + y.f0)) y.f1.toNat := by
              refine (List.prefix_append_right_inj _).2 ?_
              have : ∀ (m j : Nat) (a : Int), j ≤ m → runAt a j <+: runAt a m := by
                intro m
                induction m with
                | zero => intro j a hj; obtain rfl : j = 0 := by omega
                          exact List.prefix_rfl
                | succ m ih =>
                  intro j a hj
                  cases j with
                  | zero => exact List.nil_prefix
                  | succ j => exact (List.cons_prefix_cons).2 ⟨rfl, ih j _ (by omega)⟩
              exact this _ _ _ hi1
            have h3 := (numd_prefix h2).trans h1
            rw [HA.out, ← List.append_assoc, HNS.out, HL.out] at h3
            exact h3
        · have hie : i = y.f1.toNat := by omega
          have hli' : ¬ (i : Int) < y.f1 := hli
          gi_wp2
          go_roundw
          case rel =>
            refine ⟨kk + 1, by omega, by go_num, ?_, ?_, HS, ?_⟩
            · rw [HE1.out, hie]
            · rw [HP1.out, List.length_append, runAt_length, hie]; go_num
            · rw [HP1.out, ← hie]; exact HJ0
          case measure => simp [intOf]; omega
    · have hlti : ¬ (kk : Int) < (l.length : Int) := by omega
      have hk : l.take kk = l := List.take_of_length_le (by omega)
      have HK := Aside0.mk hk
      clear hk
      gi_wp2
      go_end0
      have hj := HJ0.out
      rw [HK.out] at hj
      exact ⟨⟨_, rfl⟩, .inl hj⟩
def atN (D : List Int) (k : Nat) : Int × Int := ((k : Int), D.getD k 0)
theorem numd_getElem? (D : List Int) (k : Nat) (h : k < D.length) : (numd D)[k]? = some (atN D k) := by
  unfold numd atN
  rw [List.getElem?_map, List.getElem?_zipIdx, List.getElem?_eq_getElem h]
  simp [List.getD, h]
theorem prefix_at {D : List Int} {pre : List (Int × Int)} {x : Int × Int} (h : pre ++ [x] <+: numd D) : pre.length < D.length ∧ x = atN D pre.length := by
  have hl := h.length_le
  rw [List.length_append, numd_length] at hl
  simp only [List.length_cons, List.length_nil] at hl
  refine ⟨by omega, ?_⟩
  obtain ⟨t, ht⟩ := h
  have h1 := numd_getElem? D pre.length (by omega)
  rw [← ht, List.append_assoc, List.getElem?_append_right (Nat.le_refl _)] at h1
  simp at h1
  exact h1
theorem all_stopsN (n : Nat) (hn : 1 ≤ n) (n0 Bn : Nat) (v : Value) (l : List S86) (k : Nat) (hck : span_Check.f k l = some 0) (hN : (placesAt 0 l).length ≤ 4611686018427387904) (w : World) (hS : HoldsSp n0 w.heap.size Bn v l w) :
    SeqStopsK Fence.wide n Try.prog 150 #[.pointer (some ⟨Bn, 0, none⟩)] (fun x : Fin (placesAt 0 l).length => #[Value.int .i64 (x.val : Int), Value.int .i64 ((placesAt 0 l).getD x.val 0)]) (KeepR n0 w.heap.size) (fun ys => ys.map (·.val) = List.range (placesAt 0 l).length) (fun _ => True) (placesAt 0 l).length w := by
  intro L J Jx W hW hJ hJx hY h0
  generalize hD : placesAt 0 l = D at *
  have hlen : ∀ xs : List (Fin D.length), (xs.map (fun x => atN D x.val)).length = xs.length := fun xs => List.length_map ..
  have main := all1P_in n hn L n0 w.heap.size Bn v l k hck (by rw [hD]; exact hN) (fun pre W => ∃ xs : List (Fin D.length), pre = xs.map (fun x => atN D x.val) ∧ J xs W) (fun pre W => ∃ xs : List (Fin D.length), pre = xs.map (fun x => atN D x.val) ∧ Jx xs W)
    (fun s A B ⟨xs, e, h⟩ hg => ⟨xs, e, hJ xs A B none h hg (fun r e => by cases e)⟩)
    (by
      rintro pre x W1 ⟨xs, rfl, h⟩ hp
      rw [hD] at hp
      obtain ⟨h1, h2⟩ := prefix_at hp
      rw [hlen] at h1 h2
      subst h2
      have hy := hY xs ⟨xs.length, h1⟩ W1 h h1
      obtain ⟨fn, tmps, assign, body, hyy, hR⟩ := hy
      refine ⟨fn, tmps, assign, body, hyy, hR.mono ?_⟩
      rintro e W' (⟨e1, e2, e3⟩ | ⟨e1, e2⟩)
      · exact .inl ⟨e1, ⟨xs ++ [⟨xs.length, h1⟩], by simp [List.map_append], e2⟩, e3⟩
      · exact .inr ⟨e1, ⟨xs ++ [⟨xs.length, h1⟩], by simp [List.map_append], e2⟩⟩)
    W (hS.keep (KeepR.of_below hW (Nat.le_refl _))) ⟨[], rfl, h0⟩
  refine main.mono ?_
  rintro e W' ⟨hv, ⟨ys, rfl, xs, e1, hj⟩ | ⟨pre, -, xs, -, hj⟩⟩
  · refine ⟨hv, .inl ⟨xs, ?_, hj⟩⟩
    rw [hD] at e1
    have hl := congrArg List.length e1
    rw [numd_length, hlen] at hl
    refine List.ext_getElem (by rw [List.length_map, List.length_range]; exact hl.symm) ?_
    intro i h1 h2
    rw [List.length_map] at h1
    have h3 := numd_getElem? D i (by omega)
    rw [e1, List.getElem?_map, List.getElem?_eq_getElem h1] at h3
    have h4 := Option.some.inj h3
    have h5 := congrArg Prod.fst h4
    simp only [atN] at h5
    rw [List.getElem_map, List.getElem_range]
    omega
  · exact ⟨hv, .inr ⟨xs, trivial, hj⟩⟩
end Go.Proofs.Ytfbjjbbhnmoolaa.P
namespace Go.Proofs.Ytfbjjbbhnmoolaa.P
open Go
theorem count_set (l : Array Bool) (i : Nat) (h : l.getD i true = false) : (l.setIfInBounds i true).toList.count false + 1 = l.toList.count false := by
  have hlt : i < l.size := by
    rcases Nat.lt_or_ge i l.size with h1 | h1
    · exact h1
    · rw [Array.getD_eq_getD_getElem?, Array.getElem?_eq_none h1] at h; cases h
  have hv : l.toList[i]'(by simpa using hlt) = false := by
    rw [Array.getD_eq_getD_getElem?, Array.getElem?_eq_getElem hlt] at h; simpa using h
  rw [Array.toList_setIfInBounds]
  have key : ∀ (xs : List Bool) (i : Nat) (hi : i < xs.length), xs[i] = false → (xs.set i true).count false + 1 = xs.count false := by
    intro xs
    induction xs with
    | nil => intro i hi; simp at hi
    | cons x xs ih =>
      intro i hi hx
      cases i with
      | zero => simp only [List.getElem_cons_zero] at hx; subst hx; simp
      | succ i =>
        simp only [List.getElem_cons_succ] at hx
        have := ih i (by simpa using hi) hx
        simp only [List.set_cons_succ, List.count_cons]
        omega
  exact key _ _ (by simpa using hlt) hv
theorem wpAnyIn_held {F : Fence} {n : Nat} {P : Program} {md : Region.Mode} {ops : Array Oper} {Q : Exit → Act → World → Prop} (St : Array Bool → Act → World → Prop)
    (hstep : ∀ (i : Nat) (listed : Array Bool) (a : Act) (w : World), St listed a w → listed.getD i true = false → (∀ o, ops[i]? = some o → ∀ e ∈ o.after, Region.binds md e = true → listed.getD e.on false = true) → i < ops.size →
      wpOpIn F n P ops Q i (fun a' w' => St (listed.setIfInBounds i true) a' w') a w)
    (hdone : ∀ (listed : Array Bool) (a : Act) (w : World), St listed a w → Region.ready md ops listed = [] → Q .normal a w) :
    ∀ (fuel : Nat) (listed : Array Bool) (a : Act) (w : World), listed.toList.count false ≤ fuel → St listed a w → wpAnyIn F n P md ops Q fuel listed a w := by
  intro fuel
  induction fuel with
  | zero =>
    intro listed a w hc h
    have hr : Region.ready md ops listed = [] := by
      rw [List.eq_nil_iff_forall_not_mem]
      intro i hi
      have := count_set listed i (mem_ready.1 hi).1
      omega
    exact ⟨hr, hdone _ _ _ h hr⟩
  | succ fuel ih =>
    intro listed a w hc h
    refine ⟨hdone _ _ _ h, fun i hi => ?_⟩
    obtain ⟨h1, o, ho, h2⟩ := mem_ready.1 hi
    have hcs := count_set listed i h1
    exact wpOpIn_mono (fun a' w' h' => ih _ a' w' (by omega) h') (hstep i listed a w h h1 (fun o' ho' => by rw [ho] at ho'; cases ho'; exact h2) ((Array.getElem?_eq_some_iff.1 ho).1))
structure HeldAt (a0 : Act) (s0 nv : Nat) (val : Nat → Value) (Wf : Array Bool → World) (listed : Array Bool) (a : Act) (w : World) : Prop where
  sz : a.tmps.size = a0.tmps.size
  fix : ∀ d, d < s0 → a.eval (.tmp d) = a0.eval (.tmp d)
  got : ∀ i, i < nv → listed.getD i false = true → a.eval (.tmp (s0 + i)) = val i
  wd : w = Wf listed
theorem getD_set_of (l : Array Bool) (i j : Nat) (h : (l.setIfInBounds i true).getD j false = true) : j = i ∨ l.getD j false = true := by
  by_cases e : j = i
  · exact .inl e
  · refine .inr ?_
    rw [Array.getD_eq_getD_getElem?, Array.getElem?_setIfInBounds_ne (fun x => e x.symm)] at h
    rwa [Array.getD_eq_getD_getElem?]
theorem HeldAt.put {a0 : Act} {s0 nv : Nat} {val : Nat → Value} {Wf : Array Bool → World} {listed : Array Bool} {a : Act} {w : World} (h : HeldAt a0 s0 nv val Wf listed a w) (i : Nat) (hi : i < nv) (hs : s0 + nv ≤ a0.tmps.size)
    (hw : Wf (listed.setIfInBounds i true) = Wf listed) : HeldAt a0 s0 nv val Wf (listed.setIfInBounds i true) (a.put (some (s0 + i)) (val i)) w := by
  have hlt : s0 + i < a.tmps.size := by rw [h.sz]; omega
  refine ⟨by simpa [Act.put] using h.sz, fun d hd => ?_, fun j hj hl => ?_, by rw [hw]; exact h.wd⟩
  · rw [Act.eval_put_ne _ _ _ _ (by omega)]; exact h.fix d hd
  · by_cases e : j = i
    · subst e; exact Act.eval_put_same _ _ _ hlt
    · rw [Act.eval_put_ne _ _ _ _ (by omega)]
      rcases getD_set_of _ _ _ hl with h1 | h1
      · exact absurd h1 e
      · exact h.got j hj h1
theorem HeldAt.put_ {a0 : Act} {s0 nv : Nat} {val : Nat → Value} {Wf : Array Bool → World} {listed : Array Bool} {a : Act} {w : World} (h : HeldAt a0 s0 nv val Wf listed a w) (i : Nat) (hi : i < nv) (hs : s0 + nv ≤ a0.tmps.size)
    (hw : Wf (listed.setIfInBounds i true) = Wf listed) {v : Value} (hv : v = val i) : HeldAt a0 s0 nv val Wf (listed.setIfInBounds i true) (a.put (some (s0 + i)) v) w := hv ▸ h.put i hi hs hw
theorem HeldAt.store {a0 : Act} {s0 nv : Nat} {val : Nat → Value} {Wf : Array Bool → World} {listed : Array Bool} {a : Act} {w w' : World} (h : HeldAt a0 s0 nv val Wf listed a w) (i : Nat) (hi : nv ≤ i) (hw : w' = Wf (listed.setIfInBounds i true)) :
    HeldAt a0 s0 nv val Wf (listed.setIfInBounds i true) (a.put none undef) w' := by
  refine ⟨h.sz, h.fix, fun j hj hl => ?_, hw⟩
  rcases getD_set_of _ _ _ hl with h1 | h1
  · omega
  · exact h.got j hj h1
theorem getD_set_self (l : Array Bool) (i : Nat) (d : Bool) (h : i < l.size) : (l.setIfInBounds i true).getD i d = true := by
  rw [Array.getD_eq_getD_getElem?, Array.getElem?_setIfInBounds_self_of_lt h]; rfl
theorem getD_set_mono (l : Array Bool) (i j : Nat) (h : l.getD j false = true) : (l.setIfInBounds i true).getD j false = true := by
  have hj : j < l.size := by
    rcases Nat.lt_or_ge j l.size with h1 | h1
    · exact h1
    · rw [Array.getD_eq_getD_getElem?, Array.getElem?_eq_none h1] at h; cases h
  by_cases e : i = j
  · subst e; exact getD_set_self l i false hj
  · rw [Array.getD_eq_getD_getElem?, Array.getElem?_setIfInBounds_ne e, ← Array.getD_eq_getD_getElem?]; exact h
theorem getD_set_ne' (l : Array Bool) (i j : Nat) (d : Bool) (e : i ≠ j) : (l.setIfInBounds i true).getD j d = l.getD j d := by
  rw [Array.getD_eq_getD_getElem?, Array.getElem?_setIfInBounds_ne e, ← Array.getD_eq_getD_getElem?]
theorem getD_tf (l : Array Bool) (i : Nat) (h : i < l.size) : l.getD i true = l.getD i false := by
  rw [Array.getD_eq_getD_getElem?, Array.getD_eq_getD_getElem?, Array.getElem?_eq_getElem h]; rfl
theorem ready_all {md : Region.Mode} {ops : Array Oper} {listed : Array Bool} (hs : listed.size = ops.size) (hd : (ops.toList.zipIdx.all fun p => p.1.after.all fun e => decide (e.on < p.2)) = true) (h : Region.ready md ops listed = []) : ∀ i, i < ops.size → listed.getD i true = true := by
  intro i
  induction i using Nat.strongRecOn with
  | ind i ih =>
    intro hi
    cases hq : listed.getD i true with
    | true => rfl
    | false =>
      have ho : ops[i]? = some ops[i] := Array.getElem?_eq_getElem hi
      have hm : i ∈ Region.ready md ops listed := mem_ready.2 ⟨hq, _, ho, fun e he _ => by
        have h1 := List.all_eq_true.1 hd (ops[i], i) (by rw [List.mem_iff_getElem?]; exact ⟨i, by rw [List.getElem?_zipIdx]; simp [hi]⟩)
        have h2 := Array.all_eq_true_iff_forall_mem.1 h1 e he
        have h3 := ih e.on (of_decide_eq_true h2) (by have := of_decide_eq_true h2; omega)
        rw [getD_tf _ _ (by have := of_decide_eq_true h2; omega)] at h3
        exact h3⟩
      rw [h] at hm; cases hm
end Go.Proofs.Ytfbjjbbhnmoolaa.P
namespace Go.Proofs.Ytfbjjbbhnmoolaa.P
open Go.RowKit Go.Shelf Go.Proofs.YtfbjjbbhnmoolaaW.PrintWords Go.Proofs.YtfbjjbbhnmoolaaW.PrintLast Go.Proofs.YtfbjjbbhnmoolaaW.PrintMore
attribute [local go_sem] Oper.semAt_some
def fStep (l : List Pu) (D : List Int) (s : List Int × Nat) (k : Nat) : List Int × Nat :=
  if s.2 < l.length ∧ (l.getD s.2 ⟨0, 0⟩).f0 = D.getD k 0 then (s.1.set k (l.getD s.2 ⟨0, 0⟩).f1, s.2 + 1) else s
def fSt (l : List Pu) (D : List Int) (xs : List Nat) : List Int × Nat := xs.foldl (fStep l D) (List.replicate D.length 0, 0)
theorem fSt_snoc (l : List Pu) (D : List Int) (xs : List Nat) (k : Nat) : fSt l D (xs ++ [k]) = fStep l D (fSt l D xs) k := by unfold fSt; rw [List.foldl_append]; rfl
theorem fSt_ok (l : List Pu) (D : List Int) (xs : List Nat) : (fSt l D xs).1.length = D.length ∧ (fSt l D xs).2 ≤ l.length := by
  have : ∀ (xs : List Nat) (s : List Int × Nat), s.2 ≤ l.length → (xs.foldl (fStep l D) s).1.length = s.1.length ∧ (xs.foldl (fStep l D) s).2 ≤ l.length := by
    intro xs
    induction xs with
    | nil => intro s hs; exact ⟨rfl, hs⟩
    | cons k xs ih =>
      intro s hs
      rw [List.foldl_cons]
      have h1 : (fStep l D s k).1.length = s.1.length ∧ (fStep l D s k).2 ≤ l.length := by
        unfold fStep
        split
        · rename_i h; exact ⟨by simp, h.1⟩
        · exact ⟨rfl, hs⟩
      have := ih _ h1.2
      exact ⟨by rw [this.1, h1.1], this.2⟩
  have h := this xs (List.replicate D.length 0, 0) (Nat.zero_le _)
  exact ⟨by rw [fSt, h.1]; simp, h.2⟩
def spreadF (l : List Pu) (on : List Sp) : List Int × Bool := ((fSt l (plN 0 on) (List.range (plN 0 on).length)).1, decide ((fSt l (plN 0 on) (List.range (plN 0 on).length)).2 = l.length))
theorem run_make_blk {P : Program} (t e : TypeId) (i : TypeInfo) (z : Value) (h1 : P.underlying t = some (.slice e)) (h2 : P.info? e = some i) (h3 : i.zero = some z) (h4 : i.size = 1) (h5 : z.cells = #[z])
    (m : Nat) (b2 : (i.bytes : Int) * m ≤ 281474976710656) (b3 : (m : Int) ≤ 9223372036854775807) (w : World) :
    (Instr.makeSlice t (.int .i64 m) (.int .i64 m)).run P w = .ok (.slice (some ⟨w.heap.size, 0, none⟩) m m) (w.alloc (.cells (List.replicate m z).toArray e)) := by
  have hrun := run_make (P := P) w t e i z h1 h2 h3 .i64 .i64 m m (by omega) (Int.le_refl _) b2 b3
  rw [h4, h5, Nat.mul_one, Int.toNat_natCast] at hrun
  have hm : madeCells #[z] m = (List.replicate m z).toArray := by rw [← toList_madeCells_one z m]
  rw [hm] at hrun
  exact hrun
theorem keepR_set {n0 n1 B i : Nat} (W : World) (hB : B < n0) (u : Value) : KeepR n0 n1 W (W.setCell ⟨B, i, none⟩ u) :=
  ⟨by simp [World.setCell], fun q h0 h1 => Below.heap_setCell W ⟨B, i, none⟩ u q (by show q ≠ B; omega)⟩
theorem boxed_far {W : World} {b g i : Nat} {t : TypeId} {v : Value} (h : Boxed W b t v) (hne : b ≠ g) (u : Value) : Boxed (W.setCell ⟨g, i, none⟩ u) b t v := blk_far h hne u
theorem putObj_far {W : World} {b D : Nat} {o : Obj} {x : Obj} (hne : b ≠ D) (h : W.heap[b]? = some x) : (W.putObj D o).heap[b]? = some x := by
  simp only [World.putObj]
  rw [Array.getElem?_setIfInBounds_ne (fun e => hne e.symm)]
  exact h
theorem World.grownBy_set (W : World) (b i : Nat) (v : Value) : W.grownBy (W.setCell ⟨b, i, none⟩ v) (some b) :=
  ⟨rfl, rfl, rfl, by simp [World.setCell], fun k _ hk => Below.heap_setCell W ⟨b, i, none⟩ v k (fun e => hk (by rw [e]))⟩
def SpI (w : World) (b0 bo g n1 : Nat) (l : List Pu) (D : List Int) (xs : List Nat) (W : World) : Prop :=
  ((∃ (A : Option Addr) (c : Nat), Boxed W b0 99 (.slice A (l.drop (fSt l D xs).2).length c) ∧ Kd.C kPu w A (l.drop (fSt l D xs).2).length (l.drop (fSt l D xs).2) ∧ (l.drop (fSt l D xs).2).length ≤ c) ∧
    Boxed W bo 29 (.slice (some ⟨g, 0, none⟩) D.length D.length) ∧ W.heap[g]? = some (.cells ((fSt l D xs).1.map (Value.int .u64)).toArray 22 (0, 0))) ∧ (Below w.heap.size w W ∧ n1 ≤ W.heap.size)
theorem SpI.own (w : World) (b0 bo g n1 : Nat) (l : List Pu) (D : List Int) (hn : w.heap.size ≤ n1) : OwnFrom n1 (fun (xs : List (Fin D.length)) W => SpI w b0 bo g n1 l D (xs.map (·.val)) W) := by
  intro xs W W' row h hg hr
  obtain ⟨⟨⟨A, c, h1, h2, h3⟩, h4, h5⟩, h6, h7⟩ := h
  have hb : ∀ {q : Nat} {o : Obj}, W.heap[q]? = some o → o.isCells = true → W'.heap[q]? = some o := fun {q o} h hc => by
    refine (hg.block q (blk_lt h) (fun e => ?_)).trans h
    obtain ⟨-, o', e1, e2⟩ := hr q e.symm
    rw [h] at e1; cases e1; rw [hc] at e2; cases e2
  exact ⟨⟨⟨A, c, hb h1 rfl, h2, h3⟩, hb h4 rfl, hb h5 rfl⟩, h6.grown hg (Nat.le_trans (Nat.le_refl _) h6.size) (fun k e => Nat.le_trans hn (hr k e).1), Nat.le_trans h7 hg.size⟩
set_option maxRecDepth 100000 in
set_option maxHeartbeats 8000000 in
theorem fspread_c (l : List Pu) (on : List Sp) (hw : wfSps on) (hck : spCheck on = 0) (hm : l.length ≤ 4096) (w : World) (u v : Value) (hu : SI kPu w u l) (hv : SI kSp w v on) : Calls Try.prog 116 #[u, v] w fun e w' =>
    ∃ v0 : Value, e = .returned (.tuple #[v0, .bool (spreadF l on).2]) ∧ FI (Kd.int .u64) w.heap.size w' v0 (spreadF l on).1 ∧ Below w.heap.size w w' := by
  obtain ⟨A0, c0, rfl, hc0, hr0⟩ := hu
  obtain ⟨A1, c1, rfl, hc1, hr1⟩ := hv
  have hlen := places_len hck
  have hpl : placesAt 0 on = plN 0 on := placesAt_plN on _ _ _ (spCheck_zero hck).2
  have hon : on.length ≤ 1024 := (spCheck_zero hck).1
  have HCk := check_eq on hw 3000 (by omega)
  rw [hck] at HCk
  have hct := spCount_c on hw hck
  have hcn : cntN on = ((plN 0 on).length : Int) := (plN_length on 0 (fun s hs => (spRight_pos on _ _ _ (spCheck_zero hck).2 s hs).1)).symm
  rw [hcn] at hct
  refine (callsIn_wide (n := 5)).1 ?_
  have hf1 : Fence.wide.fn 129 := trivial
  have hf2 : Fence.wide.fn 130 := trivial
  have hpu := Try.underlying137
  have HR1 := Aside0.mk (And.intro hr1 hc1)
  have HR0 := Aside0.mk (And.intro hr0 hc0)
  have HM := Aside0.mk (And.intro hm (And.intro hon (And.intro hlen hpl)))
  have HCK := Aside0.mk HCk
  have HCT := Aside0.mk hct
  unfold spreadF
  generalize hD : plN 0 on = D at *
  have HD := Aside0.mk hD
  obtain ⟨i0, hi, hz0, hz1, hz2⟩ := info_parts info22
  have hmk := run_make_blk (P := Try.prog) 29 22 i0 (.int .u64 0) Try.underlying29 hi hz0 hz1 rfl D.length (by rw [hz2]; omega) (by omega)
  clear hr0 hr1 hc0 hc1 hm hon hlen hpl HCk hw hck hct hcn hD
  refine callsIn_of_wp_marks Try.func116 rfl trivial ?_ rfl
  simp only [Try.ntmps116, List.size_toArray, List.length_cons, List.length_nil, Nat.reduceAdd, Nat.reduceSub, Array.replicate_succ, Array.replicate_zero, List.push_toArray, List.append_toArray, List.nil_append, List.cons_append]
  gi_wp2_with (first | (gi_at_call 130; refine (callsIn_wide.2 (HCT.out _ _ (.of (Kd.C_below HR1.out.1 (below_alloc (Below.refl _ _) _)) HR1.out.2))).mono ?_; rintro e w1 ⟨rfl, hb⟩; have HB1 := Aside0.mk hb; clear hb) | (gi_at_call 129; refine (all_in _ (by omega) A1 c1 on _ (Kd.C_below HR1.out.1 (below_then (below_then (below_alloc (Below.refl _ _) _) (by simp) HB1.out) (by have := HB1.out.size; simp at this; omega) (below_alloc (below_alloc (Below.refl _ _) _) _))) HR1.out.2 (by have := HM.out.2.1; omega)).mono ?_; rintro e w2 ⟨Bn, vv, rfl, hS, hb2⟩; have HS := Aside0.mk hS; have HB2 := Aside0.mk hb2; clear hS hb2))
  clear hmk
  have hsz : w.heap.size + 1 ≤ w1.heap.size := by have := HB1.out.size; simpa using this
  have hB1 : Below w.heap.size w w1 := below_then (below_alloc (Below.refl _ _) _) (by simp) HB1.out
  have g0 : Boxed w1 w.heap.size 99 (.slice A0 l.length c0) := boxed_below (Boxed.new w _ _) HB1.out
  generalize hwa : w1.alloc (Obj.cells (Array.replicate D.length (Value.int .u64 0)) 22) = wa at *
  have hwas : wa.heap.size = w1.heap.size + 1 := by rw [← hwa]; simp
  have g0a : Boxed wa w.heap.size 99 (.slice A0 l.length c0) := by rw [← hwa]; exact g0.alloc _
  have g1a : wa.heap[w1.heap.size]? = some (.cells (Array.replicate D.length (Value.int .u64 0)) 22 (0, 0)) := by rw [← hwa]; exact blk_new w1 _
  have hBa : Below w.heap.size w wa := by rw [← hwa]; exact below_alloc hB1 _
  have g2a : Boxed (wa.alloc (.cells #[.slice (some ⟨w1.heap.size, 0, none⟩) D.length D.length] 29)) (w1.heap.size + 1) 29 (.slice (some ⟨w1.heap.size, 0, none⟩) D.length D.length) := box_new hwas _ _
  have hBW : Below w.heap.size w w2 := below_then (below_alloc hBa _) (by simp; omega) HB2.out
  have g0 : Boxed w2 w.heap.size 99 (.slice A0 l.length c0) := boxed_below (g0a.alloc _) HB2.out
  have g1 : w2.heap[w1.heap.size]? = some (.cells (Array.replicate D.length (Value.int .u64 0)) 22 (0, 0)) := blk_below (blk_alloc g1a _) HB2.out
  have g2 : Boxed w2 (w1.heap.size + 1) 29 (.slice (some ⟨w1.heap.size, 0, none⟩) D.length D.length) := boxed_below g2a HB2.out
  have hw2 : w1.heap.size + 1 + 1 ≤ w2.heap.size := by have := HB2.out.size; simp [hwas] at this; omega
  have hS2 : HoldsSp (w1.heap.size + 1 + 1) w2.heap.size Bn vv on w2 := by have := HS.out; simpa [hwas] using this
  have hseq := all_stopsN 4 (by omega) (w1.heap.size + 1 + 1) Bn vv on 3000 HCK.out (by have := HM.out.2.2.1; rw [HM.out.2.2.2]; omega) w2 hS2
  rw [HM.out.2.2.2] at hseq
  clear g0a g1a g2a hBa hwa hwas HS
  refine wpIn_rangeFunc_ownG rfl (by omega) (gf := 150) (lb := #[.pointer (some ⟨Bn, 0, none⟩)]) rfl trivial (enters_of Try.func150 (by kernel_rfl) rfl)
    hseq KeepR.trans (KeepR.put (Nat.le_refl _)) (Below.refl _ _) (fun _ => rfl)
    (fun (xs : List (Fin D.length)) W => SpI w w.heap.size (w1.heap.size + 1) w1.heap.size w2.heap.size l D (xs.map (·.val)) W)
    (fun _ _ _ => False) (SpI.own _ _ _ _ _ _ _ (by omega)) (fun _ _ _ _ _ hs _ _ => hs)
    ⟨⟨⟨A0, c0, by simpa [fSt] using g0, by simpa [fSt] using HR0.out.1, by simpa [fSt] using HR0.out.2⟩, g2, by simpa [fSt] using g1⟩, hBW, Nat.le_refl _⟩
    (fun x => { tmps := #[.slice A0 l.length c0, .slice A1 on.length c1, .pointer (some ⟨w.heap.size, 0, none⟩), undef, .slice none 0 0, .bool false, .pointer (some ⟨w1.heap.size + 1, 0, none⟩), .int .i64 (x.val : Int), .int .i64 (D.getD x.val 0), .slice A1 on.length c1, .int .i64 (D.length : Int), .slice (some ⟨w1.heap.size, 0, none⟩) D.length D.length, .slice A1 on.length c1, .func (.func 150) #[] #[.pointer (some ⟨Bn, 0, none⟩)], .int .i64 (x.val : Int), .int .i64 (D.getD x.val 0), undef, undef, undef, undef, undef, undef, undef, undef, undef, undef, undef, undef, undef, undef, undef, undef, undef, undef, undef, undef, undef, undef, undef, undef], defers := [] }) ?assign ?body ?done ?stop
  case assign =>
    intro l x W K hK
    gi_wp2
    first | exact hK | simpa using hK
  case body =>
    rintro lo pre x W ⟨⟨⟨A, c, h1, h2, h3⟩, h4, h5⟩, h6, h7⟩ hlt
    have HSN := Aside0.mk (fSt_snoc l D (pre.map (·.val)) x.val)
    have hok := fSt_ok l D (pre.map (·.val))
    have hmap : (pre ++ [x]).map (·.val) = pre.map (·.val) ++ [x.val] := by simp
    have HMP := Aside0.mk hmap
    generalize fSt l D (pre.map (·.val)) = s at h1 h2 h3 h5 HSN hok
    obtain ⟨o, k⟩ := s
    simp only at h1 h2 h3 h5 hok
    obtain ⟨ho, hkl⟩ := hok
    clear hmap g0 g1 g2 hBW hS2 hseq
    have hxl := x.isLt
    have hx0 : (0 : Int) ≤ (x.val : Int) := by omega
    have hx1 : (x.val : Int) < (D.length : Int) := by omega
    have HPP := Aside0.mk (show ∀ z, D.getD x.val 0 = z → fStep l D (o, k) x.val = if k < l.length ∧ (l.getD k ⟨0, 0⟩).f0 = z then (o.set x.val (l.getD k ⟨0, 0⟩).f1, k + 1) else (o, k) from fun z e => by subst e; rfl)
    generalize hpp : D.getD x.val 0 = p
    have HPE := Aside0.mk hpp
    clear hpp
    by_cases hk : k < l.length
    · rw [drop_at hk] at h1 h2 h3
      have hd1 := drop_at hk
      have HG := Aside0.mk (show l.getD k ⟨0, 0⟩ = l[k] by simp [List.getD, hk])
      generalize l[k] = y at h1 h2 h3 HG hd1
      have HRD := Aside0.mk hd1
      have hq2 := h2
      obtain ⟨ad, e1, hy0, hy1⟩ := at_T137 (Kd.C_below h2 h6) 0 (by omega) (by simp)
      subst e1
      obtain ⟨ad', e1', -, hyw1⟩ := at_T137 hq2 0 (by omega) (by simp)
      cases e1'
      clear hq2
      rw [show rd_T137 (y :: l.drop (k + 1)) 0 = y from rfl] at hyw1
      simp only [Int.toNat_zero, Nat.zero_mul] at hyw1
      (try rw [Addr.add_zero'] at hyw1)
      rw [show rd_T137 (y :: l.drop (k + 1)) 0 = y from rfl] at hy0 hy1
      simp only [Int.toNat_zero, Nat.zero_mul] at hy0 hy1
      (try rw [Addr.add_zero'] at hy0)
      (try rw [Addr.add_zero'] at hy1)
      have HC := Aside0.mk (And.intro h2 h3)
      generalize hml : (y :: l.drop (k + 1)).length = m at *
      have hm1 : m = (l.drop (k + 1)).length + 1 := by rw [← hml]; simp
      have hpos : (0 : Int) < (m : Int) := by omega
      have HB0 := Aside0.mk (And.intro h1 (And.intro h4 (And.intro h5 (And.intro h6 h7))))
      have hb0 := h1.cell
      have hz0 := h1.frozen
      have hb1 := h4.cell
      have HML := Aside0.mk hml
      have HM1 := Aside0.mk hm1
      obtain ⟨i1, hi1, _, hsz1, _⟩ := info_parts info137
      have hcut := cut_from (P := Try.prog) 99 137 .i64 Try.underlying99 hi1 2 hsz1 (some ad) m c 1 (by omega) (by omega)
      obtain ⟨Ad, hAd⟩ : ∃ A1 : Option Addr, A1 = (if c = (1 : Int).toNat then (some ad) else ((some ad) : Option Addr).map (·.add ((1 : Int).toNat * 2))) := ⟨_, rfl⟩
      rw [← hAd] at hcut
      have HAD := Aside0.mk hAd
      obtain ⟨m', hm'⟩ : ∃ m', m' = m - (1 : Int).toNat := ⟨_, rfl⟩
      obtain ⟨c', hc'⟩ : ∃ c', c' = c - (1 : Int).toNat := ⟨_, rfl⟩
      rw [← hm', ← hc'] at hcut
      have HMC := Aside0.mk (And.intro hm' hc')
      have hq1 : (1 : Int) ≤ (m : Int) := by omega
      have hgc : W.cell? ⟨w1.heap.size, x.val, none⟩ = some (.int .u64 (o[x.val]'(by omega))) := by rw [blk_cell h5 x.val]; simp [ho]
      have hgz := blk_frozen h5 x.val
      clear h1 h2 h3 h4 h5 h6 h7 hd1 hml hm1 hAd hm' hc' hi1 hsz1
      by_cases hp : y.f0 = p
      · have hpe : (y.f0 == p) = true := beq_iff_eq.2 hp
        clear hp
        gi_wp2
        refine wpIn_region_any (by kernel_rfl) ?_
        change wpAnyIn _ _ _ _ _ _ _ _ _ (World.drew _)
        obtain ⟨val, hval⟩ : ∃ val : Nat → Value, val = fun i => (#[Value.slice (some ⟨w1.heap.size, 0, none⟩) D.length D.length, .int .i64 (x.val : Int), .slice (some ad) m c, .pointer (some ad), .pointer (some (ad.add 1)), .int .u64 y.f1, .slice (some ad) m c, .slice Ad m' c', .pointer (some ⟨w1.heap.size, x.val, none⟩)] : Array Value).getD i undef := ⟨_, rfl⟩
        obtain ⟨Wf, hWf⟩ : ∃ Wf : Array Bool → World, Wf = fun l => if l.getD 10 false = true then ((W.drew.setCell ⟨w1.heap.size, x.val, none⟩ (.int .u64 y.f1)).setCell ⟨w.heap.size, 0, none⟩ (.slice Ad m' c')) else if l.getD 9 false = true then W.drew.setCell ⟨w1.heap.size, x.val, none⟩ (.int .u64 y.f1) else W.drew := ⟨_, rfl⟩
        obtain ⟨h1, h4, h5, h6, h7⟩ := HB0.out
        have hoN : w.heap.size ≤ w1.heap.size := by omega
        have hBl : ∀ lz, Below w.heap.size w (Wf lz) := fun lz => by
          rw [hWf]; simp only
          split
          · exact ((h6.drew).setCell (p := ⟨w1.heap.size, x.val, none⟩) (by show w.heap.size ≤ w1.heap.size; omega) _).setCell (p := ⟨w.heap.size, 0, none⟩) (Nat.le_refl _) _
          split
          · exact (h6.drew).setCell (p := ⟨w1.heap.size, x.val, none⟩) (by show w.heap.size ≤ w1.heap.size; omega) _
          · exact h6.drew
        have hBo : ∀ lz, Boxed (Wf lz) (w1.heap.size + 1) 29 (.slice (some ⟨w1.heap.size, 0, none⟩) D.length D.length) := fun lz => by
          rw [hWf]; simp only
          split
          · exact boxed_far (boxed_far (show Boxed W.drew _ _ _ from h4) (by omega) _) (by omega) _
          split
          · exact boxed_far (show Boxed W.drew _ _ _ from h4) (by omega) _
          · exact h4
        have hB0 : ∀ lz : Array Bool, lz.getD 10 false = false → Boxed (Wf lz) w.heap.size 99 (.slice (some ad) m c) := fun lz hz => by
          rw [hWf]; simp only
          rw [if_neg (by rw [hz]; simp)]
          split
          · exact boxed_far (show Boxed W.drew _ _ _ from h1) (by omega) _
          · exact h1
        have hBg : ∀ lz : Array Bool, lz.getD 10 false = false → lz.getD 9 false = false → (Wf lz).heap[w1.heap.size]? = some (.cells (o.map (Value.int .u64)).toArray 22 (0, 0)) := fun lz hz hz9 => by
          rw [hWf]; simp only
          rw [if_neg (by rw [hz]; simp), if_neg (by rw [hz9]; simp)]
          exact h5
        have HS := Aside0.mk (And.intro hBl (And.intro hBo (And.intro hB0 hBg)))
        have HYW := Aside0.mk hyw1
        have hsame : ∀ (lz : Array Bool) (i : Nat), i ≠ 9 → i ≠ 10 → Wf (lz.setIfInBounds i true) = Wf lz := fun lz i h9 h10 => by
          rw [hWf]; simp only
          rw [getD_set_ne' _ _ _ _ h9, getD_set_ne' _ _ _ _ h10]
        have HWS := Aside0.mk hsame
        have HWD := Aside0.mk hWf
        have HVD := Aside0.mk hval
        clear h1 h4 h5 h6 h7 hBl hBo hB0 hBg hsame hWf hval hb0 hz0 hb1 hgc hgz
        refine wpAnyIn_held (fun lz a w' => lz.size = 11 ∧ (lz.getD 10 false = true → ∀ j, j < 10 → lz.getD j false = true) ∧ HeldAt ({ tmps := #[.slice A0 l.length c0, .slice A1 on.length c1, .pointer (some ⟨w.heap.size, 0, none⟩), undef, .slice none 0 0, .bool false, .pointer (some ⟨w1.heap.size + 1, 0, none⟩), .int .i64 (x.val : Int), .int .i64 p, .slice A1 on.length c1, .int .i64 (D.length : Int), .slice (some ⟨w1.heap.size, 0, none⟩) D.length D.length, .slice A1 on.length c1, .func (.func 150) #[] #[.pointer (some ⟨Bn, 0, none⟩)], .int .i64 (x.val : Int), .int .i64 p, .slice (some ad) m c, .int .i64 (m : Int), .bool true, .bool true, .slice (some ad) m c, .pointer (some ad), .pointer (some ad), .int .i64 y.f0, .int .i64 p, .bool true, .bool true, undef, undef, undef, undef, undef, undef, undef, undef, undef, undef, undef, undef, undef], defers := [] }) 27 9 val Wf lz a w') ?stepR ?doneR _ _ _ _ (by simp) ⟨by simp, fun h => by simp at h, ⟨rfl, fun _ _ => rfl, fun i hi hl => ?_, by rw [HWD.out]; simp⟩⟩
        case stepR =>
          rintro i lz a w' ⟨hsz, h10, hS⟩ hl hd hi
          have hi11 : i < 11 := by simpa using hi
          clear hi
          obtain rfl := hS.wd
          have hlf : lz.getD i false = false := by rw [← getD_tf _ _ (by omega)]; exact hl
          have n10 : i ≠ 10 → lz.getD 10 false = false := fun hne => by
            cases hq : lz.getD 10 false with
            | false => rfl
            | true => have := h10 hq i (by omega); rw [hlf] at this; cases this
          have N10 := Aside0.mk n10
          have H10 := Aside0.mk h10
          have HH := Aside0.mk hS
          clear n10 h10 hl
          obtain h | h | h | h | h | h | h | h | h | h | h : i = 0 ∨ i = 1 ∨ i = 2 ∨ i = 3 ∨ i = 4 ∨ i = 5 ∨ i = 6 ∨ i = 7 ∨ i = 8 ∨ i = 9 ∨ i = 10 := by omega
          all_goals subst h
          · have e6 := hS.fix 6 (by omega)
            simp only [Act.eval] at e6
            have hc := (HS.out.2.1 lz).cell
            refine wpOpIn_step rfl (fun K hK => ?_)
            clear hd hS
            go_simp
            refine hK _ _ ⟨by simpa using hsz, fun h => absurd h (by rw [getD_set_ne' _ _ _ _ (by omega), N10.out (by omega)]; simp), ?_⟩
            exact HH.out.put_ 0 (by omega) (by simp) (HWS.out _ _ (by omega) (by omega)) (by rw [HVD.out]; rfl)
          · have e7 := hS.fix 7 (by omega)
            simp only [Act.eval] at e7
            refine wpOpIn_step rfl (fun K hK => ?_)
            clear hd hS
            go_simp
            refine hK _ _ ⟨by simpa using hsz, fun h => absurd h (by rw [getD_set_ne' _ _ _ _ (by omega), N10.out (by omega)]; simp), ?_⟩
            exact HH.out.put_ 1 (by omega) (by simp) (HWS.out _ _ (by omega) (by omega)) (by rw [HVD.out]; rfl)
          · have e2 := hS.fix 2 (by omega)
            simp only [Act.eval] at e2
            have hc := (HS.out.2.2.1 lz (N10.out (by omega))).cell
            refine wpOpIn_step rfl (fun K hK => ?_)
            clear hd hS
            go_simp
            refine hK _ _ ⟨by simpa using hsz, fun h => absurd h (by rw [getD_set_ne' _ _ _ _ (by omega), N10.out (by omega)]; simp), ?_⟩
            exact HH.out.put_ 2 (by omega) (by simp) (HWS.out _ _ (by omega) (by omega)) (by rw [HVD.out]; rfl)
          · have d2 : a.eval (.tmp (27 + 2)) = val 2 := hS.got 2 (by omega) (hd _ rfl ⟨2, .data⟩ (by simp) (by kernel_rfl))
            rw [HVD.out] at d2
            simp [Act.eval] at d2
            refine wpOpIn_step rfl (fun K hK => ?_)
            clear hd hS
            go_simp
            refine hK _ _ ⟨by simpa using hsz, fun h => absurd h (by rw [getD_set_ne' _ _ _ _ (by omega), N10.out (by omega)]; simp), ?_⟩
            exact HH.out.put_ 3 (by omega) (by simp) (HWS.out _ _ (by omega) (by omega)) (by rw [HVD.out]; rfl)
          · have d3 : a.eval (.tmp (27 + 3)) = val 3 := hS.got 3 (by omega) (hd _ rfl ⟨3, .data⟩ (by simp) (by kernel_rfl))
            rw [HVD.out] at d3
            simp [Act.eval] at d3
            refine wpOpIn_step rfl (fun K hK => ?_)
            clear hd hS
            go_simp
            refine hK _ _ ⟨by simpa using hsz, fun h => absurd h (by rw [getD_set_ne' _ _ _ _ (by omega), N10.out (by omega)]; simp), ?_⟩
            exact HH.out.put_ 4 (by omega) (by simp) (HWS.out _ _ (by omega) (by omega)) (by rw [HVD.out]; rfl)
          · have d4 : a.eval (.tmp (27 + 4)) = val 4 := hS.got 4 (by omega) (hd _ rfl ⟨4, .data⟩ (by simp) (by kernel_rfl))
            rw [HVD.out] at d4
            simp [Act.eval] at d4
            have hc := ((HS.out.1 lz).cell (World.block_lt_of_cell? w _ HYW.out)).trans HYW.out
            refine wpOpIn_step rfl (fun K hK => ?_)
            clear hd hS
            go_simp
            refine hK _ _ ⟨by simpa using hsz, fun h => absurd h (by rw [getD_set_ne' _ _ _ _ (by omega), N10.out (by omega)]; simp), ?_⟩
            exact HH.out.put_ 5 (by omega) (by simp) (HWS.out _ _ (by omega) (by omega)) (by rw [HVD.out]; rfl)
          · have e2 := hS.fix 2 (by omega)
            simp only [Act.eval] at e2
            have hc := (HS.out.2.2.1 lz (N10.out (by omega))).cell
            refine wpOpIn_step rfl (fun K hK => ?_)
            clear hd hS
            go_simp
            refine hK _ _ ⟨by simpa using hsz, fun h => absurd h (by rw [getD_set_ne' _ _ _ _ (by omega), N10.out (by omega)]; simp), ?_⟩
            exact HH.out.put_ 6 (by omega) (by simp) (HWS.out _ _ (by omega) (by omega)) (by rw [HVD.out]; rfl)
          · have d6 : a.eval (.tmp (27 + 6)) = val 6 := hS.got 6 (by omega) (hd _ rfl ⟨6, .data⟩ (by simp) (by kernel_rfl))
            rw [HVD.out] at d6
            simp [Act.eval] at d6
            refine wpOpIn_step rfl (fun K hK => ?_)
            clear hd hS
            go_simp
            refine hK _ _ ⟨by simpa using hsz, fun h => absurd h (by rw [getD_set_ne' _ _ _ _ (by omega), N10.out (by omega)]; simp), ?_⟩
            exact HH.out.put_ 7 (by omega) (by simp) (HWS.out _ _ (by omega) (by omega)) (by rw [HVD.out]; rfl)
          · have d0 : a.eval (.tmp (27 + 0)) = val 0 := hS.got 0 (by omega) (hd _ rfl ⟨0, .data⟩ (by simp) (by kernel_rfl))
            rw [HVD.out] at d0
            simp [Act.eval] at d0
            have d1 : a.eval (.tmp (27 + 1)) = val 1 := hS.got 1 (by omega) (hd _ rfl ⟨1, .data⟩ (by simp) (by kernel_rfl))
            rw [HVD.out] at d1
            simp [Act.eval] at d1
            refine wpOpIn_step rfl (fun K hK => ?_)
            clear hd hS
            go_simp
            refine hK _ _ ⟨by simpa using hsz, fun h => absurd h (by rw [getD_set_ne' _ _ _ _ (by omega), N10.out (by omega)]; simp), ?_⟩
            exact HH.out.put_ 8 (by omega) (by simp) (HWS.out _ _ (by omega) (by omega)) (by rw [HVD.out]; rfl)
          · -- the store into the row
            have d8 : a.eval (.tmp (27 + 8)) = val 8 := hS.got 8 (by omega) (hd _ rfl ⟨8, .data⟩ (by simp) (by kernel_rfl))
            rw [HVD.out] at d8
            simp [Act.eval] at d8
            have d5 : a.eval (.tmp (27 + 5)) = val 5 := hS.got 5 (by omega) (hd _ rfl ⟨5, .data⟩ (by simp) (by kernel_rfl))
            rw [HVD.out] at d5
            simp [Act.eval] at d5
            have hbg := HS.out.2.2.2 lz (N10.out (by omega)) hlf
            have hgc : (Wf lz).cell? ⟨w1.heap.size, x.val, none⟩ = some (.int .u64 (o[x.val]'(by omega))) := by rw [blk_cell hbg x.val]; simp [ho]
            have hgz := blk_frozen hbg x.val
            refine wpOpIn_step rfl (fun K hK => ?_)
            clear hd hS hbg
            go_simp
            refine hK _ _ ⟨by simpa using hsz, fun h => absurd h (by rw [getD_set_ne' _ _ _ _ (by omega), N10.out (by omega)]; simp), HH.out.store 9 (by omega) ?_⟩
            have h10f := N10.out (by omega)
            rw [HWD.out]
            simp only
            rw [getD_set_ne' _ _ _ _ (by omega), h10f, hlf, getD_set_self _ _ _ (by omega)]
            simp
          · -- the store into the row's box
            have e2 := hS.fix 2 (by omega)
            simp only [Act.eval] at e2
            have d7 : a.eval (.tmp (27 + 7)) = val 7 := hS.got 7 (by omega) (hd _ rfl ⟨7, .data⟩ (by simp) (by kernel_rfl))
            rw [HVD.out] at d7
            simp [Act.eval] at d7
            have hb := HS.out.2.2.1 lz hlf
            have hc := hb.cell
            have hz := hb.frozen
            have h9 := hd _ rfl ⟨9, .chain⟩ (by simp) (by kernel_rfl)
            simp only at h9
            have hal : ∀ j, j < 10 → (lz.setIfInBounds 10 true).getD j false = true := fun j hj => by
              obtain h | h | h | h | h | h | h | h | h | h : j = 0 ∨ j = 1 ∨ j = 2 ∨ j = 3 ∨ j = 4 ∨ j = 5 ∨ j = 6 ∨ j = 7 ∨ j = 8 ∨ j = 9 := by omega
              all_goals subst h
              all_goals exact getD_set_mono _ _ _ (hd _ rfl ⟨_, .phase⟩ (by simp) (by kernel_rfl))
            have HAL := Aside0.mk hal
            refine wpOpIn_step rfl (fun K hK => ?_)
            clear hd hS hb hal
            go_simp
            refine hK _ _ ⟨by simpa using hsz, fun _ => HAL.out, HH.out.store 10 (by omega) ?_⟩
            rw [HWD.out]
            simp only
            rw [hlf, h9, getD_set_self _ _ _ (by omega)]
            simp
        case doneR =>
          rintro lz a w' ⟨hsz, h10, hS⟩ hr
          have hall := ready_all (by simpa using hsz) (by kernel_rfl) hr
          have l10 := hall 10 (by simp)
          rw [getD_tf _ _ (by omega)] at l10
          have hw' := hS.wd
          rw [HWD.out] at hw'
          simp only at hw'
          rw [if_pos l10] at hw'
          subst hw'
          obtain ⟨h1, h4, h5, h6, h7⟩ := HB0.out
          have HF : fSt l D ((pre ++ [x]).map (·.val)) = (o.set x.val y.f1, k + 1) := by rw [HMP.out, HSN.out, HPP.out p HPE.out, HG.out, if_pos ⟨hk, beq_iff_eq.1 hpe⟩]
          refine ⟨?_, ?_, ?_⟩
          · exact (((show KeepsFrom w2.heap.size W W.drew from ⟨Nat.le_refl _, fun k o _ hk _ => hk⟩).trans (KeepsFrom.of_grownBy (World.grownBy_set W.drew w1.heap.size x.val _) (fun j e => by cases e; omega))).trans (KeepsFrom.of_grownBy (World.grownBy_set _ w.heap.size 0 _) (fun j e => by cases e; omega)))
          · exact ((keepR_set _ (by omega) _ : KeepR _ _ W.drew _)).trans (keepR_set _ (by omega) _)
          · show SpI _ _ _ _ _ _ _ _ _
            unfold SpI
            rw [HF]
            simp only
            have hcd := Kd.C_drop (k := kPu) (m := 1) (c := c) (HML.out.symm ▸ HC.out.1) (by simp) (by rw [HML.out]; exact HC.out.2)
            have hme : (l.drop (k + 1)).length = m' := by have := HMC.out.1; have := HM1.out; simp at *; omega
            rw [hme]
            have hgb : ((W.drew.setCell ⟨w1.heap.size, x.val, none⟩ (.int .u64 y.f1)).setCell ⟨w.heap.size, 0, none⟩ (.slice Ad m' c')).heap[w1.heap.size]? = some (.cells (((o.map (Value.int .u64)).toArray).setIfInBounds x.val (.int .u64 y.f1)) 22 (0, 0)) := blk_far (blk_put (show W.drew.heap[w1.heap.size]? = _ from h5) x.val _ rfl) (by show w1.heap.size ≠ w.heap.size; omega) _
            have hcs : ((o.map (Value.int .u64)).toArray).setIfInBounds x.val (.int .u64 y.f1) = ((o.set x.val y.f1).map (Value.int .u64)).toArray := by simp [List.map_set]
            rw [hcs] at hgb
            refine ⟨⟨⟨Ad, c', Boxed.set _ (boxed_far (show Boxed W.drew _ _ _ from h1) (by omega) _), ?_, ?_⟩, boxed_far (boxed_far (show Boxed W.drew _ _ _ from h4) (by omega) _) (by omega) _, hgb⟩, ?_, ?_⟩
            · rw [HAD.out, ← hme]; exact hcd
            · have := HMC.out.1; have := HMC.out.2; have := HC.out.2; simp at *; omega
            · exact ((h6.drew).setCell (p := ⟨w1.heap.size, x.val, none⟩) (by show w.heap.size ≤ w1.heap.size; omega) _).setCell (p := ⟨w.heap.size, 0, none⟩) (Nat.le_refl _) _
            · simpa [World.setCell] using h7
        · exfalso
          rw [Array.getD_eq_getD_getElem?] at hl
          rcases Nat.lt_or_ge i 11 with h | h
          · rw [Array.getElem?_eq_getElem (by simpa using h)] at hl; simp at hl
          · rw [Array.getElem?_eq_none (by simpa using h)] at hl; simp at hl
      · have hpe : (y.f0 == p) = false := beq_eq_false_iff_ne.2 hp
        have HN := Aside0.mk hp
        clear hp hcut hgc hgz
        gi_wp2
        have HF : fSt l D ((pre ++ [x]).map (·.val)) = (o, k) := by rw [HMP.out, HSN.out, HPP.out p HPE.out, HG.out, if_neg (fun h => HN.out h.2)]
        obtain ⟨h1, h4, h5, h6, h7⟩ := HB0.out
        refine ⟨KeepsFrom.refl _ _, KeepR.refl _ _ _, ?_⟩
        show SpI _ _ _ _ _ _ _ _ _
        unfold SpI
        rw [HF]
        simp only
        rw [HRD.out, HML.out]
        exact ⟨⟨⟨some ad, c, h1, HC.out.1, HC.out.2⟩, h4, h5⟩, h6, h7⟩
    · have hke : l.drop k = [] := List.drop_eq_nil_of_le (by omega)
      have HN := Aside0.mk hk
      have HB0 := Aside0.mk (And.intro h1 (And.intro h4 (And.intro h5 (And.intro h6 h7))))
      have HC := Aside0.mk (And.intro h2 h3)
      rw [hke] at h1
      have hb0 := h1.cell
      simp only [List.length_nil] at hb0
      clear h1 h2 h3 h4 h5 h6 h7 hk
      gi_wp2
      have HF : fSt l D ((pre ++ [x]).map (·.val)) = (o, k) := by rw [HMP.out, HSN.out, HPP.out p HPE.out, if_neg (fun h => HN.out h.1)]
      obtain ⟨h1, h4, h5, h6, h7⟩ := HB0.out
      refine ⟨KeepsFrom.refl _ _, KeepR.refl _ _ _, ?_⟩
      show SpI _ _ _ _ _ _ _ _ _
      unfold SpI
      rw [HF]
      exact ⟨⟨⟨A, c, h1, HC.out.1, HC.out.2⟩, h4, h5⟩, h6, h7⟩
  case done =>
    rintro Dd ys W hD hys ⟨⟨⟨A, c, h1, h2, h3⟩, h4, h5⟩, h6, h7⟩ hK
    rw [hys] at h1 h2 h3 h5
    have hok := fSt_ok l D (List.range D.length)
    generalize hs : fSt l D (List.range D.length) = s at h1 h2 h3 h5 hok
    obtain ⟨o, k⟩ := s
    have HSE := Aside0.mk hs
    clear hs
    simp only at h1 h2 h3 h5 hok
    have HP := Aside0.mk (And.intro h5 (And.intro h6 h7))
    have HKK := Aside0.mk hK
    have HOK := Aside0.mk hok
    have hb0 := h1.cell
    have hb1 := h4.cell
    clear h1 h2 h3 h4 h5 h6 h7 hK hseq g0 g1 g2 hBW hS2 hok
    gi_wp2
    gi_quiet_th (fail)
    gi_wp2
    refine ⟨by simp, .inl ⟨_, _, rfl, run_takeDeferred (by simpa using HKK.out), ?_⟩⟩
    obtain ⟨h5, h6, h7⟩ := HP.out
    have hol := HOK.out.1
    have hkl := HOK.out.2
    have hbq : (((l.length - k : Nat) : Int) == 0) = decide (k = l.length) := by
      rw [Bool.eq_iff_iff, beq_iff_eq, decide_eq_true_eq]; omega
    have hne : w1.heap.size ≠ Dd := by omega
    refine ⟨_, results_tmp2 rfl _ _ _, .slice (some ⟨w1.heap.size, 0, none⟩) D.length D.length, by rw [HSE.out, ← hbq]; rfl, ?_, ?_⟩
    · rw [HSE.out]
      intro w' hk'
      have hgf : w'.heap[w1.heap.size]? = some (.cells (o.map (Value.int .u64)).toArray 22 (0, 0)) := by
        have h0 := putObj_far (W := W.drewN nq) (o := .deferred none) hne (show (W.drewN nq).heap[w1.heap.size]? = _ from h5)
        exact (hk'.2 _ (by omega) (blk_lt h0)).trans h0
      have hC := C_of_blk (d := Kd.int .u64) o hgf (reps_nums _ .u64 o) (by have := HM.out.2.2.1; omega)
      rw [← hol]
      exact .of hC (Nat.le_refl _)
    · exact (pw_below_drewN h6 nq).trans (belowK_b (w := w2) (by omega) (W.drewN nq) Dd _ _ hD (show (W.drewN nq).heap[Dd]? = _ from HKK.out) rfl rfl)
  case stop =>
    rintro D c pre W _ _ h _
    exact h.elim
end Go.Proofs.Ytfbjjbbhnmoolaa.P
namespace Go.Proofs.Ytfbjjbbhnmoolaa.P
open Go.RowKit Go.Shelf Go.Proofs.YtfbjjbbhnmoolaaW.PrintWords Go.Proofs.YtfbjjbbhnmoolaaW.PrintLast Go.Proofs.YtfbjjbbhnmoolaaW.PrintMore
theorem FI.below {α : Type} {d : Kd α} {base : Nat} {w w' : World} {v : Value} {l : List α} (h : FI d base w v l) (hb : Below w.heap.size w w') : FI d base w' v l := h.step (KA.below hb)
def overEF (h : Fh) (pos neg : List Sp) : Int := if checkF h = 0 then (if spCheck pos = 0 then spCheck neg else spCheck pos) else checkF h
def overF (h : Fh) (pos neg : List Sp) : Fh × Int := if overEF h pos neg ≠ 0 then (emptyF, overEF h pos neg)
  else if (spreadF (openF h).1 pos).2 && (spreadF (openF h).2.1 neg).2 then (⟨h.f0, h.f1, h.f2, h.f3, h.f4, pos, neg, (spreadF (openF h).1 pos).1, (spreadF (openF h).2.1 neg).1⟩, 0) else (emptyF, 23)
set_option maxHeartbeats 16000000 in
set_option maxRecDepth 100000 in
theorem fover_c (h : Fh) (hw : wfF h) (pos neg : List Sp) (hwp : wfSps pos) (hwn : wfSps neg) (w : World) (v vp vn : Value) (hv : GI w v h) (hvp : SI kSp w vp pos) (hvn : SI kSp w vn neg) : Calls Try.prog 89 #[v, vp, vn] w fun e w' =>
    ∃ v', e = .returned (.tuple #[v', .int .i64 (overF h pos neg).2]) ∧ GF w.heap.size w' v' (overF h pos neg).1 ∧ Below w.heap.size w w' := by
  have hud := Try.underlying31
  obtain ⟨A5, c5, A6, c6, A7, c7, A8, c8, e, -⟩ := hv.open_
  subst e
  have hvp' := hvp
  have hvn' := hvn
  obtain ⟨a1, g1, e1, -⟩ := hvp'; subst e1
  obtain ⟨a2, g2, e2, -⟩ := hvn'; subst e2
  have ho := fopen_f h hw
  have kp := spanCheck_c pos hwp
  have kn := spanCheck_c neg hwn
  have hrow := openF_row hw
  have hs1 := fun (hk : spCheck pos = 0) => fspread_c (openF h).1 pos hwp hk hrow.1.len
  have hs2 := fun (hk : spCheck neg = 0) => fspread_c (openF h).2.1 neg hwn hk hrow.2.len
  have hc1 := fun (hk : spCheck pos = 0) => cloneSp_c pos (by have := (spCheck_zero hk).1; omega)
  have hc2 := fun (hk : spCheck neg = 0) => cloneSp_c neg (by have := (spCheck_zero hk).1; omega)
  have SP := Aside0.mk hvp
  have SN := Aside0.mk hvn
  have he : ∀ (e0 : Int), checkF h = e0 → overEF h pos neg = if e0 = 0 then (if spCheck pos = 0 then spCheck neg else spCheck pos) else e0 := fun e0 q => by subst q; rfl
  have B := Aside0.mk (below_alloc (below_alloc (Below.refl w.heap.size w) (.cells #[.int .i64 h.f0, .int .u64 h.f1, .int .u64 h.f2, .int .u64 h.f3, .int .u64 h.f4, .slice A5 h.f5.length c5, .slice A6 h.f6.length c6, .slice A7 h.f7.length c7, .slice A8 h.f8.length c8] 31)) (.cells #[.int .i64 0, .int .u64 0, .int .u64 0, .int .u64 0, .int .u64 0, .slice none 0 0, .slice none 0 0, .slice none 0 0, .slice none 0 0] 31))
  have X := Aside0.mk ((Blk.new w #[.int .i64 h.f0, .int .u64 h.f1, .int .u64 h.f2, .int .u64 h.f3, .int .u64 h.f4, .slice A5 h.f5.length c5, .slice A6 h.f6.length c6, .slice A7 h.f7.length c7, .slice A8 h.f8.length c8] 31).alloc (.cells #[.int .i64 0, .int .u64 0, .int .u64 0, .int .u64 0, .int .u64 0, .slice none 0 0, .slice none 0 0, .slice none 0 0, .slice none 0 0] 31))
  have Y := Aside0.mk (Blk.at1 (w := w) (.cells #[.int .i64 h.f0, .int .u64 h.f1, .int .u64 h.f2, .int .u64 h.f3, .int .u64 h.f4, .slice A5 h.f5.length c5, .slice A6 h.f6.length c6, .slice A7 h.f7.length c7, .slice A8 h.f8.length c8] 31) #[.int .i64 0, .int .u64 0, .int .u64 0, .int .u64 0, .int .u64 0, .slice none 0 0, .slice none 0 0, .slice none 0 0, .slice none 0 0] 31)
  have hx := fun i => X.out.cell i
  have hy := fun i => Y.out.cell i
  have zx := fun i => blk_frozen X.out i
  have zy := fun i => blk_frozen Y.out i
  have HV := Aside0.mk (hv.below B.out)
  clear hv hvp hvn hw hwp hwn hrow
  obtain ⟨⟨rh, re⟩, hr⟩ : ∃ r, r = overF h pos neg := ⟨_, rfl⟩
  rw [← hr]
  unfold overF at hr
  have hce : checkF h = (openF h).2.2 := rfl
  rw [he _ hce] at hr
  clear he hce
  generalize spreadF (openF h).1 pos = ru at *
  generalize spreadF (openF h).2.1 neg = rn at *
  generalize openF h = oo at *
  obtain ⟨p, n, e0⟩ := oo
  obtain ⟨du, up⟩ := ru
  obtain ⟨dn, down⟩ := rn
  simp only at ho hs1 hs2 hr ⊢
  generalize spCheck pos = ep at *
  generalize spCheck neg = en at *
  have HO := Aside0.mk ho
  have KP := Aside0.mk kp
  have KN := Aside0.mk kn
  clear ho kp kn
  by_cases c0 : e0 = 0
  rotate_left
  · rw [if_neg c0, if_pos c0] at hr
    injection hr with r1 r2
    subst r1; subst r2
    have d0 : (re == 0) = false := beq_eq_false_iff_ne.2 c0
    have d1 : (re != 0) = true := bne_iff_ne.2 c0
    clear c0 hs1 hs2 hc1 hc2
    go_enter Try.func89, Try.ntmps89
    go_wp2_with (first | (go_at_call 101; (with_reducible refine (HO.out _ _ HV.out).mono ?_); rintro e W1 ⟨v0, v1, rfl, h0, h1, hb⟩; replace B := Aside0.mk (below_then B.out B.out.size hb); replace X := Aside0.mk (X.out.below hb); replace hx := fun i => X.out.cell i; replace zx := fun i => blk_frozen X.out i; replace Y := Aside0.mk (Y.out.below hb); replace hy := fun i => Y.out.cell i; replace zy := fun i => blk_frozen Y.out i; have P := Aside0.mk (show FI kPu (w.heap.size + 1 + 1) W1 v0 p by simpa using h0); have N := Aside0.mk (show FI kPu (w.heap.size + 1 + 1) W1 v1 n by simpa using h1); clear h0 h1 hb))
    refine bodyPost_ret (results_ct rfl _ _ (w.heap.size + 1) 31 #[.int .i64 0, .int .u64 0, .int .u64 0, .int .u64 0, .int .u64 0, .slice none 0 0, .slice none 0 0, .slice none 0 0, .slice none 0 0] (0, 0) _ rfl (nine (Y.out) _ _ _ _ _ _ _ _ _) Try.underlying31 rfl (by kernel_rfl)) rfl ?_
    exact ⟨_, rfl, GF.empty _ _, nine_below B.out (by omega) _ _ _ _ _ _ _ _ _⟩
  subst c0
  rw [if_pos rfl] at hr
  by_cases c1 : ep = 0
  rotate_left
  · rw [if_neg c1, if_pos c1] at hr
    injection hr with r1 r2
    subst r1; subst r2
    have d0 : (re == 0) = false := beq_eq_false_iff_ne.2 c1
    have d1 : (re != 0) = true := bne_iff_ne.2 c1
    clear c1 hs1 hs2 hc1 hc2
    go_enter Try.func89, Try.ntmps89
    go_wp2_with (first | (go_at_call 101; (with_reducible refine (HO.out _ _ HV.out).mono ?_); rintro e W1 ⟨v0, v1, rfl, h0, h1, hb⟩; replace B := Aside0.mk (below_then B.out B.out.size hb); replace X := Aside0.mk (X.out.below hb); replace hx := fun i => X.out.cell i; replace zx := fun i => blk_frozen X.out i; replace Y := Aside0.mk (Y.out.below hb); replace hy := fun i => Y.out.cell i; replace zy := fun i => blk_frozen Y.out i; have P := Aside0.mk (show FI kPu (w.heap.size + 1 + 1) W1 v0 p by simpa using h0); have N := Aside0.mk (show FI kPu (w.heap.size + 1 + 1) W1 v1 n by simpa using h1); clear h0 h1 hb) | (go_at_call 104; (with_reducible refine (KP.out _ _ (SP.out.below B.out)).mono ?_); rintro e W2 ⟨rfl, hb⟩; replace B := Aside0.mk (below_then B.out B.out.size hb); replace P := Aside0.mk (P.out.below hb); replace N := Aside0.mk (N.out.below hb); replace X := Aside0.mk (X.out.below hb); replace hx := fun i => X.out.cell i; replace zx := fun i => blk_frozen X.out i; replace Y := Aside0.mk (Y.out.below hb); replace hy := fun i => Y.out.cell i; replace zy := fun i => blk_frozen Y.out i; clear  hb))
    refine bodyPost_ret (results_ct rfl _ _ (w.heap.size + 1) 31 #[.int .i64 0, .int .u64 0, .int .u64 0, .int .u64 0, .int .u64 0, .slice none 0 0, .slice none 0 0, .slice none 0 0, .slice none 0 0] (0, 0) _ rfl (nine (Y.out) _ _ _ _ _ _ _ _ _) Try.underlying31 rfl (by kernel_rfl)) rfl ?_
    exact ⟨_, rfl, GF.empty _ _, nine_below B.out (by omega) _ _ _ _ _ _ _ _ _⟩
  subst c1
  rw [if_pos rfl] at hr
  have HS1 := Aside0.mk (hs1 rfl)
  have HC1 := Aside0.mk (hc1 rfl)
  by_cases c2 : en = 0
  rotate_left
  · rw [if_pos c2] at hr
    injection hr with r1 r2
    subst r1; subst r2
    have d1 : (re != 0) = true := bne_iff_ne.2 c2
    clear c2 hs1 hs2 hc1 hc2
    go_enter Try.func89, Try.ntmps89
    go_wp2_with (first | (go_at_call 101; (with_reducible refine (HO.out _ _ HV.out).mono ?_); rintro e W1 ⟨v0, v1, rfl, h0, h1, hb⟩; replace B := Aside0.mk (below_then B.out B.out.size hb); replace X := Aside0.mk (X.out.below hb); replace hx := fun i => X.out.cell i; replace zx := fun i => blk_frozen X.out i; replace Y := Aside0.mk (Y.out.below hb); replace hy := fun i => Y.out.cell i; replace zy := fun i => blk_frozen Y.out i; have P := Aside0.mk (show FI kPu (w.heap.size + 1 + 1) W1 v0 p by simpa using h0); have N := Aside0.mk (show FI kPu (w.heap.size + 1 + 1) W1 v1 n by simpa using h1); clear h0 h1 hb) | (go_at_call 104; (with_reducible refine (KP.out _ _ (SP.out.below B.out)).mono ?_); rintro e W2 ⟨rfl, hb⟩; replace B := Aside0.mk (below_then B.out B.out.size hb); replace P := Aside0.mk (P.out.below hb); replace N := Aside0.mk (N.out.below hb); replace X := Aside0.mk (X.out.below hb); replace hx := fun i => X.out.cell i; replace zx := fun i => blk_frozen X.out i; replace Y := Aside0.mk (Y.out.below hb); replace hy := fun i => Y.out.cell i; replace zy := fun i => blk_frozen Y.out i; clear  hb) | (go_at_call 104; (with_reducible refine (KN.out _ _ (SN.out.below B.out)).mono ?_); rintro e W3 ⟨rfl, hb⟩; replace B := Aside0.mk (below_then B.out B.out.size hb); replace P := Aside0.mk (P.out.below hb); replace N := Aside0.mk (N.out.below hb); replace X := Aside0.mk (X.out.below hb); replace hx := fun i => X.out.cell i; replace zx := fun i => blk_frozen X.out i; replace Y := Aside0.mk (Y.out.below hb); replace hy := fun i => Y.out.cell i; replace zy := fun i => blk_frozen Y.out i; clear  hb))
    refine bodyPost_ret (results_ct rfl _ _ (w.heap.size + 1) 31 #[.int .i64 0, .int .u64 0, .int .u64 0, .int .u64 0, .int .u64 0, .slice none 0 0, .slice none 0 0, .slice none 0 0, .slice none 0 0] (0, 0) _ rfl (nine (Y.out) _ _ _ _ _ _ _ _ _) Try.underlying31 rfl (by kernel_rfl)) rfl ?_
    exact ⟨_, rfl, GF.empty _ _, nine_below B.out (by omega) _ _ _ _ _ _ _ _ _⟩
  subst c2
  have HS2 := Aside0.mk (hs2 rfl)
  have HC2 := Aside0.mk (hc2 rfl)
  rw [if_neg (by simp)] at hr
  clear hs1 hs2 hc1 hc2
  cases up with
  | false =>
    simp only [Bool.false_and, Bool.false_eq_true, if_false] at hr
    injection hr with r1 r2
    subst r1; subst r2
    go_enter Try.func89, Try.ntmps89
    go_wp2_with (first | (go_at_call 101; (with_reducible refine (HO.out _ _ HV.out).mono ?_); rintro e W1 ⟨v0, v1, rfl, h0, h1, hb⟩; replace B := Aside0.mk (below_then B.out B.out.size hb); replace X := Aside0.mk (X.out.below hb); replace hx := fun i => X.out.cell i; replace zx := fun i => blk_frozen X.out i; replace Y := Aside0.mk (Y.out.below hb); replace hy := fun i => Y.out.cell i; replace zy := fun i => blk_frozen Y.out i; have P := Aside0.mk (show FI kPu (w.heap.size + 1 + 1) W1 v0 p by simpa using h0); have N := Aside0.mk (show FI kPu (w.heap.size + 1 + 1) W1 v1 n by simpa using h1); clear h0 h1 hb) | (go_at_call 104; (with_reducible refine (KP.out _ _ (SP.out.below B.out)).mono ?_); rintro e W2 ⟨rfl, hb⟩; replace B := Aside0.mk (below_then B.out B.out.size hb); replace P := Aside0.mk (P.out.below hb); replace N := Aside0.mk (N.out.below hb); replace X := Aside0.mk (X.out.below hb); replace hx := fun i => X.out.cell i; replace zx := fun i => blk_frozen X.out i; replace Y := Aside0.mk (Y.out.below hb); replace hy := fun i => Y.out.cell i; replace zy := fun i => blk_frozen Y.out i; clear  hb) | (go_at_call 104; (with_reducible refine (KN.out _ _ (SN.out.below B.out)).mono ?_); rintro e W3 ⟨rfl, hb⟩; replace B := Aside0.mk (below_then B.out B.out.size hb); replace P := Aside0.mk (P.out.below hb); replace N := Aside0.mk (N.out.below hb); replace X := Aside0.mk (X.out.below hb); replace hx := fun i => X.out.cell i; replace zx := fun i => blk_frozen X.out i; replace Y := Aside0.mk (Y.out.below hb); replace hy := fun i => Y.out.cell i; replace zy := fun i => blk_frozen Y.out i; clear  hb) | (go_at_call 116; (with_reducible refine (HS1.out _ _ _ P.out.now (SP.out.below B.out)).mono ?_); have hsz : w.heap.size + 1 + 1 ≤ W3.heap.size := blk_lt Y.out; rintro e W4 ⟨q0, rfl, hq, hb⟩; replace B := Aside0.mk (below_then B.out B.out.size hb); replace P := Aside0.mk (P.out.below hb); replace N := Aside0.mk (N.out.below hb); replace X := Aside0.mk (X.out.below hb); replace hx := fun i => X.out.cell i; replace zx := fun i => blk_frozen X.out i; replace Y := Aside0.mk (Y.out.below hb); replace hy := fun i => Y.out.cell i; replace zy := fun i => blk_frozen Y.out i; have Q0 := Aside0.mk (show FI (Kd.int .u64) (w.heap.size + 1 + 1) W4 q0 du from hq.lower hsz); have hq' := Q0.out.slice; obtain ⟨B0, d0, eq0⟩ := hq'; subst eq0; clear hq hb) | (go_at_call 116; replace B := Aside0.mk (B.out.set1 (g := w.heap.size) (i := 7) (u := .slice B0 du.length d0) (Nat.le_refl _)); replace X := Aside0.mk (show Blk (W4.setCell ⟨w.heap.size, 7, none⟩ (.slice B0 du.length d0)) w.heap.size #[.int .i64 h.f0, .int .u64 h.f1, .int .u64 h.f2, .int .u64 h.f3, .int .u64 h.f4, .slice A5 h.f5.length c5, .slice A6 h.f6.length c6, .slice B0 du.length d0, .slice A8 h.f8.length c8] 31 from blk_put X.out 7 (.slice B0 du.length d0) rfl); replace Y := Aside0.mk (show Blk (W4.setCell ⟨w.heap.size, 7, none⟩ (.slice B0 du.length d0)) (w.heap.size + 1) #[.int .i64 0, .int .u64 0, .int .u64 0, .int .u64 0, .int .u64 0, .slice none 0 0, .slice none 0 0, .slice none 0 0, .slice none 0 0] 31 from blk_far Y.out (by show w.heap.size + 1 ≠ w.heap.size; omega) (.slice B0 du.length d0)); replace P := Aside0.mk (P.out.step (KA.set (i := 7) _ (by omega : w.heap.size < w.heap.size + 1 + 1) (.slice B0 du.length d0))); replace N := Aside0.mk (N.out.step (KA.set (i := 7) _ (by omega : w.heap.size < w.heap.size + 1 + 1) (.slice B0 du.length d0))); replace Q0 := Aside0.mk (Q0.out.step (KA.set (i := 7) _ (by omega : w.heap.size < w.heap.size + 1 + 1) (.slice B0 du.length d0))); (with_reducible refine (HS2.out _ _ _ N.out.now (SN.out.below B.out)).mono ?_); have hsz := blk_lt Y.out; rintro e W5 ⟨q1, rfl, hq, hb⟩; replace B := Aside0.mk (below_then B.out B.out.size hb); replace P := Aside0.mk (P.out.below hb); replace N := Aside0.mk (N.out.below hb); replace Q0 := Aside0.mk (Q0.out.below hb); replace X := Aside0.mk (X.out.below hb); replace hx := fun i => X.out.cell i; replace zx := fun i => blk_frozen X.out i; replace Y := Aside0.mk (Y.out.below hb); replace hy := fun i => Y.out.cell i; replace zy := fun i => blk_frozen Y.out i; have Q1 := Aside0.mk (show FI (Kd.int .u64) (w.heap.size + 1 + 1) W5 q1 dn from hq.lower (by simp [World.setCell] at hsz ⊢; omega)); have hq' := Q1.out.slice; obtain ⟨B1, d1, eq1⟩ := hq'; subst eq1; clear hq hb))
    refine bodyPost_ret (results_ct rfl _ _ (w.heap.size + 1) 31 #[.int .i64 0, .int .u64 0, .int .u64 0, .int .u64 0, .int .u64 0, .slice none 0 0, .slice none 0 0, .slice none 0 0, .slice none 0 0] (0, 0) _ rfl (nine (blk_far (p := ⟨w.heap.size, 8, none⟩) (Y.out) (by show w.heap.size + 1 ≠ w.heap.size; omega) _) _ _ _ _ _ _ _ _ _) Try.underlying31 rfl (by kernel_rfl)) rfl ?_
    exact ⟨_, rfl, GF.empty _ _, nine_below (B.out.set1 (Nat.le_refl _)) (by omega) _ _ _ _ _ _ _ _ _⟩
  | true =>
    cases down with
    | false =>
      simp only [Bool.and_false, Bool.false_eq_true, if_false] at hr
      injection hr with r1 r2
      subst r1; subst r2
      go_enter Try.func89, Try.ntmps89
      go_wp2_with (first | (go_at_call 101; (with_reducible refine (HO.out _ _ HV.out).mono ?_); rintro e W1 ⟨v0, v1, rfl, h0, h1, hb⟩; replace B := Aside0.mk (below_then B.out B.out.size hb); replace X := Aside0.mk (X.out.below hb); replace hx := fun i => X.out.cell i; replace zx := fun i => blk_frozen X.out i; replace Y := Aside0.mk (Y.out.below hb); replace hy := fun i => Y.out.cell i; replace zy := fun i => blk_frozen Y.out i; have P := Aside0.mk (show FI kPu (w.heap.size + 1 + 1) W1 v0 p by simpa using h0); have N := Aside0.mk (show FI kPu (w.heap.size + 1 + 1) W1 v1 n by simpa using h1); clear h0 h1 hb) | (go_at_call 104; (with_reducible refine (KP.out _ _ (SP.out.below B.out)).mono ?_); rintro e W2 ⟨rfl, hb⟩; replace B := Aside0.mk (below_then B.out B.out.size hb); replace P := Aside0.mk (P.out.below hb); replace N := Aside0.mk (N.out.below hb); replace X := Aside0.mk (X.out.below hb); replace hx := fun i => X.out.cell i; replace zx := fun i => blk_frozen X.out i; replace Y := Aside0.mk (Y.out.below hb); replace hy := fun i => Y.out.cell i; replace zy := fun i => blk_frozen Y.out i; clear  hb) | (go_at_call 104; (with_reducible refine (KN.out _ _ (SN.out.below B.out)).mono ?_); rintro e W3 ⟨rfl, hb⟩; replace B := Aside0.mk (below_then B.out B.out.size hb); replace P := Aside0.mk (P.out.below hb); replace N := Aside0.mk (N.out.below hb); replace X := Aside0.mk (X.out.below hb); replace hx := fun i => X.out.cell i; replace zx := fun i => blk_frozen X.out i; replace Y := Aside0.mk (Y.out.below hb); replace hy := fun i => Y.out.cell i; replace zy := fun i => blk_frozen Y.out i; clear  hb) | (go_at_call 116; (with_reducible refine (HS1.out _ _ _ P.out.now (SP.out.below B.out)).mono ?_); have hsz : w.heap.size + 1 + 1 ≤ W3.heap.size := blk_lt Y.out; rintro e W4 ⟨q0, rfl, hq, hb⟩; replace B := Aside0.mk (below_then B.out B.out.size hb); replace P := Aside0.mk (P.out.below hb); replace N := Aside0.mk (N.out.below hb); replace X := Aside0.mk (X.out.below hb); replace hx := fun i => X.out.cell i; replace zx := fun i => blk_frozen X.out i; replace Y := Aside0.mk (Y.out.below hb); replace hy := fun i => Y.out.cell i; replace zy := fun i => blk_frozen Y.out i; have Q0 := Aside0.mk (show FI (Kd.int .u64) (w.heap.size + 1 + 1) W4 q0 du from hq.lower hsz); have hq' := Q0.out.slice; obtain ⟨B0, d0, eq0⟩ := hq'; subst eq0; clear hq hb) | (go_at_call 116; replace B := Aside0.mk (B.out.set1 (g := w.heap.size) (i := 7) (u := .slice B0 du.length d0) (Nat.le_refl _)); replace X := Aside0.mk (show Blk (W4.setCell ⟨w.heap.size, 7, none⟩ (.slice B0 du.length d0)) w.heap.size #[.int .i64 h.f0, .int .u64 h.f1, .int .u64 h.f2, .int .u64 h.f3, .int .u64 h.f4, .slice A5 h.f5.length c5, .slice A6 h.f6.length c6, .slice B0 du.length d0, .slice A8 h.f8.length c8] 31 from blk_put X.out 7 (.slice B0 du.length d0) rfl); replace Y := Aside0.mk (show Blk (W4.setCell ⟨w.heap.size, 7, none⟩ (.slice B0 du.length d0)) (w.heap.size + 1) #[.int .i64 0, .int .u64 0, .int .u64 0, .int .u64 0, .int .u64 0, .slice none 0 0, .slice none 0 0, .slice none 0 0, .slice none 0 0] 31 from blk_far Y.out (by show w.heap.size + 1 ≠ w.heap.size; omega) (.slice B0 du.length d0)); replace P := Aside0.mk (P.out.step (KA.set (i := 7) _ (by omega : w.heap.size < w.heap.size + 1 + 1) (.slice B0 du.length d0))); replace N := Aside0.mk (N.out.step (KA.set (i := 7) _ (by omega : w.heap.size < w.heap.size + 1 + 1) (.slice B0 du.length d0))); replace Q0 := Aside0.mk (Q0.out.step (KA.set (i := 7) _ (by omega : w.heap.size < w.heap.size + 1 + 1) (.slice B0 du.length d0))); (with_reducible refine (HS2.out _ _ _ N.out.now (SN.out.below B.out)).mono ?_); have hsz := blk_lt Y.out; rintro e W5 ⟨q1, rfl, hq, hb⟩; replace B := Aside0.mk (below_then B.out B.out.size hb); replace P := Aside0.mk (P.out.below hb); replace N := Aside0.mk (N.out.below hb); replace Q0 := Aside0.mk (Q0.out.below hb); replace X := Aside0.mk (X.out.below hb); replace hx := fun i => X.out.cell i; replace zx := fun i => blk_frozen X.out i; replace Y := Aside0.mk (Y.out.below hb); replace hy := fun i => Y.out.cell i; replace zy := fun i => blk_frozen Y.out i; have Q1 := Aside0.mk (show FI (Kd.int .u64) (w.heap.size + 1 + 1) W5 q1 dn from hq.lower (by simp [World.setCell] at hsz ⊢; omega)); have hq' := Q1.out.slice; obtain ⟨B1, d1, eq1⟩ := hq'; subst eq1; clear hq hb))
      refine bodyPost_ret (results_ct rfl _ _ (w.heap.size + 1) 31 #[.int .i64 0, .int .u64 0, .int .u64 0, .int .u64 0, .int .u64 0, .slice none 0 0, .slice none 0 0, .slice none 0 0, .slice none 0 0] (0, 0) _ rfl (nine (blk_far (p := ⟨w.heap.size, 8, none⟩) (Y.out) (by show w.heap.size + 1 ≠ w.heap.size; omega) _) _ _ _ _ _ _ _ _ _) Try.underlying31 rfl (by kernel_rfl)) rfl ?_
      exact ⟨_, rfl, GF.empty _ _, nine_below (B.out.set1 (Nat.le_refl _)) (by omega) _ _ _ _ _ _ _ _ _⟩
    | true =>
      simp only [Bool.and_true, if_true] at hr
      injection hr with r1 r2
      subst r1; subst r2
      go_enter Try.func89, Try.ntmps89
      go_wp2_with (first | (go_at_call 101; (with_reducible refine (HO.out _ _ HV.out).mono ?_); rintro e W1 ⟨v0, v1, rfl, h0, h1, hb⟩; replace B := Aside0.mk (below_then B.out B.out.size hb); replace X := Aside0.mk (X.out.below hb); replace hx := fun i => X.out.cell i; replace zx := fun i => blk_frozen X.out i; replace Y := Aside0.mk (Y.out.below hb); replace hy := fun i => Y.out.cell i; replace zy := fun i => blk_frozen Y.out i; have P := Aside0.mk (show FI kPu (w.heap.size + 1 + 1) W1 v0 p by simpa using h0); have N := Aside0.mk (show FI kPu (w.heap.size + 1 + 1) W1 v1 n by simpa using h1); clear h0 h1 hb) | (go_at_call 104; (with_reducible refine (KP.out _ _ (SP.out.below B.out)).mono ?_); rintro e W2 ⟨rfl, hb⟩; replace B := Aside0.mk (below_then B.out B.out.size hb); replace P := Aside0.mk (P.out.below hb); replace N := Aside0.mk (N.out.below hb); replace X := Aside0.mk (X.out.below hb); replace hx := fun i => X.out.cell i; replace zx := fun i => blk_frozen X.out i; replace Y := Aside0.mk (Y.out.below hb); replace hy := fun i => Y.out.cell i; replace zy := fun i => blk_frozen Y.out i; clear  hb) | (go_at_call 104; (with_reducible refine (KN.out _ _ (SN.out.below B.out)).mono ?_); rintro e W3 ⟨rfl, hb⟩; replace B := Aside0.mk (below_then B.out B.out.size hb); replace P := Aside0.mk (P.out.below hb); replace N := Aside0.mk (N.out.below hb); replace X := Aside0.mk (X.out.below hb); replace hx := fun i => X.out.cell i; replace zx := fun i => blk_frozen X.out i; replace Y := Aside0.mk (Y.out.below hb); replace hy := fun i => Y.out.cell i; replace zy := fun i => blk_frozen Y.out i; clear  hb) | (go_at_call 116; (with_reducible refine (HS1.out _ _ _ P.out.now (SP.out.below B.out)).mono ?_); have hsz : w.heap.size + 1 + 1 ≤ W3.heap.size := blk_lt Y.out; rintro e W4 ⟨q0, rfl, hq, hb⟩; replace B := Aside0.mk (below_then B.out B.out.size hb); replace P := Aside0.mk (P.out.below hb); replace N := Aside0.mk (N.out.below hb); replace X := Aside0.mk (X.out.below hb); replace hx := fun i => X.out.cell i; replace zx := fun i => blk_frozen X.out i; replace Y := Aside0.mk (Y.out.below hb); replace hy := fun i => Y.out.cell i; replace zy := fun i => blk_frozen Y.out i; have Q0 := Aside0.mk (show FI (Kd.int .u64) (w.heap.size + 1 + 1) W4 q0 du from hq.lower hsz); have hq' := Q0.out.slice; obtain ⟨B0, d0, eq0⟩ := hq'; subst eq0; clear hq hb) | (go_at_call 116; replace B := Aside0.mk (B.out.set1 (g := w.heap.size) (i := 7) (u := .slice B0 du.length d0) (Nat.le_refl _)); replace X := Aside0.mk (show Blk (W4.setCell ⟨w.heap.size, 7, none⟩ (.slice B0 du.length d0)) w.heap.size #[.int .i64 h.f0, .int .u64 h.f1, .int .u64 h.f2, .int .u64 h.f3, .int .u64 h.f4, .slice A5 h.f5.length c5, .slice A6 h.f6.length c6, .slice B0 du.length d0, .slice A8 h.f8.length c8] 31 from blk_put X.out 7 (.slice B0 du.length d0) rfl); replace Y := Aside0.mk (show Blk (W4.setCell ⟨w.heap.size, 7, none⟩ (.slice B0 du.length d0)) (w.heap.size + 1) #[.int .i64 0, .int .u64 0, .int .u64 0, .int .u64 0, .int .u64 0, .slice none 0 0, .slice none 0 0, .slice none 0 0, .slice none 0 0] 31 from blk_far Y.out (by show w.heap.size + 1 ≠ w.heap.size; omega) (.slice B0 du.length d0)); replace P := Aside0.mk (P.out.step (KA.set (i := 7) _ (by omega : w.heap.size < w.heap.size + 1 + 1) (.slice B0 du.length d0))); replace N := Aside0.mk (N.out.step (KA.set (i := 7) _ (by omega : w.heap.size < w.heap.size + 1 + 1) (.slice B0 du.length d0))); replace Q0 := Aside0.mk (Q0.out.step (KA.set (i := 7) _ (by omega : w.heap.size < w.heap.size + 1 + 1) (.slice B0 du.length d0))); (with_reducible refine (HS2.out _ _ _ N.out.now (SN.out.below B.out)).mono ?_); have hsz := blk_lt Y.out; rintro e W5 ⟨q1, rfl, hq, hb⟩; replace B := Aside0.mk (below_then B.out B.out.size hb); replace P := Aside0.mk (P.out.below hb); replace N := Aside0.mk (N.out.below hb); replace Q0 := Aside0.mk (Q0.out.below hb); replace X := Aside0.mk (X.out.below hb); replace hx := fun i => X.out.cell i; replace zx := fun i => blk_frozen X.out i; replace Y := Aside0.mk (Y.out.below hb); replace hy := fun i => Y.out.cell i; replace zy := fun i => blk_frozen Y.out i; have Q1 := Aside0.mk (show FI (Kd.int .u64) (w.heap.size + 1 + 1) W5 q1 dn from hq.lower (by simp [World.setCell] at hsz ⊢; omega)); have hq' := Q1.out.slice; obtain ⟨B1, d1, eq1⟩ := hq'; subst eq1; clear hq hb) | (go_at_call 51; replace B := Aside0.mk (B.out.set1 (g := w.heap.size) (i := 8) (u := .slice B1 dn.length d1) (Nat.le_refl _)); replace X := Aside0.mk (show Blk (W5.setCell ⟨w.heap.size, 8, none⟩ (.slice B1 dn.length d1)) w.heap.size #[.int .i64 h.f0, .int .u64 h.f1, .int .u64 h.f2, .int .u64 h.f3, .int .u64 h.f4, .slice A5 h.f5.length c5, .slice A6 h.f6.length c6, .slice B0 du.length d0, .slice B1 dn.length d1] 31 from blk_put X.out 8 (.slice B1 dn.length d1) rfl); replace Y := Aside0.mk (show Blk (W5.setCell ⟨w.heap.size, 8, none⟩ (.slice B1 dn.length d1)) (w.heap.size + 1) #[.int .i64 0, .int .u64 0, .int .u64 0, .int .u64 0, .int .u64 0, .slice none 0 0, .slice none 0 0, .slice none 0 0, .slice none 0 0] 31 from blk_far Y.out (by show w.heap.size + 1 ≠ w.heap.size; omega) (.slice B1 dn.length d1)); replace P := Aside0.mk (P.out.step (KA.set (i := 8) _ (by omega : w.heap.size < w.heap.size + 1 + 1) (.slice B1 dn.length d1))); replace N := Aside0.mk (N.out.step (KA.set (i := 8) _ (by omega : w.heap.size < w.heap.size + 1 + 1) (.slice B1 dn.length d1))); replace Q0 := Aside0.mk (Q0.out.step (KA.set (i := 8) _ (by omega : w.heap.size < w.heap.size + 1 + 1) (.slice B1 dn.length d1))); replace Q1 := Aside0.mk (Q1.out.step (KA.set (i := 8) _ (by omega : w.heap.size < w.heap.size + 1 + 1) (.slice B1 dn.length d1))); (with_reducible refine (HC1.out _ a1 g1 (SP.out.below B.out)).mono ?_); have hsz := blk_lt Y.out; rintro e W6 ⟨q2, rfl, hq, hb⟩; replace B := Aside0.mk (below_then B.out B.out.size hb); replace P := Aside0.mk (P.out.below hb); replace N := Aside0.mk (N.out.below hb); replace Q0 := Aside0.mk (Q0.out.below hb); replace Q1 := Aside0.mk (Q1.out.below hb); replace X := Aside0.mk (X.out.below hb); replace hx := fun i => X.out.cell i; replace zx := fun i => blk_frozen X.out i; replace Y := Aside0.mk (Y.out.below hb); replace hy := fun i => Y.out.cell i; replace zy := fun i => blk_frozen Y.out i; have R2 := Aside0.mk (show FI kSp (w.heap.size + 1 + 1) W6 q2 pos from hq.lower (by simp [World.setCell] at hsz ⊢; omega)); have hq' := R2.out.slice; obtain ⟨B2, d2, eq2⟩ := hq'; subst eq2; clear hq hb) | (go_at_call 51; (with_reducible refine (HC2.out _ a2 g2 (SN.out.below B.out)).mono ?_); have hsz : w.heap.size + 1 + 1 ≤ W6.heap.size := blk_lt Y.out; rintro e W7 ⟨q3, rfl, hq, hb⟩; replace B := Aside0.mk (below_then B.out B.out.size hb); replace P := Aside0.mk (P.out.below hb); replace N := Aside0.mk (N.out.below hb); replace Q0 := Aside0.mk (Q0.out.below hb); replace Q1 := Aside0.mk (Q1.out.below hb); replace R2 := Aside0.mk (R2.out.below hb); replace X := Aside0.mk (X.out.below hb); replace hx := fun i => X.out.cell i; replace zx := fun i => blk_frozen X.out i; replace Y := Aside0.mk (Y.out.below hb); replace hy := fun i => Y.out.cell i; replace zy := fun i => blk_frozen Y.out i; have R3 := Aside0.mk (show FI kSp (w.heap.size + 1 + 1) W7 q3 neg from hq.lower hsz); have hq' := R3.out.slice; obtain ⟨B3, d3, eq3⟩ := hq'; subst eq3; have hxa := fun i => blk_cell (show Blk ((W7.setCell ⟨w.heap.size, 5, none⟩ (.slice B2 pos.length d2)).setCell ⟨w.heap.size, 6, none⟩ (.slice B3 neg.length d3)) w.heap.size #[.int .i64 h.f0, .int .u64 h.f1, .int .u64 h.f2, .int .u64 h.f3, .int .u64 h.f4, .slice B2 pos.length d2, .slice B3 neg.length d3, .slice B0 du.length d0, .slice B1 dn.length d1] 31 from blk_put (show Blk (W7.setCell ⟨w.heap.size, 5, none⟩ (.slice B2 pos.length d2)) w.heap.size #[.int .i64 h.f0, .int .u64 h.f1, .int .u64 h.f2, .int .u64 h.f3, .int .u64 h.f4, .slice B2 pos.length d2, .slice A6 h.f6.length c6, .slice B0 du.length d0, .slice B1 dn.length d1] 31 from blk_put X.out 5 (.slice B2 pos.length d2) rfl) 6 (.slice B3 neg.length d3) rfl) i; clear hq hb))
      refine bodyPost_ret (results_ct rfl _ _ (w.heap.size + 1) 31 #[.int .i64 h.f0, .int .u64 h.f1, .int .u64 h.f2, .int .u64 h.f3, .int .u64 h.f4, .slice B2 pos.length d2, .slice B3 neg.length d3, .slice B0 du.length d0, .slice B1 dn.length d1] (0, 0) _ rfl (nine (blk_far (p := ⟨w.heap.size, 6, none⟩) (blk_far (p := ⟨w.heap.size, 5, none⟩) (Y.out) (by show w.heap.size + 1 ≠ w.heap.size; omega) _) (by show w.heap.size + 1 ≠ w.heap.size; omega) _) _ _ _ _ _ _ _ _ _) Try.underlying31 rfl (by kernel_rfl)) rfl ?_
      exact ⟨_, rfl, GF.mk (h := ⟨h.f0, h.f1, h.f2, h.f3, h.f4, pos, neg, du, dn⟩) ((R2.out.step (nine_ka ((KA.set _ (by omega) _).trans (KA.set _ (by omega) _)) (by omega) _ _ _ _ _ _ _ _ _)).lower (by omega)) ((R3.out.step (nine_ka ((KA.set _ (by omega) _).trans (KA.set _ (by omega) _)) (by omega) _ _ _ _ _ _ _ _ _)).lower (by omega)) ((Q0.out.step (nine_ka ((KA.set _ (by omega) _).trans (KA.set _ (by omega) _)) (by omega) _ _ _ _ _ _ _ _ _)).lower (by omega)) ((Q1.out.step (nine_ka ((KA.set _ (by omega) _).trans (KA.set _ (by omega) _)) (by omega) _ _ _ _ _ _ _ _ _)).lower (by omega)), nine_below ((B.out.set1 (Nat.le_refl _)).set1 (Nat.le_refl _)) (by omega) _ _ _ _ _ _ _ _ _⟩
end Go.Proofs.Ytfbjjbbhnmoolaa.P
namespace Go.Proofs.Ytfbjjbbhnmoolaa.P
open Go.RowKit Go.Shelf Go.Proofs.YtfbjjbbhnmoolaaW.PrintWords Go.Proofs.YtfbjjbbhnmoolaaW.PrintLast Go.Proofs.YtfbjjbbhnmoolaaW.PrintMore
theorem frombits_run (v : Int) (w : World) : (callFunc 81 #[.int .u64 v]).run Try.prog w = .ok (.value (.float .f64 v.toNat)) w := by
  rw [run_callFunc_extern Try.func81 (by kernel_rfl) (by kernel_rfl) (by kernel_rfl) (e := Extern.MathFloatBits.float64frombits) (by kernel_rfl)]
  rfl
theorem bits_run (v : Nat) (w : World) : (callFunc 84 #[.float .f64 v]).run Try.prog w = .ok (.value (.int .u64 v)) w := by
  rw [run_callFunc_extern Try.func84 (by kernel_rfl) (by kernel_rfl) (by kernel_rfl) (e := Extern.MathFloatBits.float64bits) (by kernel_rfl)]
  rfl
theorem trunc_three (w : World) : (callFunc 112 #[.float .f64 4613937818241073152]).run Try.prog w = .ok (.value (.float .f64 4613937818241073152)) w := by kernel_rfl
theorem trunc_half (w : World) : (callFunc 112 #[.float .f64 4602678819172646912]).run Try.prog w = .ok (.value (.float .f64 0)) w := by kernel_rfl
theorem trunc_zero (w : World) : (callFunc 112 #[.float .f64 0]).run Try.prog w = .ok (.value (.float .f64 0)) w := by kernel_rfl
theorem mtrunc_three (w : World) : Calls Try.prog 83 #[.float .f64 4613937818241073152] w fun e w' => e = .returned (.float .f64 4613937818241073152) ∧ Below w.heap.size w w' := by
  have ht := trunc_three
  go_enter Try.func83, Try.ntmps83
  go_wp2
  go_ret
  exact ⟨rfl, Below.refl _ _⟩
theorem cv_three (w : World) : (convert 129 22 (.float .f64 4613937818241073152)).run Try.prog w = .ok (.int .u64 3) w := by kernel_rfl
theorem ge_three (w : World) : (binOp .geq 129 (.float .f64 4613937818241073152) (.float .f64 4895412794951729152)).run Try.prog w = .ok (.bool false) w := by kernel_rfl
theorem ne_three (w : World) : (binOp .neq 129 (.float .f64 4613937818241073152) (.float .f64 4613937818241073152)).run Try.prog w = .ok (.bool false) w := by kernel_rfl
set_option maxRecDepth 100000 in
theorem whole_three (w : World) : Calls Try.prog 29 #[.int .u64 4613937818241073152] w fun e w' => e = .returned (.tuple #[.int .u64 3, .bool true]) ∧ Below w.heap.size w w' := by
  have hf := frombits_run 4613937818241073152
  have MT := Aside0.mk mtrunc_three
  have hg := ge_three
  have hn := ne_three
  have hc := cv_three
  have RC := Aside0.mk (right_c 4613937818241073152)
  go_enter Try.func29, Try.ntmps29
  go_wp2_with (first | (go_at_call 82; (with_reducible refine (RC.out _).mono ?_); rintro e w1 ⟨rfl, hb⟩; have HB := Aside0.mk hb; clear hb) | (go_at_call 83; (with_reducible refine (MT.out _).mono ?_); rintro e w2 ⟨rfl, hb⟩; replace HB := Aside0.mk (below_then HB.out HB.out.size hb); clear hb))
  go_ret2
  exact ⟨rfl, HB.out⟩
theorem mtrunc_half (w : World) : Calls Try.prog 83 #[.float .f64 4602678819172646912] w fun e w' => e = .returned (.float .f64 0) ∧ Below w.heap.size w w' := by
  have ht := trunc_half
  go_enter Try.func83, Try.ntmps83
  go_wp2
  go_ret
  exact ⟨rfl, Below.refl _ _⟩
theorem ge_half (w : World) : (binOp .geq 129 (.float .f64 4602678819172646912) (.float .f64 4895412794951729152)).run Try.prog w = .ok (.bool false) w := by kernel_rfl
theorem ne_half (w : World) : (binOp .neq 129 (.float .f64 0) (.float .f64 4602678819172646912)).run Try.prog w = .ok (.bool true) w := by kernel_rfl
set_option maxRecDepth 100000 in
theorem whole_half (w : World) : Calls Try.prog 29 #[.int .u64 4602678819172646912] w fun e w' => e = .returned (.tuple #[.int .u64 0, .bool false]) ∧ Below w.heap.size w w' := by
  have hf := frombits_run 4602678819172646912
  have MT := Aside0.mk mtrunc_half
  have hg := ge_half
  have hn := ne_half
  have RC := Aside0.mk (right_c 4602678819172646912)
  go_enter Try.func29, Try.ntmps29
  go_wp2_with (first | (go_at_call 82; (with_reducible refine (RC.out _).mono ?_); rintro e w1 ⟨rfl, hb⟩; have HB := Aside0.mk hb; clear hb) | (go_at_call 83; (with_reducible refine (MT.out _).mono ?_); rintro e w2 ⟨rfl, hb⟩; replace HB := Aside0.mk (below_then HB.out HB.out.size hb); clear hb))
  go_ret2
  exact ⟨rfl, HB.out⟩
theorem mtrunc_zero (w : World) : Calls Try.prog 83 #[.float .f64 0] w fun e w' => e = .returned (.float .f64 0) ∧ Below w.heap.size w w' := by
  have ht := trunc_zero
  go_enter Try.func83, Try.ntmps83
  go_wp2
  go_ret
  exact ⟨rfl, Below.refl _ _⟩
theorem cv_zero (w : World) : (convert 129 22 (.float .f64 0)).run Try.prog w = .ok (.int .u64 0) w := by kernel_rfl
theorem ge_zero (w : World) : (binOp .geq 129 (.float .f64 0) (.float .f64 4895412794951729152)).run Try.prog w = .ok (.bool false) w := by kernel_rfl
theorem ne_zero (w : World) : (binOp .neq 129 (.float .f64 0) (.float .f64 0)).run Try.prog w = .ok (.bool false) w := by kernel_rfl
set_option maxRecDepth 100000 in
theorem whole_zero (w : World) : Calls Try.prog 29 #[.int .u64 0] w fun e w' => e = .returned (.tuple #[.int .u64 0, .bool true]) ∧ Below w.heap.size w w' := by
  have hf := frombits_run 0
  have MT := Aside0.mk mtrunc_zero
  have hg := ge_zero
  have hn := ne_zero
  have hc := cv_zero
  have RC := Aside0.mk (right_c 0)
  go_enter Try.func29, Try.ntmps29
  go_wp2_with (first | (go_at_call 82; (with_reducible refine (RC.out _).mono ?_); rintro e w1 ⟨rfl, hb⟩; have HB := Aside0.mk hb; clear hb) | (go_at_call 83; (with_reducible refine (MT.out _).mono ?_); rintro e w2 ⟨rfl, hb⟩; replace HB := Aside0.mk (below_then HB.out HB.out.size hb); clear hb))
  go_ret2
  exact ⟨rfl, HB.out⟩
theorem fcv_three (w : World) : (convert 22 129 (.int .u64 3)).run Try.prog w = .ok (.float .f64 4613937818241073152) w := by kernel_rfl
theorem float_three (w : World) : Calls Try.prog 31 #[.int .u64 3] w fun e w' => e = .returned (.int .u64 4613937818241073152) ∧ Below w.heap.size w w' := by
  have hc := fcv_three
  have hb := bits_run 4613937818241073152
  go_enter Try.func31, Try.ntmps31
  go_wp2
  go_ret
  exact ⟨rfl, Below.refl _ _⟩
end Go.Proofs.Ytfbjjbbhnmoolaa.P
namespace Go.Proofs.Ytfbjjbbhnmoolaa.P
open Go.RowKit Go.Shelf Go.Proofs.YtfbjjbbhnmoolaaW.PrintWords Go.Proofs.YtfbjjbbhnmoolaaW.PrintLast Go.Proofs.YtfbjjbbhnmoolaaW.PrintMore
attribute [local go_sem] Oper.semAt_some
def wholesR (wh : Int → Int × Bool) (l : List Int) : List Int × Bool := if l.all (fun v => (wh v).2) = true then (l.map (fun v => (wh v).1), true) else ([], false)
theorem take_all {α : Type} (p : α → Bool) (l : List α) (i : Nat) (h : i < l.length) : (l.take (i + 1)).all p = ((l.take i).all p && p l[i]) := by
  rw [List.take_succ_eq_append_getElem h, List.all_append]; simp
theorem own_base' {W : World} {base size n : Nat} {e : TypeId} {v : Value} {xs : List Value} (h : W.ownsRow base e size v n xs) : ∀ k, v.ownBlock = some k → base ≤ k := fun k hk => own_base h k hk
set_option maxRecDepth 100000 in
set_option maxHeartbeats 4000000 in
theorem wholes_c (wh : Int → Int × Bool) (l : List Int) (hm : l.length ≤ 4096) (hwh : ∀ v ∈ l, ∀ w, Calls Try.prog 29 #[.int .u64 v] w fun e w' => e = .returned (.tuple #[.int .u64 (wh v).1, .bool (wh v).2]) ∧ Below w.heap.size w w')
    (w : World) (v : Value) (hv : SI (Kd.int .u64) w v l) : Calls Try.prog 91 #[v] w fun e w' => ∃ v0 : Value, e = .returned (.tuple #[v0, .bool (wholesR wh l).2]) ∧ FI (Kd.int .u64) w.heap.size w' v0 (wholesR wh l).1 ∧ Below w.heap.size w w' := by
  obtain ⟨A, c, rfl, hc, hr⟩ := hv
  refine (callsIn_wide (n := 4)).1 ?_
  have hf1 : Fence.wide.fn 29 := trivial
  have HW := Aside0.mk hwh
  have HR := Aside0.mk (And.intro hr hc)
  obtain ⟨i0, hi, hz0, hz1, hz2⟩ := info_parts info22
  have hmk : ∀ W : World, (Instr.makeSlice 29 (.int .i64 0) (.int .i64 l.length)).run Try.prog W = .ok (.slice (some ⟨W.heap.size, 0, none⟩) 0 l.length) (W.alloc (.cells (madeCells #[Value.int .u64 0] (l.length * i0.size)) 22)) := fun W => by
    have := run_make (P := Try.prog) W 29 22 i0 (.int .u64 0) Try.underlying29 hi hz0 .i64 .i64 0 l.length (by omega) (by omega) (by rw [hz2]; omega) (by omega)
    simpa [Value.cells] using this
  have HM := Aside0.mk hm
  clear hr hc hwh hm
  refine callsIn_of_wp Try.func91 rfl trivial ?_ rfl
  simp only [Try.ntmps91, List.size_toArray, List.length_cons, List.length_nil, Nat.reduceAdd, Nat.reduceSub, Array.replicate_succ, Array.replicate_zero, List.push_toArray, List.append_toArray, List.nil_append, List.cons_append]
  gi_wp2
  clear hmk
  gi_loopw [4, 14] (fun s4 s14 wx => ∃ i : Nat, i ≤ l.length ∧ s14 = .int .i64 i ∧ Aside0 (wx.ownsRow w.heap.size 22 1 s4 i (((l.take i).map (fun v => (wh v).1)).map (Value.int .u64))) ∧ Aside0 (Below w.heap.size w wx) ∧ Aside0 ((l.take i).all (fun v => (wh v).2) = true)) (fun _ s14 _ => l.length - (intOf s14).toNat)
  case atStart =>
    refine ⟨0, Nat.zero_le _, rfl, ⟨?_⟩, ⟨below_alloc (Below.refl _ _) _⟩, ⟨by simp⟩⟩
    have := World.ownsRow_made (base := w.heap.size) (e := 22) (size := 1) w (madeCells #[Value.int .u64 0] (l.length * i0.size)) l.length (Nat.le_refl _) (by have := HM.out; unfold maxLen; omega) (by rw [size_madeCells, hz1])
    simpa [hz1] using this
  case round =>
    obtain ⟨i, hil, rfl, HO, HB, HA⟩ := hrel
    by_cases hlt : i < l.length
    · have hlti : (i : Int) < (l.length : Int) := by omega
      have hi0 : (0 : Int) ≤ (i : Int) := by omega
      obtain ⟨ad, e1, hx0⟩ := Kd.at_int (Kd.C_below HR.out.1 HB.out) (i : Int) hi0 hlti
      rw [rd_at hlt, Int.toNat_natCast] at hx0
      subst e1
      have HC := Aside0.mk (HW.out l[i] (List.getElem_mem hlt))
      have HT := Aside0.mk (take_all (fun v => (wh v).2) l i hlt)
      have HS := Aside0.mk (List.take_succ_eq_append_getElem hlt)
      have HMN := Aside0.mk (List.getElem_mem hlt)
      have hi4 : i < 4096 := by have := HM.out; omega
      generalize l[i] = x at hx0 HC HT HS HMN
      generalize hwx : wh x = r at HC HT
      have HWX := Aside0.mk hwx
      clear hwx
      obtain ⟨nv, ok⟩ := r
      simp only at HC HT
      cases ok with
      | false =>
        clear hlt
        gi_wp2_with (gi_at_call 29; refine (callsIn_wide.2 (HC.out _)).mono ?_; rintro e w2 ⟨rfl, hb⟩; have HB2 := Aside0.mk (below_then HB.out HB.out.size hb); clear hb)
        refine bodyPost_ret (results_tmp2 rfl _ _ _) rfl ?_
        have hf : wholesR wh l = ([], false) := by
          unfold wholesR
          rw [if_neg]
          intro h
          have := List.all_eq_true.1 h x HMN.out
          rw [HWX.out] at this; cases this
        rw [hf]
        exact ⟨_, rfl, fun W _ => SI.nil _ W, HB2.out⟩
      | true =>
        gi_wp2_with (first | (gi_at_call 29; refine (callsIn_wide.2 (HC.out _)).mono ?_; rintro e w2 ⟨rfl, hb⟩; have HO2 := Aside0.mk (HO.out.kept (grown_of_below hb none) (Classical.em _)); have HB2 := Aside0.mk (below_then HB.out HB.out.size hb); clear hb) | (gi_at_builtin; refine wpListIn_append_own _ rfl _ _ 29 rfl w.heap.size 22 i0 (.int .u64 0) 1 8 Try.underlying29 hi hz0 hz1 hz2 rfl (by decide) _ _ _ rfl (HO2.out.alloc _) ⟨w2.heap.size, 0, none⟩ 1 1 [.int .u64 nv] rfl rfl (cell_one_new _ _ _) (by simp [Value.oneCell']) (by unfold maxLen; omega) (by omega) (by have := HB2.out.size; simp; omega) ?_; intro v' w3 hown' hgrow _; have HO3 := Aside0.mk hown'; have HB3 := Aside0.mk (pw_below_grown (below_alloc HB2.out _) _ (by have := HB2.out.size; simp; omega) hgrow (own_base' HO2.out)); clear hown' hgrow))
        go_roundw
        case rel =>
          refine ⟨i + 1, by omega, by go_num, ⟨?_⟩, HB3, ⟨by rw [HT.out, HA.out]; rfl⟩⟩
          have := HO3.out
          rw [HS.out, List.map_append, List.map_append, List.map_cons, List.map_nil, HWX.out]
          exact this
        case measure => simp [intOf]; omega
    · obtain rfl : i = l.length := by omega
      have hlti : ¬ (l.length : Int) < (l.length : Int) := by omega
      have ht : l.take l.length = l := List.take_length
      have hf : wholesR wh l = (l.map (fun v => (wh v).1), true) := by unfold wholesR; rw [if_pos (by have := HA.out; rwa [ht] at this)]
      have HF := Aside0.mk hf
      clear hf hlt ht
      gi_wp2
      refine bodyPost_ret (results_tmp2 rfl _ _ _) rfl ?_
      rw [HF.out]
      have hl : l.length = (l.map (fun v => (wh v).1)).length := (List.length_map ..).symm
      have ho := HO.out
      rw [List.take_length] at ho
      refine ⟨_, rfl, .of_R (Kd.R_of_own (enc := Value.int .u64) (h1 := fun _ => rfl) (hl ▸ ho) (fun _ _ => trivial)) (Nat.le_refl _), HB.out⟩
end Go.Proofs.Ytfbjjbbhnmoolaa.P
namespace Go.Proofs.Ytfbjjbbhnmoolaa.P
open Go.RowKit Go.Shelf Go.Proofs.YtfbjjbbhnmoolaaW.PrintWords Go.Proofs.YtfbjjbbhnmoolaaW.PrintLast Go.Proofs.YtfbjjbbhnmoolaaW.PrintMore
set_option maxHeartbeats 8000000 in
set_option maxRecDepth 100000 in
theorem backForm_c (wh : Int → Int × Bool) (h : Fh) (hw : wfF h) (hc : checkF h = 0) (h7 : h.f7.length ≤ 4096) (h8 : h.f8.length ≤ 4096) (hwh : ∀ v, v = h.f2 ∨ v = h.f3 ∨ v ∈ h.f7 ∨ v ∈ h.f8 → ∀ w, Calls Try.prog 29 #[.int .u64 v] w fun e w' => e = .returned (.tuple #[.int .u64 (wh v).1, .bool (wh v).2]) ∧ Below w.heap.size w w')
    (hn : (wholesR wh [h.f2, h.f3]).2 = false) (w : World) (v : Value) (hv : GI w v h) : Calls Try.prog 35 #[v] w fun e w' => e = .returned (.tuple #[.agg #[.int .i64 0, .int .u64 0, .int .u64 0, .int .u64 0, .int .u64 0, .slice none 0 0, .slice none 0 0, .slice none 0 0, .slice none 0 0], .int .i64 10]) ∧ Below w.heap.size w w' := by
  have hud := Try.underlying31
  have huh := Try.underlying26
  have kc := fcheck_c h hw
  rw [hc] at kc
  have wa := wholes_c wh [h.f2, h.f3] (by simp) (fun x hx => hwh x (by simp at hx; rcases hx with h | h; exact .inl h; exact .inr (.inl h)))
  have wb := wholes_c wh h.f7 h7 (fun x hx => hwh x (.inr (.inr (.inl hx))))
  have wc := wholes_c wh h.f8 h8 (fun x hx => hwh x (.inr (.inr (.inr hx))))
  rw [hn] at wa
  generalize (wholesR wh h.f7).2 = b7 at *
  generalize (wholesR wh h.f8).2 = b8 at *
  have KC := Aside0.mk kc
  have WA := Aside0.mk wa
  have WB := Aside0.mk wb
  have WC := Aside0.mk wc
  clear kc wa wb wc hw hc hwh hn h7 h8
  obtain ⟨A5, c5, A6, c6, A7, c7, A8, c8, e, -, -, k7, k8⟩ := hv.open_
  subst e
  have B := Aside0.mk (below_alloc (below_alloc (Below.refl w.heap.size w) (.cells #[.int .i64 h.f0, .int .u64 h.f1, .int .u64 h.f2, .int .u64 h.f3, .int .u64 h.f4, .slice A5 h.f5.length c5, .slice A6 h.f6.length c6, .slice A7 h.f7.length c7, .slice A8 h.f8.length c8] 31)) (.cells #[.int .i64 0, .int .u64 0, .int .u64 0, .int .u64 0, .int .u64 0, .slice none 0 0, .slice none 0 0, .slice none 0 0, .slice none 0 0] 26))
  have X := Aside0.mk ((Blk.new w #[.int .i64 h.f0, .int .u64 h.f1, .int .u64 h.f2, .int .u64 h.f3, .int .u64 h.f4, .slice A5 h.f5.length c5, .slice A6 h.f6.length c6, .slice A7 h.f7.length c7, .slice A8 h.f8.length c8] 31).alloc (.cells #[.int .i64 0, .int .u64 0, .int .u64 0, .int .u64 0, .int .u64 0, .slice none 0 0, .slice none 0 0, .slice none 0 0, .slice none 0 0] 26))
  have Y := Aside0.mk (Blk.at1 (w := w) (.cells #[.int .i64 h.f0, .int .u64 h.f1, .int .u64 h.f2, .int .u64 h.f3, .int .u64 h.f4, .slice A5 h.f5.length c5, .slice A6 h.f6.length c6, .slice A7 h.f7.length c7, .slice A8 h.f8.length c8] 31) #[.int .i64 0, .int .u64 0, .int .u64 0, .int .u64 0, .int .u64 0, .slice none 0 0, .slice none 0 0, .slice none 0 0, .slice none 0 0] 26)
  have hx := fun i => X.out.cell i
  have hy := fun i => Y.out.cell i
  have zy := fun i => blk_frozen Y.out i
  have HV := Aside0.mk (hv.below B.out)
  have H7 := Aside0.mk (k7.below B.out)
  have H8 := Aside0.mk (k8.below B.out)
  clear hv k7 k8
  go_enter Try.func35, Try.ntmps35
  go_wp2_with (first | (go_at_call 87; (with_reducible refine (KC.out _ _ HV.out).mono ?_); rintro e W1 ⟨rfl, hb⟩; replace B := Aside0.mk (below_then B.out B.out.size hb); replace HV := Aside0.mk (HV.out.below hb); replace H7 := Aside0.mk (H7.out.below hb); replace H8 := Aside0.mk (H8.out.below hb); replace X := Aside0.mk (X.out.below hb); replace hx := fun i => X.out.cell i; replace Y := Aside0.mk (Y.out.below hb); replace hy := fun i => Y.out.cell i; replace zy := fun i => blk_frozen Y.out i; have hxa := fun i => (X.out.alloc (.cells #[.int .u64 h.f2, .int .u64 h.f3] 22)).cell i; have hya := fun i => (Y.out.alloc (.cells #[.int .u64 h.f2, .int .u64 h.f3] 22)).cell i; clear  hb))
  (try clear hxa hya)
  have hal := below_alloc (Below.refl W1.heap.size W1) (.cells #[.int .u64 h.f2, .int .u64 h.f3] 22)
  replace B := Aside0.mk (below_then B.out B.out.size hal)
  replace HV := Aside0.mk (HV.out.below hal)
  replace H7 := Aside0.mk (H7.out.below hal)
  replace H8 := Aside0.mk (H8.out.below hal)
  replace X := Aside0.mk (X.out.alloc (.cells #[.int .u64 h.f2, .int .u64 h.f3] 22)); replace hx := fun i => X.out.cell i
  replace Y := Aside0.mk (Y.out.alloc (.cells #[.int .u64 h.f2, .int .u64 h.f3] 22)); replace hy := fun i => Y.out.cell i
  have L := Aside0.mk (Blk.new W1 #[.int .u64 h.f2, .int .u64 h.f3] 22); have hl := fun i => L.out.cell i; clear hal
  have SL := Aside0.mk (show SI (Kd.int .u64) (W1.alloc (.cells #[.int .u64 h.f2, .int .u64 h.f3] 22)) (.slice (some ⟨W1.heap.size, 0, none⟩) 2 2) [h.f2, h.f3] from .of (C_of_blk (d := Kd.int .u64) [h.f2, h.f3] (show (W1.alloc (.cells #[.int .u64 h.f2, .int .u64 h.f3] 22)).heap[W1.heap.size]? = some (.cells #[.int .u64 h.f2, .int .u64 h.f3] 22 (0, 0)) from L.out) (reps_nums _ .u64 [h.f2, h.f3]) (by simp)) (Nat.le_refl _))
  go_wp2_with (first | (go_at_call 91; (with_reducible refine (WA.out _ _ SL.out).mono ?_); rintro e W2 ⟨l0, rfl, -, hb⟩; replace B := Aside0.mk (below_then B.out B.out.size hb); replace HV := Aside0.mk (HV.out.below hb); replace H7 := Aside0.mk (H7.out.below hb); replace H8 := Aside0.mk (H8.out.below hb); replace X := Aside0.mk (X.out.below hb); replace hx := fun i => X.out.cell i; replace Y := Aside0.mk (Y.out.below hb); replace hy := fun i => Y.out.cell i; replace zy := fun i => blk_frozen Y.out i; replace L := Aside0.mk (L.out.below hb); replace hl := fun i => L.out.cell i; clear  hb) | (go_at_call 91; (with_reducible refine (WB.out _ _ H7.out).mono ?_); rintro e W3 ⟨l1, rfl, -, hb⟩; replace B := Aside0.mk (below_then B.out B.out.size hb); replace HV := Aside0.mk (HV.out.below hb); replace H7 := Aside0.mk (H7.out.below hb); replace H8 := Aside0.mk (H8.out.below hb); replace X := Aside0.mk (X.out.below hb); replace hx := fun i => X.out.cell i; replace Y := Aside0.mk (Y.out.below hb); replace hy := fun i => Y.out.cell i; replace zy := fun i => blk_frozen Y.out i; replace L := Aside0.mk (L.out.below hb); replace hl := fun i => L.out.cell i; clear  hb) | (go_at_call 91; (with_reducible refine (WC.out _ _ H8.out).mono ?_); rintro e W4 ⟨l2, rfl, -, hb⟩; replace B := Aside0.mk (below_then B.out B.out.size hb); replace HV := Aside0.mk (HV.out.below hb); replace H7 := Aside0.mk (H7.out.below hb); replace H8 := Aside0.mk (H8.out.below hb); replace X := Aside0.mk (X.out.below hb); replace hx := fun i => X.out.cell i; replace Y := Aside0.mk (Y.out.below hb); replace hy := fun i => Y.out.cell i; replace zy := fun i => blk_frozen Y.out i; replace L := Aside0.mk (L.out.below hb); replace hl := fun i => L.out.cell i; clear  hb))
  refine bodyPost_ret (results_ct rfl _ _ (w.heap.size + 1) 26 #[.int .i64 0, .int .u64 0, .int .u64 0, .int .u64 0, .int .u64 0, .slice none 0 0, .slice none 0 0, .slice none 0 0, .slice none 0 0] (0, 0) _ rfl (nine Y.out _ _ _ _ _ _ _ _ _) Try.underlying26 rfl (by kernel_rfl)) rfl ?_
  exact ⟨rfl, nine_below B.out (by omega) _ _ _ _ _ _ _ _ _⟩
end Go.Proofs.Ytfbjjbbhnmoolaa.P
namespace Go.Proofs.Ytfbjjbbhnmoolaa.P
open Go.RowKit Go.Proofs.YtfbjjbbhnmoolaaW.PrintWords Go.Proofs.YtfbjjbbhnmoolaaW.PrintLast Go.Proofs.YtfbjjbbhnmoolaaW.PrintMore
attribute [local go_sem] max2_int min2_int max_two min_two max_three min_three max_four min_four
attribute [local go_sem high] eqA86
def tidepolelaw10_one.f  : Option (Int × Int × Int × Int × Int × (List (S86)) × (List (S86)) × List Int × List Int) := some (0, 1, 4602678819172646912, 4613937818241073152, 0, (([(⟨3, 2⟩ : S86)] : List (S86))), ([] : List (S86)), (([4613937818241073152, 0] : List Int)), ([] : List Int))
set_option maxHeartbeats 8000000 in
set_option maxRecDepth 100000 in
theorem tidepolelaw10_one.calls  (r1 : Int) (r2 : Int) (r3 : Int) (r4 : Int) (r5 : Int) (r6 : List (S86)) (r7 : List (S86)) (r8 : List Int) (r9 : List Int) (w : World) (h : tidepolelaw10_one.f  = some (r1, r2, r3, r4, r5, r6, r7, r8, r9)) :
  Calls Try.prog 85 #[] w fun e w' => ∃ v5_ v6_ v7_ v8_ : Value, e = .returned (.agg #[.int .i64 r1, .int .u64 r2, .int .u64 r3, .int .u64 r4, .int .u64 r5, v5_, v6_, v7_, v8_]) ∧ Kd.R k86 86 w' w.heap.size (fun k_ => some k_ ≠ (v6_ : Value).ownBlock) v5_ r6 ∧ Kd.R k86 86 w' w.heap.size (fun k_ => some k_ ≠ (v5_ : Value).ownBlock) v6_ r7 ∧ Kd.R (Kd.int .u64) 22 w' w.heap.size (fun k_ => some k_ ≠ (v8_ : Value).ownBlock) v7_ r8 ∧ Kd.R (Kd.int .u64) 22 w' w.heap.size (fun k_ => some k_ ≠ (v7_ : Value).ownBlock) v8_ r9 ∧ Below w.heap.size w w' := by
 have hu31 := Try.underlying31
 have hu86 := Try.underlying86
 have HB := Aside0.mk (Below.refl w.heap.size w)
 have H : (some (0, 1, 4602678819172646912, 4613937818241073152, 0, (([(⟨3, 2⟩ : S86)] : List (S86))), ([] : List (S86)), (([4613937818241073152, 0] : List Int)), ([] : List Int))) = some (r1, r2, r3, r4, r5, r6, r7, r8, r9) := h
 clear h
 obtain ⟨y102, hy102⟩ : ∃ y_ : List (S86), y_ = (([(⟨3, 2⟩ : S86)] : List (S86))) := ⟨_, rfl⟩
 replace H : (some (0, 1, 4602678819172646912, 4613937818241073152, 0, y102, ([] : List (S86)), (([4613937818241073152, 0] : List Int)), ([] : List Int))) = some (r1, r2, r3, r4, r5, r6, r7, r8, r9) := by first | (rw [hy102]; with_reducible exact H) | (have H2_ := (Option.bind_some _ _).symm.trans H; rw [hy102]; with_reducible exact H2_) | (have H2_ := (Option.bind_some _ _).symm.trans H; with_reducible exact H2_) | with_reducible exact H | (rw [hy102]; exact H) | exact H
 have Ny102 := Aside0.mk hy102
 clear hy102
 obtain ⟨y105, hy105⟩ : ∃ y_ : List Int, y_ = (([4613937818241073152, 0] : List Int)) := ⟨_, rfl⟩
 replace H : (some (0, 1, 4602678819172646912, 4613937818241073152, 0, y102, ([] : List (S86)), y105, ([] : List Int))) = some (r1, r2, r3, r4, r5, r6, r7, r8, r9) := by first | (rw [hy105]; with_reducible exact H) | (have H2_ := (Option.bind_some _ _).symm.trans H; rw [hy105]; with_reducible exact H2_) | (have H2_ := (Option.bind_some _ _).symm.trans H; with_reducible exact H2_) | with_reducible exact H | (rw [hy105]; exact H) | exact H
 have Ny105 := Aside0.mk hy105
 clear hy105
 simp only [Option.some.injEq, Prod.mk.injEq] at H
 obtain ⟨rfl, rfl, rfl, rfl, rfl, rfl, rfl, rfl, rfl⟩ := H
 go_enter Try.func85, Try.ntmps85
 go_wp2_with (first | ((with_reducible refine gate_dst (N := 0) rfl ?_); refine box_event ?hg (N := 0) ?hd (cs := #[.int .i64 0, .int .u64 0, .int .u64 0, .int .u64 0, .int .u64 0, .slice none 0 0, .slice none 0 0, .slice none 0 0, .slice none 0 0]) (t := 31) ?hr ?_; (case hd => rfl); (case hg => rfl); (case hr => first | (go_simp; done) | (go_simp; rfl)); intro gb101 hg w1 hbox hb; have n0_ := Aside0.mk (below_step (by repeat (first | (with_reducible first | exact HB.out | apply below_alloc | apply pw_below_drewN | apply below_drew1) | exact HB.out)) hb); have n1_ := Aside0.mk (hbox); have n2_ := Aside0.mk ((by rw [hg]; exact (below_size (by repeat (first | (with_reducible first | exact HB.out | apply below_alloc | apply pw_below_drewN | apply below_drew1) | exact HB.out))) : w.heap.size ≤ gb101)); have n3_ := Aside0.mk ((by rw [hg]; exact (below_size (by repeat (first | (with_reducible first | exact HB.out | apply below_alloc | apply pw_below_drewN | apply below_drew1) | exact HB.out))) : w.heap.size ≤ gb101)); clear HB; have HB := n0_; have BK101 := n1_; have GW101 := n2_; have GE101 := n3_; clear n0_ n1_ n2_ n3_; clear hb hbox hg) | ((with_reducible refine gate_dst (N := 2) rfl ?_); refine Kd.R_lit k86 _ 86 ?hg (N := 2) ?hd (xs := ([(⟨3, 2⟩ : S86)] : List (S86))) (inner := [.int .i64 3, .int .i64 2]) (ok := fun _ => True) (okp := fun _ => True) ?hr ?hp (fun _ hk => hk) trivial (Below.refl _ _) (Nat.le_refl _) (by simp) ?_; (case hd => rfl); (case hg => rfl); (case hr => first | (go_simp; done) | (go_simp; rfl)); (case hp => exact (Reps.c2 (show Kd.M k86 _ _ _ (⟨3, 2⟩ : S86) [.int .i64 3, .int .i64 2] from (k86_mkM _ _ _ (⟨3, 2⟩ : S86) )) (Reps.none _ _))); intro v103 w2 ho3 hb hg_ hnew_; clear hg_ hnew_; (first | rw [← Ny102.out] at ho3 | (simp only [Int.reduceToNat] at ho3; rw [← Ny102.out] at ho3)); have n0_ := Aside0.mk (Kd.R_lower ho3 (below_size (by repeat (first | (with_reducible first | exact HB.out | apply below_alloc | apply pw_below_drewN | apply below_drew1 | refine below_set ?_ GE101.out) | exact HB.out)))); have n1_ := Aside0.mk (blk_below (g := gb101) (o := .cells #[.int .i64 0, .int .u64 0, .int .u64 0, .int .u64 0, .int .u64 0, .slice none 0 0, .slice none 0 0, .slice none 0 0, .slice none 0 0] 31 (0, 0)) (by (with_reducible repeat (first | refine blk_drewN ?_ _ | refine blk_drew ?_ | refine blk_alloc ?_ _)); exact BK101.out) hb); have n2_ := Aside0.mk (below_step (by repeat (first | (with_reducible first | exact HB.out | apply below_alloc | apply pw_below_drewN | apply below_drew1 | refine below_set ?_ GE101.out) | exact HB.out)) hb); clear BK101; clear HB; have HO104 := n0_; have BK101 := n1_; have HB := n2_; clear n0_ n1_ n2_; clear hb ho3) | ((with_reducible refine gate_dst (N := 3) rfl ?_); refine Kd.R_lit (Kd.int .u64) _ 22 ?hg (N := 3) ?hd (xs := ([4613937818241073152, 0] : List Int)) (inner := [.int .u64 4613937818241073152, .int .u64 0]) (ok := fun _ => True) (okp := fun _ => True) ?hr ?hp (fun _ hk => hk) trivial (Below.refl _ _) (Nat.le_refl _) (by simp) ?_; (case hd => rfl); (case hg => rfl); (case hr => first | (go_simp; done) | (go_simp; rfl)); (case hp => exact (Reps.one (show Kd.M (Kd.int .u64) _ _ _ 4613937818241073152 [.int .u64 4613937818241073152] from rfl) (Reps.one (show Kd.M (Kd.int .u64) _ _ _ 0 [.int .u64 0] from rfl) (Reps.none _ _)))); intro v106 w4 ho5 hb hg_ hnew_; clear hg_ hnew_; (first | rw [← Ny105.out] at ho5 | (simp only [Int.reduceToNat] at ho5; rw [← Ny105.out] at ho5)); have n0_ := Aside0.mk (Kd.R_below (by (with_reducible repeat (first | apply Kd.R_alloc | apply Kd.R_drewN | apply Kd.R_drew)); exact HO104.out) hb); have n1_ := Aside0.mk (Kd.R_lower ho5 (below_size (by repeat (first | (with_reducible first | exact HB.out | apply below_alloc | apply pw_below_drewN | apply below_drew1 | refine below_set ?_ GE101.out) | exact HB.out)))); have n2_ := Aside0.mk (blk_below (g := gb101) (o := .cells #[.int .i64 0, .int .u64 0, .int .u64 0, .int .u64 0, .int .u64 0, .slice none 0 0, .slice none 0 0, .slice none 0 0, .slice none 0 0] 31 (0, 0)) (by (with_reducible repeat (first | refine blk_drewN ?_ _ | refine blk_drew ?_ | refine blk_alloc ?_ _)); exact BK101.out) hb); have n3_ := Aside0.mk (below_step (by repeat (first | (with_reducible first | exact HB.out | apply below_alloc | apply pw_below_drewN | apply below_drew1 | refine below_set ?_ GE101.out) | exact HB.out)) hb); clear HO104; clear BK101; clear HB; have HO104 := n0_; have HO107 := n1_; have BK101 := n2_; have HB := n3_; clear n0_ n1_ n2_ n3_; clear hb ho5; obtain ⟨Ao6, co6, eo6⟩ := Kd.R_slice HO107.out; subst eo6; obtain ⟨Ao7, co7, eo7⟩ := Kd.R_slice HO104.out; subst eo7; have hcz8_0 : w4.cell? ⟨gb101, 0, none⟩ = some (.int .i64 0) := (blk_cell BK101.out 0).trans rfl; have hcz8_1 : w4.cell? ⟨gb101, 1, none⟩ = some (.int .u64 0) := (blk_cell BK101.out 1).trans rfl; have hcz8_2 : w4.cell? ⟨gb101, 2, none⟩ = some (.int .u64 0) := (blk_cell BK101.out 2).trans rfl; have hcz8_3 : w4.cell? ⟨gb101, 3, none⟩ = some (.int .u64 0) := (blk_cell BK101.out 3).trans rfl; have hcz8_4 : w4.cell? ⟨gb101, 4, none⟩ = some (.int .u64 0) := (blk_cell BK101.out 4).trans rfl; have hcz8_5 : w4.cell? ⟨gb101, 5, none⟩ = some (.slice none 0 0) := (blk_cell BK101.out 5).trans rfl; have hcz8_6 : w4.cell? ⟨gb101, 6, none⟩ = some (.slice none 0 0) := (blk_cell BK101.out 6).trans rfl; have hcz8_7 : w4.cell? ⟨gb101, 7, none⟩ = some (.slice none 0 0) := (blk_cell BK101.out 7).trans rfl; have hcz8_8 : w4.cell? ⟨gb101, 8, none⟩ = some (.slice none 0 0) := (blk_cell BK101.out 8).trans rfl; have hfz8_0 := blk_frozen BK101.out 0; have hfz8_1 := blk_frozen BK101.out 1; have hfz8_2 := blk_frozen BK101.out 2; have hfz8_3 := blk_frozen BK101.out 3; have hfz8_4 := blk_frozen BK101.out 4; have hfz8_5 := blk_frozen BK101.out 5; have hfz8_6 := blk_frozen BK101.out 6; have hfz8_7 := blk_frozen BK101.out 7; have hfz8_8 := blk_frozen BK101.out 8))
 refine bodyPost_ret (results_cell_row rfl _ _ gb101 31 #[.int .i64 0, .int .u64 1, .int .u64 4602678819172646912, .int .u64 4613937818241073152, .int .u64 0, .slice Ao7 y102.length co7, .slice none 0 0, .slice Ao6 y105.length co6, .slice none 0 0] (0, 0) _ rfl (by (with_reducible repeat (first | refine blk_drewN ?_ _ | refine blk_drew ?_ | refine blk_alloc ?_ _)); refine blk_put (cs := #[.int .i64 0, .int .u64 1, .int .u64 4602678819172646912, .int .u64 4613937818241073152, .int .u64 0, .slice Ao7 y102.length co7, .slice none 0 0, .slice Ao6 y105.length co6, .slice none 0 0]) ?_ 8 _ rfl; (with_reducible repeat (first | refine blk_drewN ?_ _ | refine blk_drew ?_ | refine blk_alloc ?_ _)); refine blk_put (cs := #[.int .i64 0, .int .u64 1, .int .u64 4602678819172646912, .int .u64 4613937818241073152, .int .u64 0, .slice Ao7 y102.length co7, .slice none 0 0, .slice none 0 0, .slice none 0 0]) ?_ 7 _ rfl; (with_reducible repeat (first | refine blk_drewN ?_ _ | refine blk_drew ?_ | refine blk_alloc ?_ _)); refine blk_put (cs := #[.int .i64 0, .int .u64 1, .int .u64 4602678819172646912, .int .u64 4613937818241073152, .int .u64 0, .slice Ao7 y102.length co7, .slice none 0 0, .slice none 0 0, .slice none 0 0]) ?_ 6 _ rfl; (with_reducible repeat (first | refine blk_drewN ?_ _ | refine blk_drew ?_ | refine blk_alloc ?_ _)); refine blk_put (cs := #[.int .i64 0, .int .u64 1, .int .u64 4602678819172646912, .int .u64 4613937818241073152, .int .u64 0, .slice none 0 0, .slice none 0 0, .slice none 0 0, .slice none 0 0]) ?_ 5 _ rfl; (with_reducible repeat (first | refine blk_drewN ?_ _ | refine blk_drew ?_ | refine blk_alloc ?_ _)); refine blk_put (cs := #[.int .i64 0, .int .u64 1, .int .u64 4602678819172646912, .int .u64 4613937818241073152, .int .u64 0, .slice none 0 0, .slice none 0 0, .slice none 0 0, .slice none 0 0]) ?_ 4 _ rfl; (with_reducible repeat (first | refine blk_drewN ?_ _ | refine blk_drew ?_ | refine blk_alloc ?_ _)); refine blk_put (cs := #[.int .i64 0, .int .u64 1, .int .u64 4602678819172646912, .int .u64 0, .int .u64 0, .slice none 0 0, .slice none 0 0, .slice none 0 0, .slice none 0 0]) ?_ 3 _ rfl; (with_reducible repeat (first | refine blk_drewN ?_ _ | refine blk_drew ?_ | refine blk_alloc ?_ _)); refine blk_put (cs := #[.int .i64 0, .int .u64 1, .int .u64 0, .int .u64 0, .int .u64 0, .slice none 0 0, .slice none 0 0, .slice none 0 0, .slice none 0 0]) ?_ 2 _ rfl; (with_reducible repeat (first | refine blk_drewN ?_ _ | refine blk_drew ?_ | refine blk_alloc ?_ _)); refine blk_put (cs := #[.int .i64 0, .int .u64 0, .int .u64 0, .int .u64 0, .int .u64 0, .slice none 0 0, .slice none 0 0, .slice none 0 0, .slice none 0 0]) ?_ 1 _ rfl; (with_reducible repeat (first | refine blk_drewN ?_ _ | refine blk_drew ?_ | refine blk_alloc ?_ _)); refine blk_put (cs := #[.int .i64 0, .int .u64 0, .int .u64 0, .int .u64 0, .int .u64 0, .slice none 0 0, .slice none 0 0, .slice none 0 0, .slice none 0 0]) ?_ 0 _ rfl; (with_reducible repeat (first | refine blk_drewN ?_ _ | refine blk_drew ?_ | refine blk_alloc ?_ _)); exact BK101.out) Try.underlying31 rfl (by kernel_rfl)) rfl ?_
 exact ⟨_, _, _, _, by first | rfl | (simp [errW_none, errW_some] <;> rfl) | (simp [*, errW_none, errW_some] <;> rfl), by (with_reducible repeat (first | apply Kd.R_alloc | apply Kd.R_drewN | apply Kd.R_drew)); exact Kd.R_mono (Kd.R_far (p := ⟨gb101, 8, none⟩) (Kd.R_far (p := ⟨gb101, 7, none⟩) (Kd.R_far (p := ⟨gb101, 6, none⟩) (Kd.R_far (p := ⟨gb101, 5, none⟩) (Kd.R_far (p := ⟨gb101, 4, none⟩) (Kd.R_far (p := ⟨gb101, 3, none⟩) (Kd.R_far (p := ⟨gb101, 2, none⟩) (Kd.R_far (p := ⟨gb101, 1, none⟩) (Kd.R_far (p := ⟨gb101, 0, none⟩) (Kd.R_types HO104.out BK101.out (by decide)) (fun _ hk => hk.2) (.int .i64 0)) (fun _ hk => hk.2) (.int .u64 1)) (fun _ hk => hk.2) (.int .u64 4602678819172646912)) (fun _ hk => hk.2) (.int .u64 4613937818241073152)) (fun _ hk => hk.2) (.int .u64 0)) (fun _ hk => hk.2) (.slice Ao7 y102.length co7)) (fun _ hk => hk.2) (.slice none 0 0)) (fun _ hk => hk.2) (.slice Ao6 y105.length co6)) (fun _ hk => hk.2) (.slice none 0 0)) (fun _ hk => (by simp [Value.ownBlock])), by first | exact Kd.R_nil _ _ _ _ _ | exact Kd.N_nil _ _ _ _ _ | exact Kd.V_nil _ _ _ _ _ | exact Kd.Q_nil _ _ _ _ _ | exact Kd.S_nil _ _ _ _ _, by (with_reducible repeat (first | apply Kd.R_alloc | apply Kd.R_drewN | apply Kd.R_drew)); exact Kd.R_mono (Kd.R_far (p := ⟨gb101, 8, none⟩) (Kd.R_far (p := ⟨gb101, 7, none⟩) (Kd.R_far (p := ⟨gb101, 6, none⟩) (Kd.R_far (p := ⟨gb101, 5, none⟩) (Kd.R_far (p := ⟨gb101, 4, none⟩) (Kd.R_far (p := ⟨gb101, 3, none⟩) (Kd.R_far (p := ⟨gb101, 2, none⟩) (Kd.R_far (p := ⟨gb101, 1, none⟩) (Kd.R_far (p := ⟨gb101, 0, none⟩) (Kd.R_types HO107.out BK101.out (by decide)) (fun _ hk => hk.2) (.int .i64 0)) (fun _ hk => hk.2) (.int .u64 1)) (fun _ hk => hk.2) (.int .u64 4602678819172646912)) (fun _ hk => hk.2) (.int .u64 4613937818241073152)) (fun _ hk => hk.2) (.int .u64 0)) (fun _ hk => hk.2) (.slice Ao7 y102.length co7)) (fun _ hk => hk.2) (.slice none 0 0)) (fun _ hk => hk.2) (.slice Ao6 y105.length co6)) (fun _ hk => hk.2) (.slice none 0 0)) (fun _ hk => (by simp [Value.ownBlock])), by first | exact Kd.R_nil _ _ _ _ _ | exact Kd.N_nil _ _ _ _ _ | exact Kd.V_nil _ _ _ _ _ | exact Kd.Q_nil _ _ _ _ _ | exact Kd.S_nil _ _ _ _ _, by repeat (first | (with_reducible first | exact HB.out | apply below_alloc | apply pw_below_drewN | apply below_drew1 | refine below_set ?_ GE101.out) | exact HB.out)⟩
end Go.Proofs.Ytfbjjbbhnmoolaa.P
namespace Go.Proofs.Ytfbjjbbhnmoolaa.P
open Go.RowKit Go.Shelf Go.Proofs.YtfbjjbbhnmoolaaW.PrintWords Go.Proofs.YtfbjjbbhnmoolaaW.PrintLast Go.Proofs.YtfbjjbbhnmoolaaW.PrintMore
def oneH : Hi := ⟨0, 1, 1, 6, 0, [⟨3, 2⟩], [], [5, -5], []⟩
def badH : Hi := ⟨0, 1, 1, 7, 0, [⟨3, 2⟩], [], [5, -5], []⟩
theorem HI.spans {w : World} {h : Hi} {A5 A6 A7 A8 : Option Addr} {n5 n6 n7 n8 c5 c6 c7 c8 : Nat} {x0 x1 x2 x3 x4 : Value} (hv : HI w (.agg #[x0, x1, x2, x3, x4, .slice A5 n5 c5, .slice A6 n6 c6, .slice A7 n7 c7, .slice A8 n8 c8]) h) : SI kSp w (.slice A5 n5 c5) h.f5 := by
  obtain ⟨v5, v6, v7, v8, e, h5, -⟩ := hv
  injection e with e
  have e5 := congrArg (fun a : Array Value => a.getD 5 undef) e
  simp at e5
  rw [e5]; exact h5
theorem HI.bad {w : World} {A5 A6 A7 A8 : Option Addr} {n5 n6 n7 n8 c5 c6 c7 c8 : Nat} (hv : HI w (.agg #[.int .i64 0, .int .u64 1, .int .u64 1, .int .u64 6, .int .u64 0, .slice A5 n5 c5, .slice A6 n6 c6, .slice A7 n7 c7, .slice A8 n8 c8]) oneH) : HI w (.agg #[.int .i64 0, .int .u64 1, .int .u64 1, .int .u64 7, .int .u64 0, .slice A5 n5 c5, .slice A6 n6 c6, .slice A7 n7 c7, .slice A8 n8 c8]) badH := by
  obtain ⟨v5, v6, v7, v8, e, h5, h6, h7, h8⟩ := hv
  injection e with e
  have e5 := congrArg (fun a : Array Value => a.getD 5 undef) e
  have e6 := congrArg (fun a : Array Value => a.getD 6 undef) e
  have e7 := congrArg (fun a : Array Value => a.getD 7 undef) e
  have e8 := congrArg (fun a : Array Value => a.getD 8 undef) e
  simp at e5 e6 e7 e8
  subst e5; subst e6; subst e7; subst e8
  exact ⟨_, _, _, _, rfl, h5, h6, h7, h8⟩
end Go.Proofs.Ytfbjjbbhnmoolaa.P
namespace Go.Proofs.Ytfbjjbbhnmoolaa.P
open Go.RowKit Go.Shelf Go.Proofs.YtfbjjbbhnmoolaaW.PrintWords Go.Proofs.YtfbjjbbhnmoolaaW.PrintLast Go.Proofs.YtfbjjbbhnmoolaaW.PrintMore
def oneF : Fh := ⟨0, 1, 4602678819172646912, 4613937818241073152, 0, [⟨3, 2⟩], [], [4613937818241073152, 0], []⟩
def canF : Fh := ⟨0, 1, 4602678819172646912, 4613937818241073152, 0, [⟨3, 1⟩], [], [4613937818241073152], []⟩
def badF : Fh := ⟨0, 1, 4602678819172646912, 9223372036854775808, 0, [⟨3, 2⟩], [], [4613937818241073152, 0], []⟩
def oneQ : List Pu := [⟨3, 4613937818241073152⟩, ⟨4, 0⟩]
theorem oneF_wf : wfF oneF := by unfold wfF; decide
theorem canF_wf : wfF canF := by unfold wfF; decide
theorem badF_wf : wfF badF := by unfold wfF; decide
theorem aw10_1 : pairsF oneF 0 = (oneQ, 0) := by kernel_rfl
theorem aw10_2 : canonF oneF = (canF, 0) := by kernel_rfl
theorem aw10_3 : checkF badF = 22 := by kernel_rfl
theorem aw10_0 : checkF oneF = 0 := by kernel_rfl
theorem aw10_4 : makeF oneF oneQ [] = (oneF, 0) := by kernel_rfl
theorem aw10_5 : overF canF oneF.f5 [] = (oneF, 0) := by kernel_rfl
theorem aw10_6 : equalF oneF oneF = true := by kernel_rfl
theorem aw10_7 : equalF oneF canF = true := by kernel_rfl
theorem aw10_8 : equalF oneF badF = false := by kernel_rfl
theorem oneQ_wf : wfRowU oneQ := ⟨by unfold wfPus oneQ; decide, by decide⟩
def wh10 (v : Int) : Int × Bool := if v = 4613937818241073152 then (3, true) else if v = 4602678819172646912 then (0, false) else (0, true)
theorem wh10_c (v : Int) (h : v = 4602678819172646912 ∨ v = 4613937818241073152 ∨ v = 0) (w : World) : Calls Try.prog 29 #[.int .u64 v] w fun e w' => e = .returned (.tuple #[.int .u64 (wh10 v).1, .bool (wh10 v).2]) ∧ Below w.heap.size w w' := by
  rcases h with rfl | rfl | rfl
  · exact whole_half w
  · exact whole_three w
  · exact whole_zero w
theorem right10 (w : World) : Calls Try.prog 82 #[.int .u64 0] w fun e w' => e = .returned (.bool true) ∧ Below w.heap.size w w' := by
  have := right_c 0 w
  rwa [show rightF 0 = true from by decide] at this
theorem back10 (w : World) (v : Value) (hv : GI w v oneF) : Calls Try.prog 35 #[v] w fun e w' => e = .returned (.tuple #[.agg #[.int .i64 0, .int .u64 0, .int .u64 0, .int .u64 0, .int .u64 0, .slice none 0 0, .slice none 0 0, .slice none 0 0, .slice none 0 0], .int .i64 10]) ∧ Below w.heap.size w w' :=
  backForm_c wh10 oneF oneF_wf aw10_0 (by decide) (by decide) (fun v h w => wh10_c v (by
    rcases h with h | h | h | h
    · exact .inl h
    · exact .inr (.inl h)
    · simp only [oneF, List.mem_cons, List.not_mem_nil, or_false] at h
      rcases h with h | h
      · exact .inr (.inl h)
      · exact .inr (.inr h)
    · simp [oneF] at h) w) (by decide) w v hv
theorem fone_x (w : World) : Calls Try.prog 85 #[] w fun e w' => ∃ oA5 oc5 oA6 oc6 oA7 oc7 oA8 oc8, e = .returned (.agg #[.int .i64 0, .int .u64 1, .int .u64 4602678819172646912, .int .u64 4613937818241073152, .int .u64 0, .slice oA5 1 oc5, .slice oA6 0 oc6, .slice oA7 2 oc7, .slice oA8 0 oc8]) ∧ GI w' (.agg #[.int .i64 0, .int .u64 1, .int .u64 4602678819172646912, .int .u64 4613937818241073152, .int .u64 0, .slice oA5 1 oc5, .slice oA6 0 oc6, .slice oA7 2 oc7, .slice oA8 0 oc8]) oneF ∧ Below w.heap.size w w' := by
  refine (tidepolelaw10_one.calls 0 1 4602678819172646912 4613937818241073152 0 [⟨3, 2⟩] [] [4613937818241073152, 0] [] w (by kernel_rfl)).mono ?_
  rintro e w1 ⟨v5, v6, v7, v8, rfl, h5, h6, h7, h8, hb⟩
  have hi : GI w1 (.agg #[.int .i64 0, .int .u64 1, .int .u64 4602678819172646912, .int .u64 4613937818241073152, .int .u64 0, v5, v6, v7, v8]) oneF := ⟨v5, v6, v7, v8, rfl, .of_R h5, .of_R h6, .of_R h7, .of_R h8⟩
  obtain ⟨a5, c5, a6, c6, a7, c7, a8, c8, e, -⟩ := hi.open_
  rw [e] at hi ⊢
  exact ⟨a5, c5, a6, c6, a7, c7, a8, c8, rfl, hi, hb⟩
theorem fpairs_x (w : World) (v : Value) (hv : GI w v oneF) : Calls Try.prog 58 #[v, .int .i64 0] w fun e w' => ∃ A c, e = .returned (.tuple #[.slice A 2 c, .int .i64 0]) ∧ SI kPu w' (.slice A 2 c) oneQ ∧ Below w.heap.size w w' := by
  have := fpairs_c oneF oneF_wf 0 w v hv
  rw [aw10_1] at this
  refine this.mono ?_
  rintro e w1 ⟨v0, rfl, h0, hb⟩
  have h0' := h0
  obtain ⟨A, c, rfl, -⟩ := h0'
  exact ⟨A, c, rfl, h0, hb⟩
theorem fcanon_x (w : World) (v : Value) (hv : GI w v oneF) : Calls Try.prog 86 #[v] w fun e w' => ∃ cA5 cc5 cA6 cc6 cA7 cc7 cA8 cc8, e = .returned (.tuple #[.agg #[.int .i64 0, .int .u64 1, .int .u64 4602678819172646912, .int .u64 4613937818241073152, .int .u64 0, .slice cA5 1 cc5, .slice cA6 0 cc6, .slice cA7 1 cc7, .slice cA8 0 cc8], .int .i64 0]) ∧ GI w' (.agg #[.int .i64 0, .int .u64 1, .int .u64 4602678819172646912, .int .u64 4613937818241073152, .int .u64 0, .slice cA5 1 cc5, .slice cA6 0 cc6, .slice cA7 1 cc7, .slice cA8 0 cc8]) canF ∧ Below w.heap.size w w' := by
  have := fcanon_c oneF oneF_wf w v hv
  rw [aw10_2] at this
  refine this.mono ?_
  rintro e w1 ⟨v0, rfl, h0, hb⟩
  obtain ⟨a5, c5, a6, c6, a7, c7, a8, c8, e, -⟩ := h0.now.open_
  have hi := h0.now
  subst e
  exact ⟨a5, c5, a6, c6, a7, c7, a8, c8, rfl, hi, hb⟩
theorem fmake_x (w : World) (v vp : Value) (hv : GI w v oneF) (hp : SI kPu w vp oneQ) : Calls Try.prog 88 #[v, vp, .slice none 0 0] w fun e w' => ∃ mA5 mc5 mA6 mc6 mA7 mc7 mA8 mc8, e = .returned (.tuple #[.agg #[.int .i64 0, .int .u64 1, .int .u64 4602678819172646912, .int .u64 4613937818241073152, .int .u64 0, .slice mA5 1 mc5, .slice mA6 0 mc6, .slice mA7 2 mc7, .slice mA8 0 mc8], .int .i64 0]) ∧ GI w' (.agg #[.int .i64 0, .int .u64 1, .int .u64 4602678819172646912, .int .u64 4613937818241073152, .int .u64 0, .slice mA5 1 mc5, .slice mA6 0 mc6, .slice mA7 2 mc7, .slice mA8 0 mc8]) oneF ∧ Below w.heap.size w w' := by
  have := fmake_c oneF oneF_wf oneQ [] oneQ_wf RowOKU.nil.wf w v vp _ hv hp (SI.nil _ _)
  rw [aw10_4] at this
  refine this.mono ?_
  rintro e w1 ⟨v0, rfl, h0, hb⟩
  obtain ⟨a5, c5, a6, c6, a7, c7, a8, c8, e, -⟩ := h0.now.open_
  have hi := h0.now
  subst e
  exact ⟨a5, c5, a6, c6, a7, c7, a8, c8, rfl, hi, hb⟩
theorem fover_x (w : World) (v vp : Value) (hv : GI w v canF) (hp : SI kSp w vp oneF.f5) : Calls Try.prog 89 #[v, vp, .slice none 0 0] w fun e w' => ∃ rA5 rc5 rA6 rc6 rA7 rc7 rA8 rc8, e = .returned (.tuple #[.agg #[.int .i64 0, .int .u64 1, .int .u64 4602678819172646912, .int .u64 4613937818241073152, .int .u64 0, .slice rA5 1 rc5, .slice rA6 0 rc6, .slice rA7 2 rc7, .slice rA8 0 rc8], .int .i64 0]) ∧ GF w.heap.size w' (.agg #[.int .i64 0, .int .u64 1, .int .u64 4602678819172646912, .int .u64 4613937818241073152, .int .u64 0, .slice rA5 1 rc5, .slice rA6 0 rc6, .slice rA7 2 rc7, .slice rA8 0 rc8]) oneF ∧ Below w.heap.size w w' := by
  have := fover_c canF canF_wf oneF.f5 [] oneF_wf.2.2.2.2.2.1 (fun s hs => by simp at hs) w v vp _ hv hp (SI.nil _ _)
  rw [aw10_5] at this
  refine this.mono ?_
  rintro e w1 ⟨v0, rfl, h0, hb⟩
  obtain ⟨a5, c5, a6, c6, a7, c7, a8, c8, e, -⟩ := h0.now.open_
  subst e
  exact ⟨a5, c5, a6, c6, a7, c7, a8, c8, rfl, h0, hb⟩
theorem fequal_x (a b : Fh) (ha : wfF a) (hb : wfF b) (r : Bool) (he : equalF a b = r) (w : World) (u v : Value) (hu : GI w u a) (hv : GI w v b) : Calls Try.prog 90 #[u, v] w fun e w' => e = .returned (.bool r) ∧ Below w.heap.size w w' := he ▸ fequal_c a b ha hb w u v hu hv
theorem fcheck_x (a : Fh) (ha : wfF a) (r : Int) (he : checkF a = r) (w : World) (u : Value) (hu : GI w u a) : Calls Try.prog 87 #[u] w fun e w' => e = .returned (.int .i64 r) ∧ Below w.heap.size w w' := he ▸ fcheck_c a ha w u hu
theorem GI.spans {w : World} {h : Fh} {A5 A6 A7 A8 : Option Addr} {n5 n6 n7 n8 c5 c6 c7 c8 : Nat} {x0 x1 x2 x3 x4 : Value} (hv : GI w (.agg #[x0, x1, x2, x3, x4, .slice A5 n5 c5, .slice A6 n6 c6, .slice A7 n7 c7, .slice A8 n8 c8]) h) : SI kSp w (.slice A5 n5 c5) h.f5 := by
  obtain ⟨v5, v6, v7, v8, e, h5, -⟩ := hv
  injection e with e
  have e5 := congrArg (fun a : Array Value => a.getD 5 undef) e
  simp at e5
  rw [e5]; exact h5
theorem GI.bad {w : World} {A5 A6 A7 A8 : Option Addr} {n5 n6 n7 n8 c5 c6 c7 c8 : Nat} (hv : GI w (.agg #[.int .i64 0, .int .u64 1, .int .u64 4602678819172646912, .int .u64 4613937818241073152, .int .u64 0, .slice A5 n5 c5, .slice A6 n6 c6, .slice A7 n7 c7, .slice A8 n8 c8]) oneF) : GI w (.agg #[.int .i64 0, .int .u64 1, .int .u64 4602678819172646912, .int .u64 9223372036854775808, .int .u64 0, .slice A5 n5 c5, .slice A6 n6 c6, .slice A7 n7 c7, .slice A8 n8 c8]) badF := by
  obtain ⟨v5, v6, v7, v8, e, h5, h6, h7, h8⟩ := hv
  injection e with e
  have e5 := congrArg (fun a : Array Value => a.getD 5 undef) e
  have e6 := congrArg (fun a : Array Value => a.getD 6 undef) e
  have e7 := congrArg (fun a : Array Value => a.getD 7 undef) e
  have e8 := congrArg (fun a : Array Value => a.getD 8 undef) e
  simp at e5 e6 e7 e8
  subst e5; subst e6; subst e7; subst e8
  exact ⟨_, _, _, _, rfl, h5, h6, h7, h8⟩
theorem ffield5_x (a5 a6 a7 a8 : Option Addr) (n5 c5 n6 c6 n7 c7 n8 c8 : Nat) (x0 x1 x2 x3 x4 : Int) (W : World) : (Instr.field 31 (.agg #[.int .i64 x0, .int .u64 x1, .int .u64 x2, .int .u64 x3, .int .u64 x4, .slice a5 n5 c5, .slice a6 n6 c6, .slice a7 n7 c7, .slice a8 n8 c8]) 5).run Try.prog W = .ok (.slice a5 n5 c5) W := by
  kernel_rfl
set_option maxHeartbeats 16000000 in
set_option maxRecDepth 100000 in
theorem awake10_c (w : World) : Calls Try.prog 33 #[] w fun e w' => e = .returned (.bool true) ∧ Below w.heap.size w w' := by
  have hu := Try.underlying31
  have hpu := Try.underlying137
  have huh := Try.underlying26
  have hfd := ffield5_x
  go_enter Try.func33, Try.ntmps33
  go_wp2_with fail
  refine (fone_x w).mono ?_
  rintro e w1 ⟨oA5, oc5, oA6, oc6, oA7, oc7, oA8, oc8, rfl, hh, hb⟩
  have B := Aside0.mk hb
  have O := Aside0.mk hh
  clear hb hh
  go_wp2_with fail
  refine (fpairs_x _ _ O.out).mono ?_
  rintro e w2 ⟨pA, pc, rfl, hh, hb⟩
  replace B := Aside0.mk (below_then B.out B.out.size hb)
  replace O := Aside0.mk (O.out.below hb)
  have P := Aside0.mk hh
  clear hb hh
  go_wp2_with fail
  refine (fone_x _).mono ?_
  rintro e w3 ⟨qA5, qc5, qA6, qc6, qA7, qc7, qA8, qc8, rfl, hh, hb⟩
  replace B := Aside0.mk (below_then B.out B.out.size hb)
  replace O := Aside0.mk (O.out.below hb)
  replace P := Aside0.mk (P.out.below hb)
  have Q := Aside0.mk hh
  clear hb hh
  go_wp2_with fail
  refine (fcanon_x _ _ Q.out).mono ?_
  rintro e w4 ⟨cA5, cc5, cA6, cc6, cA7, cc7, cA8, cc8, rfl, hh, hb⟩
  replace B := Aside0.mk (below_then B.out B.out.size hb)
  replace O := Aside0.mk (O.out.below hb)
  replace P := Aside0.mk (P.out.below hb)
  replace Q := Aside0.mk (Q.out.below hb)
  have C := Aside0.mk hh
  clear hb hh
  go_wp2_with fail
  refine (fone_x _).mono ?_
  rintro e W5 ⟨bA5, bc5, bA6, bc6, bA7, bc7, bA8, bc8, rfl, hh, hb⟩
  have hb0 := hb
  have hb := below_then (below_alloc (Below.refl w4.heap.size w4) (.cells #[.int .i64 0, .int .u64 1, .int .u64 4602678819172646912, .int .u64 4613937818241073152, .int .u64 0, .slice cA5 1 cc5, .slice cA6 0 cc6, .slice cA7 1 cc7, .slice cA8 0 cc8] 31)) ((below_alloc (Below.refl w4.heap.size w4) (.cells #[.int .i64 0, .int .u64 1, .int .u64 4602678819172646912, .int .u64 4613937818241073152, .int .u64 0, .slice cA5 1 cc5, .slice cA6 0 cc6, .slice cA7 1 cc7, .slice cA8 0 cc8] 31))).size hb
  replace B := Aside0.mk (below_then B.out B.out.size hb)
  replace O := Aside0.mk (O.out.below hb)
  replace P := Aside0.mk (P.out.below hb)
  replace Q := Aside0.mk (Q.out.below hb)
  replace C := Aside0.mk (C.out.below hb)
  have T3 := Aside0.mk (show Blk W5 w4.heap.size #[.int .i64 0, .int .u64 1, .int .u64 4602678819172646912, .int .u64 4613937818241073152, .int .u64 0, .slice cA5 1 cc5, .slice cA6 0 cc6, .slice cA7 1 cc7, .slice cA8 0 cc8] 31 from (Blk.new w4 #[.int .i64 0, .int .u64 1, .int .u64 4602678819172646912, .int .u64 4613937818241073152, .int .u64 0, .slice cA5 1 cc5, .slice cA6 0 cc6, .slice cA7 1 cc7, .slice cA8 0 cc8] 31).below hb0)
  have ht3 := fun i => T3.out.cell i
  have D := Aside0.mk hh
  clear hb hb0 hh
  have hbw := below_alloc (Below.refl W5.heap.size W5) (.cells #[.int .i64 0, .int .u64 1, .int .u64 4602678819172646912, .int .u64 9223372036854775808, .int .u64 0, .slice bA5 1 bc5, .slice bA6 0 bc6, .slice bA7 2 bc7, .slice bA8 0 bc8] 31)
  have hP := P.out.below hbw
  obtain ⟨_, _, eP, _, hPC⟩ := hP
  cases eP
  obtain ⟨ad, e1, hx0, hx1⟩ := at_T137 hPC 0 (by decide) (by decide)
  obtain ⟨ad', e1', hy0, hy1⟩ := at_T137 hPC 1 (by decide) (by decide)
  subst e1
  cases e1'
  have hx1' : (W5.alloc (.cells #[.int .i64 0, .int .u64 1, .int .u64 4602678819172646912, .int .u64 9223372036854775808, .int .u64 0, .slice bA5 1 bc5, .slice bA6 0 bc6, .slice bA7 2 bc7, .slice bA8 0 bc8] 31)).cell? ⟨ad.block, ad.off + 1, none⟩ = some (.int .u64 4613937818241073152) := hx1
  have hy0' : (W5.alloc (.cells #[.int .i64 0, .int .u64 1, .int .u64 4602678819172646912, .int .u64 9223372036854775808, .int .u64 0, .slice bA5 1 bc5, .slice bA6 0 bc6, .slice bA7 2 bc7, .slice bA8 0 bc8] 31)).cell? ⟨ad.block, ad.off + 2, none⟩ = some (.int .i64 4) := hy0
  clear hx0 hx1 hy0 hy1 hPC hbw
  replace ht3 := fun i => (T3.out.alloc (.cells #[.int .i64 0, .int .u64 1, .int .u64 4602678819172646912, .int .u64 9223372036854775808, .int .u64 0, .slice bA5 1 bc5, .slice bA6 0 bc6, .slice bA7 2 bc7, .slice bA8 0 bc8] 31)).cell i
  go_wp2_with fail
  refine (fcheck_x badF badF_wf 22 aw10_3 _ _ (D.out.bad.below (below_alloc (Below.refl W5.heap.size W5) (.cells #[.int .i64 0, .int .u64 1, .int .u64 4602678819172646912, .int .u64 9223372036854775808, .int .u64 0, .slice bA5 1 bc5, .slice bA6 0 bc6, .slice bA7 2 bc7, .slice bA8 0 bc8] 31)))).mono ?_
  rintro e W6 ⟨rfl, hb⟩
  have hb0 := hb
  have hb := below_then (below_alloc (Below.refl W5.heap.size W5) (.cells #[.int .i64 0, .int .u64 1, .int .u64 4602678819172646912, .int .u64 9223372036854775808, .int .u64 0, .slice bA5 1 bc5, .slice bA6 0 bc6, .slice bA7 2 bc7, .slice bA8 0 bc8] 31)) ((below_alloc (Below.refl W5.heap.size W5) (.cells #[.int .i64 0, .int .u64 1, .int .u64 4602678819172646912, .int .u64 9223372036854775808, .int .u64 0, .slice bA5 1 bc5, .slice bA6 0 bc6, .slice bA7 2 bc7, .slice bA8 0 bc8] 31))).size hb
  replace B := Aside0.mk (below_then B.out B.out.size hb)
  replace O := Aside0.mk (O.out.below hb)
  replace P := Aside0.mk (P.out.below hb)
  replace Q := Aside0.mk (Q.out.below hb)
  replace C := Aside0.mk (C.out.below hb)
  replace D := Aside0.mk (D.out.below hb)
  replace T3 := Aside0.mk (T3.out.below hb)
  replace ht3 := fun i => T3.out.cell i
  have T5 := Aside0.mk (show Blk W6 W5.heap.size #[.int .i64 0, .int .u64 1, .int .u64 4602678819172646912, .int .u64 9223372036854775808, .int .u64 0, .slice bA5 1 bc5, .slice bA6 0 bc6, .slice bA7 2 bc7, .slice bA8 0 bc8] 31 from (Blk.new W5 #[.int .i64 0, .int .u64 1, .int .u64 4602678819172646912, .int .u64 9223372036854775808, .int .u64 0, .slice bA5 1 bc5, .slice bA6 0 bc6, .slice bA7 2 bc7, .slice bA8 0 bc8] 31).below hb0)
  have ht5 := fun i => T5.out.cell i
  have Bd := Aside0.mk (D.out.bad)
  clear hb hb0
  go_wp2_with fail
  refine (fone_x _).mono ?_
  rintro e W7 ⟨eA5, ec5, eA6, ec6, eA7, ec7, eA8, ec8, rfl, hh, hb⟩
  replace B := Aside0.mk (below_then B.out B.out.size hb)
  replace O := Aside0.mk (O.out.below hb)
  replace P := Aside0.mk (P.out.below hb)
  replace Q := Aside0.mk (Q.out.below hb)
  replace C := Aside0.mk (C.out.below hb)
  replace D := Aside0.mk (D.out.below hb)
  replace Bd := Aside0.mk (Bd.out.below hb)
  replace T3 := Aside0.mk (T3.out.below hb)
  replace ht3 := fun i => T3.out.cell i
  replace T5 := Aside0.mk (T5.out.below hb)
  replace ht5 := fun i => T5.out.cell i
  have E := Aside0.mk hh
  clear hb hh
  go_wp2_with fail
  refine (fmake_x _ _ _ E.out P.out).mono ?_
  rintro e W8 ⟨mA5, mc5, mA6, mc6, mA7, mc7, mA8, mc8, rfl, hh, hb⟩
  replace B := Aside0.mk (below_then B.out B.out.size hb)
  replace O := Aside0.mk (O.out.below hb)
  replace P := Aside0.mk (P.out.below hb)
  replace Q := Aside0.mk (Q.out.below hb)
  replace C := Aside0.mk (C.out.below hb)
  replace D := Aside0.mk (D.out.below hb)
  replace Bd := Aside0.mk (Bd.out.below hb)
  replace E := Aside0.mk (E.out.below hb)
  replace T3 := Aside0.mk (T3.out.below hb)
  replace ht3 := fun i => T3.out.cell i
  replace T5 := Aside0.mk (T5.out.below hb)
  replace ht5 := fun i => T5.out.cell i
  have M := Aside0.mk hh
  clear hb hh
  have hw := below_alloc (Below.refl W8.heap.size W8) (.cells #[.int .i64 0, .int .u64 1, .int .u64 4602678819172646912, .int .u64 4613937818241073152, .int .u64 0, .slice mA5 1 mc5, .slice mA6 0 mc6, .slice mA7 2 mc7, .slice mA8 0 mc8] 31)
  replace B := Aside0.mk (below_then B.out B.out.size hw)
  replace C := Aside0.mk (C.out.below hw)
  replace Bd := Aside0.mk (Bd.out.below hw)
  replace M := Aside0.mk (M.out.below hw)
  replace T3 := Aside0.mk (T3.out.below hw)
  replace T5 := Aside0.mk (T5.out.below hw)
  have T6 := Aside0.mk (Blk.new W8 #[.int .i64 0, .int .u64 1, .int .u64 4602678819172646912, .int .u64 4613937818241073152, .int .u64 0, .slice mA5 1 mc5, .slice mA6 0 mc6, .slice mA7 2 mc7, .slice mA8 0 mc8] 31)
  replace ht3 := fun i => T3.out.cell i
  clear hw ht5 hx1' hy0'
  go_upto_region 8 with fail
  go_cut [8, 9] (fun s8 s9 wx => s9 = .int .i64 0 ∧ ∃ g : Nat, s8 = .pointer (some ⟨g, 0, none⟩) ∧ Aside0 ((W8.alloc (.cells #[.int .i64 0, .int .u64 1, .int .u64 4602678819172646912, .int .u64 4613937818241073152, .int .u64 0, .slice mA5 1 mc5, .slice mA6 0 mc6, .slice mA7 2 mc7, .slice mA8 0 mc8] 31)).heap.size ≤ g ∧ Below (W8.alloc (.cells #[.int .i64 0, .int .u64 1, .int .u64 4602678819172646912, .int .u64 4613937818241073152, .int .u64 0, .slice mA5 1 mc5, .slice mA6 0 mc6, .slice mA7 2 mc7, .slice mA8 0 mc8] 31)).heap.size (W8.alloc (.cells #[.int .i64 0, .int .u64 1, .int .u64 4602678819172646912, .int .u64 4613937818241073152, .int .u64 0, .slice mA5 1 mc5, .slice mA6 0 mc6, .slice mA7 2 mc7, .slice mA8 0 mc8] 31)) wx ∧ ∃ rA5 rc5 rA6 rc6 rA7 rc7 rA8 rc8, Blk wx g #[.int .i64 0, .int .u64 1, .int .u64 4602678819172646912, .int .u64 4613937818241073152, .int .u64 0, .slice rA5 1 rc5, .slice rA6 0 rc6, .slice rA7 2 rc7, .slice rA8 0 rc8] 31 ∧ GI wx (.agg #[.int .i64 0, .int .u64 1, .int .u64 4602678819172646912, .int .u64 4613937818241073152, .int .u64 0, .slice rA5 1 rc5, .slice rA6 0 rc6, .slice rA7 2 rc7, .slice rA8 0 rc8]) oneF))
  case first =>
    have ht3a := fun i => (T3.out.alloc (.cells #[.int .i64 0, .int .u64 0, .int .u64 0, .int .u64 0, .int .u64 0, .slice none 0 0, .slice none 0 0, .slice none 0 0, .slice none 0 0] 31)).cell i
    go_region_with (first | (go_at_call 85; (with_reducible refine (fone_x (W8.alloc (.cells #[.int .i64 0, .int .u64 1, .int .u64 4602678819172646912, .int .u64 4613937818241073152, .int .u64 0, .slice mA5 1 mc5, .slice mA6 0 mc6, .slice mA7 2 mc7, .slice mA8 0 mc8] 31)).drew).mono ?_); rintro e W9 ⟨fA5, fc5, fA6, fc6, fA7, fc7, fA8, fc8, rfl, hh, hb⟩; have F := Aside0.mk hh; have B9 := Aside0.mk (below_then (below_drew (Below.refl (W8.alloc (.cells #[.int .i64 0, .int .u64 1, .int .u64 4602678819172646912, .int .u64 4613937818241073152, .int .u64 0, .slice mA5 1 mc5, .slice mA6 0 mc6, .slice mA7 2 mc7, .slice mA8 0 mc8] 31)).heap.size (W8.alloc (.cells #[.int .i64 0, .int .u64 1, .int .u64 4602678819172646912, .int .u64 4613937818241073152, .int .u64 0, .slice mA5 1 mc5, .slice mA6 0 mc6, .slice mA7 2 mc7, .slice mA8 0 mc8] 31)))) (Nat.le_refl _) hb); replace ht3 := fun i => (T3.out.below B9.out).cell i; have ht3b := fun i => ((T3.out.below B9.out).alloc (.cells #[.int .i64 0, .int .u64 0, .int .u64 0, .int .u64 0, .int .u64 0, .slice none 0 0, .slice none 0 0, .slice none 0 0, .slice none 0 0] 31)).cell i; clear hh hb) | (go_at_call 85; (with_reducible refine (fone_x ((W8.alloc (.cells #[.int .i64 0, .int .u64 1, .int .u64 4602678819172646912, .int .u64 4613937818241073152, .int .u64 0, .slice mA5 1 mc5, .slice mA6 0 mc6, .slice mA7 2 mc7, .slice mA8 0 mc8] 31)).alloc (.cells #[.int .i64 0, .int .u64 0, .int .u64 0, .int .u64 0, .int .u64 0, .slice none 0 0, .slice none 0 0, .slice none 0 0, .slice none 0 0] 31)).drew).mono ?_); rintro e W9 ⟨fA5, fc5, fA6, fc6, fA7, fc7, fA8, fc8, rfl, hh, hb⟩; have F := Aside0.mk hh; have B9 := Aside0.mk (below_then (below_drew (below_alloc (Below.refl (W8.alloc (.cells #[.int .i64 0, .int .u64 1, .int .u64 4602678819172646912, .int .u64 4613937818241073152, .int .u64 0, .slice mA5 1 mc5, .slice mA6 0 mc6, .slice mA7 2 mc7, .slice mA8 0 mc8] 31)).heap.size (W8.alloc (.cells #[.int .i64 0, .int .u64 1, .int .u64 4602678819172646912, .int .u64 4613937818241073152, .int .u64 0, .slice mA5 1 mc5, .slice mA6 0 mc6, .slice mA7 2 mc7, .slice mA8 0 mc8] 31))) (.cells #[.int .i64 0, .int .u64 0, .int .u64 0, .int .u64 0, .int .u64 0, .slice none 0 0, .slice none 0 0, .slice none 0 0, .slice none 0 0] 31))) (by simp) hb); have Z9 := Aside0.mk (show Blk W9 (W8.heap.size + 1) #[.int .i64 0, .int .u64 0, .int .u64 0, .int .u64 0, .int .u64 0, .slice none 0 0, .slice none 0 0, .slice none 0 0, .slice none 0 0] 31 from (show Blk ((W8.alloc (.cells #[.int .i64 0, .int .u64 1, .int .u64 4602678819172646912, .int .u64 4613937818241073152, .int .u64 0, .slice mA5 1 mc5, .slice mA6 0 mc6, .slice mA7 2 mc7, .slice mA8 0 mc8] 31)).alloc (.cells #[.int .i64 0, .int .u64 0, .int .u64 0, .int .u64 0, .int .u64 0, .slice none 0 0, .slice none 0 0, .slice none 0 0, .slice none 0 0] 31)) (W8.heap.size + 1) #[.int .i64 0, .int .u64 0, .int .u64 0, .int .u64 0, .int .u64 0, .slice none 0 0, .slice none 0 0, .slice none 0 0, .slice none 0 0] 31 from Blk.at1 (w := W8) (.cells #[.int .i64 0, .int .u64 1, .int .u64 4602678819172646912, .int .u64 4613937818241073152, .int .u64 0, .slice mA5 1 mc5, .slice mA6 0 mc6, .slice mA7 2 mc7, .slice mA8 0 mc8] 31) #[.int .i64 0, .int .u64 0, .int .u64 0, .int .u64 0, .int .u64 0, .slice none 0 0, .slice none 0 0, .slice none 0 0, .slice none 0 0] 31).below (below_then (below_drew (Below.refl _ _)) (Nat.le_refl _) hb)); have HL9 := Aside0.mk (blk_lt Z9.out); replace ht3 := fun i => (T3.out.below B9.out).cell i; clear hh hb) | (go_at_call 89; (with_reducible refine (fover_x W9 _ _ (C.out.below B9.out) F.out.spans).mono ?_); rintro e W10 ⟨rA5, rc5, rA6, rc6, rA7, rc7, rA8, rc8, rfl, hh, hb⟩; have R := Aside0.mk hh; have B10 := Aside0.mk (below_then B9.out B9.out.size hb); (try (replace Z9 := Aside0.mk (Z9.out.below hb); have hz := fun i => Z9.out.cell i; have hzf := fun i => blk_frozen Z9.out i)); replace ht3 := fun i => (T3.out.below B10.out).cell i; clear hh hb) | (go_at_call 89; (with_reducible refine (fover_x (W9.alloc (.cells #[.int .i64 0, .int .u64 0, .int .u64 0, .int .u64 0, .int .u64 0, .slice none 0 0, .slice none 0 0, .slice none 0 0, .slice none 0 0] 31)) _ _ (C.out.below (below_then B9.out B9.out.size (below_alloc (Below.refl _ _) _))) (F.out.below (below_alloc (Below.refl _ _) _)).spans).mono ?_); rintro e W10 ⟨rA5, rc5, rA6, rc6, rA7, rc7, rA8, rc8, rfl, hh, hb⟩; have R := Aside0.mk hh; have B10 := Aside0.mk (below_then (below_then B9.out B9.out.size (below_alloc (Below.refl _ _) _)) (below_then B9.out B9.out.size (below_alloc (Below.refl _ _) _)).size hb); have Z9 := Aside0.mk (show Blk W10 W9.heap.size #[.int .i64 0, .int .u64 0, .int .u64 0, .int .u64 0, .int .u64 0, .slice none 0 0, .slice none 0 0, .slice none 0 0, .slice none 0 0] 31 from (Blk.new W9 #[.int .i64 0, .int .u64 0, .int .u64 0, .int .u64 0, .int .u64 0, .slice none 0 0, .slice none 0 0, .slice none 0 0, .slice none 0 0] 31).below hb); have hz := fun i => Z9.out.cell i; have hzf := fun i => blk_frozen Z9.out i; replace ht3 := fun i => (T3.out.below B10.out).cell i; clear hh hb))
    all_goals go_wp2_with fail
    all_goals go_meet
    all_goals (first | exact ⟨rfl, _, rfl, ⟨B10.out.size, B10.out.alloc B10.out.size _, _, _, _, _, _, _, _, _, Blk.new W10 _ _, R.out.now.below (below_alloc (Below.refl _ _) _)⟩⟩ | exact ⟨rfl, _, rfl, ⟨B9.out.size, nine_below B10.out B9.out.size _ _ _ _ _ _ _ _ _, _, _, _, _, _, _, _, _, nine Z9.out _ _ _ _ _ _ _ _ _, (R.out.step (nine_ka (KA.refl _ _) (by simp) _ _ _ _ _ _ _ _ _)).now⟩⟩ | exact ⟨rfl, _, rfl, ⟨by simp, nine_below B10.out (by simp) _ _ _ _ _ _ _ _ _, _, _, _, _, _, _, _, _, nine Z9.out _ _ _ _ _ _ _ _ _, (R.out.step (nine_ka (KA.refl _ _) HL9.out _ _ _ _ _ _ _ _ _)).now⟩⟩)
  case rest =>
    obtain ⟨rfl, g, rfl, HG⟩ := hcut
    obtain ⟨hg, hbb, rA5, rc5, rA6, rc6, rA7, rc7, rA8, rc8, t8, hr⟩ := HG.out
    replace B := Aside0.mk (below_then B.out B.out.size hbb)
    replace C := Aside0.mk (C.out.below hbb)
    replace Bd := Aside0.mk (Bd.out.below hbb)
    replace M := Aside0.mk (M.out.below hbb)
    have R := Aside0.mk hr
    replace T3 := Aside0.mk (T3.out.below hbb)
    replace T5 := Aside0.mk (T5.out.below hbb)
    replace T6 := Aside0.mk (T6.out.below hbb)
    have T8 := Aside0.mk t8
    replace ht3 := fun i => T3.out.cell i
    have ht5 := fun i => T5.out.cell i
    have ht6 := fun i => T6.out.cell i
    have ht8 := fun i => T8.out.cell i
    clear hg hbb t8 hr HG
    go_wp2_with fail
    refine (whole_three wc).mono ?_
    rintro e U1 ⟨rfl, hb⟩
    replace B := Aside0.mk (below_then B.out B.out.size hb)
    replace C := Aside0.mk (C.out.below hb)
    replace Bd := Aside0.mk (Bd.out.below hb)
    replace M := Aside0.mk (M.out.below hb)
    replace R := Aside0.mk (R.out.below hb)
    replace T3 := Aside0.mk (T3.out.below hb)
    replace ht3 := fun i => T3.out.cell i
    replace T5 := Aside0.mk (T5.out.below hb)
    replace ht5 := fun i => T5.out.cell i
    replace T6 := Aside0.mk (T6.out.below hb)
    replace ht6 := fun i => T6.out.cell i
    replace T8 := Aside0.mk (T8.out.below hb)
    replace ht8 := fun i => T8.out.cell i
    clear hb
    go_wp2_with fail
    refine (whole_half U1).mono ?_
    rintro e U2 ⟨rfl, hb⟩
    replace B := Aside0.mk (below_then B.out B.out.size hb)
    replace C := Aside0.mk (C.out.below hb)
    replace Bd := Aside0.mk (Bd.out.below hb)
    replace M := Aside0.mk (M.out.below hb)
    replace R := Aside0.mk (R.out.below hb)
    replace T3 := Aside0.mk (T3.out.below hb)
    replace ht3 := fun i => T3.out.cell i
    replace T5 := Aside0.mk (T5.out.below hb)
    replace ht5 := fun i => T5.out.cell i
    replace T6 := Aside0.mk (T6.out.below hb)
    replace ht6 := fun i => T6.out.cell i
    replace T8 := Aside0.mk (T8.out.below hb)
    replace ht8 := fun i => T8.out.cell i
    clear hb
    go_wp2_with fail
    refine (fone_x U2).mono ?_
    rintro e U3 ⟨zA5, zc5, zA6, zc6, zA7, zc7, zA8, zc8, rfl, hh, hb⟩
    replace B := Aside0.mk (below_then B.out B.out.size hb)
    replace C := Aside0.mk (C.out.below hb)
    replace Bd := Aside0.mk (Bd.out.below hb)
    replace M := Aside0.mk (M.out.below hb)
    replace R := Aside0.mk (R.out.below hb)
    replace T3 := Aside0.mk (T3.out.below hb)
    replace ht3 := fun i => T3.out.cell i
    replace T5 := Aside0.mk (T5.out.below hb)
    replace ht5 := fun i => T5.out.cell i
    replace T6 := Aside0.mk (T6.out.below hb)
    replace ht6 := fun i => T6.out.cell i
    replace T8 := Aside0.mk (T8.out.below hb)
    replace ht8 := fun i => T8.out.cell i
    have Z := Aside0.mk hh
    clear hb hh
    go_wp2_with fail
    refine (back10 U3 _ Z.out).mono ?_
    rintro e U4 ⟨rfl, hb⟩
    replace B := Aside0.mk (below_then B.out B.out.size hb)
    replace C := Aside0.mk (C.out.below hb)
    replace Bd := Aside0.mk (Bd.out.below hb)
    replace M := Aside0.mk (M.out.below hb)
    replace R := Aside0.mk (R.out.below hb)
    replace Z := Aside0.mk (Z.out.below hb)
    replace T3 := Aside0.mk (T3.out.below hb)
    replace ht3 := fun i => T3.out.cell i
    replace T5 := Aside0.mk (T5.out.below hb)
    replace ht5 := fun i => T5.out.cell i
    replace T6 := Aside0.mk (T6.out.below hb)
    replace ht6 := fun i => T6.out.cell i
    replace T8 := Aside0.mk (T8.out.below hb)
    replace ht8 := fun i => T8.out.cell i
    clear hb
    clear Z
    have hbw := below_alloc (Below.refl U4.heap.size U4) (.cells #[.int .i64 0, .int .u64 0, .int .u64 0, .int .u64 0, .int .u64 0, .slice none 0 0, .slice none 0 0, .slice none 0 0, .slice none 0 0] 26)
    replace B := Aside0.mk (below_then B.out B.out.size hbw)
    replace C := Aside0.mk (C.out.below hbw)
    replace Bd := Aside0.mk (Bd.out.below hbw)
    replace M := Aside0.mk (M.out.below hbw)
    replace R := Aside0.mk (R.out.below hbw)
    replace T3 := Aside0.mk (T3.out.below hbw)
    replace T5 := Aside0.mk (T5.out.below hbw)
    replace T6 := Aside0.mk (T6.out.below hbw)
    replace T8 := Aside0.mk (T8.out.below hbw)
    replace ht3 := fun i => T3.out.cell i
    replace ht5 := fun i => T5.out.cell i
    replace ht6 := fun i => T6.out.cell i
    replace ht8 := fun i => T8.out.cell i
    clear hbw
    go_wp2_with fail
    go_region_held3 (fun W => (∀ i, W.cell? ⟨w4.heap.size, i, none⟩ = (#[.int .i64 0, .int .u64 1, .int .u64 4602678819172646912, .int .u64 4613937818241073152, .int .u64 0, .slice cA5 1 cc5, .slice cA6 0 cc6, .slice cA7 1 cc7, .slice cA8 0 cc8] : Array Value)[i]?) ∧ (∀ i, W.cell? ⟨W5.heap.size, i, none⟩ = (#[.int .i64 0, .int .u64 1, .int .u64 4602678819172646912, .int .u64 9223372036854775808, .int .u64 0, .slice bA5 1 bc5, .slice bA6 0 bc6, .slice bA7 2 bc7, .slice bA8 0 bc8] : Array Value)[i]?) ∧ (∀ i, W.cell? ⟨W8.heap.size, i, none⟩ = (#[.int .i64 0, .int .u64 1, .int .u64 4602678819172646912, .int .u64 4613937818241073152, .int .u64 0, .slice mA5 1 mc5, .slice mA6 0 mc6, .slice mA7 2 mc7, .slice mA8 0 mc8] : Array Value)[i]?) ∧ (∀ i, W.cell? ⟨g, i, none⟩ = (#[.int .i64 0, .int .u64 1, .int .u64 4602678819172646912, .int .u64 4613937818241073152, .int .u64 0, .slice rA5 1 rc5, .slice rA6 0 rc6, .slice rA7 2 rc7, .slice rA8 0 rc8] : Array Value)[i]?)) (exact ⟨fun i => T3.out.cell i, fun i => T5.out.cell i, fun i => T6.out.cell i, fun i => T8.out.cell i⟩) (first | (go_at_call 85; (with_reducible refine (fone_x (U4.alloc (.cells #[.int .i64 0, .int .u64 0, .int .u64 0, .int .u64 0, .int .u64 0, .slice none 0 0, .slice none 0 0, .slice none 0 0, .slice none 0 0] 26)).drew).mono ?_); rintro e V1 ⟨xA5, xc5, xA6, xc6, xA7, xc7, xA8, xc8, rfl, hh, hb⟩; have hb0 := hb; have hb := below_then (below_drew (Below.refl (U4.alloc (.cells #[.int .i64 0, .int .u64 0, .int .u64 0, .int .u64 0, .int .u64 0, .slice none 0 0, .slice none 0 0, .slice none 0 0, .slice none 0 0] 26)).heap.size (U4.alloc (.cells #[.int .i64 0, .int .u64 0, .int .u64 0, .int .u64 0, .int .u64 0, .slice none 0 0, .slice none 0 0, .slice none 0 0, .slice none 0 0] 26)))) ((below_drew (Below.refl (U4.alloc (.cells #[.int .i64 0, .int .u64 0, .int .u64 0, .int .u64 0, .int .u64 0, .slice none 0 0, .slice none 0 0, .slice none 0 0, .slice none 0 0] 26)).heap.size (U4.alloc (.cells #[.int .i64 0, .int .u64 0, .int .u64 0, .int .u64 0, .int .u64 0, .slice none 0 0, .slice none 0 0, .slice none 0 0, .slice none 0 0] 26))))).size hb; replace B := Aside0.mk (below_then B.out B.out.size hb); replace C := Aside0.mk (C.out.below hb); replace Bd := Aside0.mk (Bd.out.below hb); replace M := Aside0.mk (M.out.below hb); replace R := Aside0.mk (R.out.below hb); replace T3 := Aside0.mk (T3.out.below hb); replace ht3 := fun i => T3.out.cell i; replace T5 := Aside0.mk (T5.out.below hb); replace ht5 := fun i => T5.out.cell i; replace T6 := Aside0.mk (T6.out.below hb); replace ht6 := fun i => T6.out.cell i; replace T8 := Aside0.mk (T8.out.below hb); replace ht8 := fun i => T8.out.cell i; have X1 := Aside0.mk hh; clear hb hb0 hh) | (go_at_call 90; (with_reducible refine (fequal_x oneF oneF oneF_wf oneF_wf true aw10_6 V1 _ _ M.out X1.out).mono ?_); rintro e V2 ⟨rfl, hb⟩; replace B := Aside0.mk (below_then B.out B.out.size hb); replace C := Aside0.mk (C.out.below hb); replace Bd := Aside0.mk (Bd.out.below hb); replace M := Aside0.mk (M.out.below hb); replace R := Aside0.mk (R.out.below hb); replace X1 := Aside0.mk (X1.out.below hb); replace T3 := Aside0.mk (T3.out.below hb); replace ht3 := fun i => T3.out.cell i; replace T5 := Aside0.mk (T5.out.below hb); replace ht5 := fun i => T5.out.cell i; replace T6 := Aside0.mk (T6.out.below hb); replace ht6 := fun i => T6.out.cell i; replace T8 := Aside0.mk (T8.out.below hb); replace ht8 := fun i => T8.out.cell i; clear hb) | (go_at_call 90; (with_reducible refine (fequal_x oneF canF oneF_wf canF_wf true aw10_7 V2 _ _ R.out C.out).mono ?_); rintro e V3 ⟨rfl, hb⟩; replace B := Aside0.mk (below_then B.out B.out.size hb); replace C := Aside0.mk (C.out.below hb); replace Bd := Aside0.mk (Bd.out.below hb); replace M := Aside0.mk (M.out.below hb); replace R := Aside0.mk (R.out.below hb); replace T3 := Aside0.mk (T3.out.below hb); replace ht3 := fun i => T3.out.cell i; replace T5 := Aside0.mk (T5.out.below hb); replace ht5 := fun i => T5.out.cell i; replace T6 := Aside0.mk (T6.out.below hb); replace ht6 := fun i => T6.out.cell i; replace T8 := Aside0.mk (T8.out.below hb); replace ht8 := fun i => T8.out.cell i; clear hb) | (go_at_call 85; (with_reducible refine (fone_x V3).mono ?_); rintro e V4 ⟨yA5, yc5, yA6, yc6, yA7, yc7, yA8, yc8, rfl, hh, hb⟩; replace B := Aside0.mk (below_then B.out B.out.size hb); replace C := Aside0.mk (C.out.below hb); replace Bd := Aside0.mk (Bd.out.below hb); replace M := Aside0.mk (M.out.below hb); replace R := Aside0.mk (R.out.below hb); replace T3 := Aside0.mk (T3.out.below hb); replace ht3 := fun i => T3.out.cell i; replace T5 := Aside0.mk (T5.out.below hb); replace ht5 := fun i => T5.out.cell i; replace T6 := Aside0.mk (T6.out.below hb); replace ht6 := fun i => T6.out.cell i; replace T8 := Aside0.mk (T8.out.below hb); replace ht8 := fun i => T8.out.cell i; have X4 := Aside0.mk hh; clear hb hh) | (go_at_call 90; (with_reducible refine (fequal_x oneF badF oneF_wf badF_wf false aw10_8 V4 _ _ X4.out Bd.out).mono ?_); rintro e V5 ⟨rfl, hb⟩; replace B := Aside0.mk (below_then B.out B.out.size hb); replace C := Aside0.mk (C.out.below hb); replace Bd := Aside0.mk (Bd.out.below hb); replace M := Aside0.mk (M.out.below hb); replace R := Aside0.mk (R.out.below hb); replace X4 := Aside0.mk (X4.out.below hb); replace T3 := Aside0.mk (T3.out.below hb); replace ht3 := fun i => T3.out.cell i; replace T5 := Aside0.mk (T5.out.below hb); replace ht5 := fun i => T5.out.cell i; replace T6 := Aside0.mk (T6.out.below hb); replace ht6 := fun i => T6.out.cell i; replace T8 := Aside0.mk (T8.out.below hb); replace ht8 := fun i => T8.out.cell i; clear hb) | (go_at_call 31; (with_reducible refine (float_three V5).mono ?_); rintro e V6 ⟨rfl, hb⟩; replace B := Aside0.mk (below_then B.out B.out.size hb); replace C := Aside0.mk (C.out.below hb); replace Bd := Aside0.mk (Bd.out.below hb); replace M := Aside0.mk (M.out.below hb); replace R := Aside0.mk (R.out.below hb); replace T3 := Aside0.mk (T3.out.below hb); replace ht3 := fun i => T3.out.cell i; replace T5 := Aside0.mk (T5.out.below hb); replace ht5 := fun i => T5.out.cell i; replace T6 := Aside0.mk (T6.out.below hb); replace ht6 := fun i => T6.out.cell i; replace T8 := Aside0.mk (T8.out.below hb); replace ht8 := fun i => T8.out.cell i; clear hb) | (go_at_call 82; (with_reducible refine (right10 V6).mono ?_); rintro e V7 ⟨rfl, hb⟩; replace B := Aside0.mk (below_then B.out B.out.size hb); replace C := Aside0.mk (C.out.below hb); replace Bd := Aside0.mk (Bd.out.below hb); replace M := Aside0.mk (M.out.below hb); replace R := Aside0.mk (R.out.below hb); replace T3 := Aside0.mk (T3.out.below hb); replace ht3 := fun i => T3.out.cell i; replace T5 := Aside0.mk (T5.out.below hb); replace ht5 := fun i => T5.out.cell i; replace T6 := Aside0.mk (T6.out.below hb); replace ht6 := fun i => T6.out.cell i; replace T8 := Aside0.mk (T8.out.below hb); replace ht8 := fun i => T8.out.cell i; clear hb))
    all_goals go_wp2
    all_goals go_ret
    all_goals exact ⟨rfl, B.out⟩
end Go.Proofs.Ytfbjjbbhnmoolaa.P
namespace Go.Proofs.Ytfbjjbbhnmoolaa.P
open Go.RowKit Go.Shelf Go.Proofs.YtfbjjbbhnmoolaaW.PrintWords Go.Proofs.YtfbjjbbhnmoolaaW.PrintLast Go.Proofs.YtfbjjbbhnmoolaaW.PrintMore
def tidepolelaw10_awake.f : Option Bool := some true
theorem tidepolelaw10_awake.calls (r : Bool) (w : World) (h : tidepolelaw10_awake.f = some r) : Calls Try.prog 33 #[] w fun e w' => e = .returned (.bool r) ∧ Below w.heap.size w w' := by
  cases h
  exact awake10_c w
end Go.Proofs.Ytfbjjbbhnmoolaa.P
namespace Go.Proofs.Ytfbjjbbhnmoolaa.P
open Go.RowKit Go.Proofs.YtfbjjbbhnmoolaaW.PrintWords Go.Proofs.YtfbjjbbhnmoolaaW.PrintLast Go.Proofs.YtfbjjbbhnmoolaaW.PrintMore
theorem fbits_run (v : Int) (w : World) : (callFunc 81 #[.int .u64 v]).run Try.prog w = .ok (.value (.float .f64 v.toNat)) w := by
  rw [run_callFunc_extern Try.func81 (by kernel_rfl) (by kernel_rfl) (by kernel_rfl) (e := Extern.MathFloatBits.float64frombits) (by kernel_rfl)]
  rfl
theorem tbits_run (v : Nat) (w : World) : (callFunc 84 #[.float .f64 v]).run Try.prog w = .ok (.value (.int .u64 v)) w := by
  rw [run_callFunc_extern Try.func84 (by kernel_rfl) (by kernel_rfl) (by kernel_rfl) (e := Extern.MathFloatBits.float64bits) (by kernel_rfl)]
  rfl
theorem fcv_run (n : Int) (w : World) : (convert 22 129 (.int .u64 n)).run Try.prog w = .ok (.float .f64 (FloatKind.f64.nearest n)) w := by
  kernel_rfl
def fhist_Float.f (v : Int) : Option Int := some (FloatKind.f64.nearest v : Nat)
theorem fhist_Float.calls (a0 : Int) (r : Int) (w : World) (h : fhist_Float.f a0 = some r) : Calls Try.prog 31 #[.int .u64 a0] w fun e w' => e = .returned (.int .u64 r) ∧ Drawn0 w w' := by
  unfold fhist_Float.f at h
  have hc := fcv_run a0
  generalize FloatKind.f64.nearest a0 = n at *
  cases h
  have hb := tbits_run n
  go_enter Try.func31, Try.ntmps31
  go_wp2
  go_ret
  exact ⟨rfl, Drawn0.refl _⟩
end Go.Proofs.Ytfbjjbbhnmoolaa.P
namespace Go.Proofs.Ytfbjjbbhnmoolaa.P
def rnd (n d : Nat) : Nat := n / 2 ^ d + (if 2 ^ d < 2 * (n % 2 ^ d) ∨ (2 ^ d = 2 * (n % 2 ^ d) ∧ n / 2 ^ d % 2 = 1) then 1 else 0)
def fltR (n : Nat) : Nat := if n = 0 then 0 else if n.log2 ≤ 52 then (1022 + n.log2) * 4503599627370496 + n * 2 ^ (52 - n.log2) else (1022 + n.log2) * 4503599627370496 + rnd n (n.log2 - 52)
theorem cut_even (n d : Nat) (hd : d ≤ n.log2 + 2) : Ieee.Toward.cut .even false n d = rnd n d := by
  unfold Ieee.Toward.cut rnd
  rw [Nat.min_eq_left hd, Nat.one_shiftLeft]
  simp only
  congr 1
  by_cases h : 2 ^ d < 2 * (n % 2 ^ d) ∨ (2 ^ d = 2 * (n % 2 ^ d) ∧ n / 2 ^ d % 2 = 1)
  · rw [if_pos h]
    rcases h with h | ⟨h1, h2⟩
    · simp [h]
    · simp [← h1, h2]
  · rw [if_neg h]
    have h1 : ¬ 2 ^ d < 2 * (n % 2 ^ d) := fun e => h (Or.inl e)
    have h2 : ¬ (2 ^ d = 2 * (n % 2 ^ d) ∧ n / 2 ^ d % 2 = 1) := fun e => h (Or.inr e)
    have e1 : decide (2 ^ d < 2 * (n % 2 ^ d)) = false := decide_eq_false h1
    by_cases c : 2 ^ d = 2 * (n % 2 ^ d)
    · have e2 : (n / 2 ^ d % 2 == 1) = false := by
        rw [beq_eq_false_iff_ne]
        exact fun e => h2 ⟨c, e⟩
      rw [e1, e2]; simp
    · have e2 : (2 ^ d == 2 * (n % 2 ^ d)) = false := by
        rw [beq_eq_false_iff_ne]
        exact c
      rw [e1, e2]; simp
theorem log2_bounds {n : Nat} (h : n ≠ 0) : 2 ^ n.log2 ≤ n ∧ n < 2 ^ (n.log2 + 1) := ⟨Nat.log2_self_le h, Nat.lt_log2_self⟩
theorem log2_lt64 {n : Nat} (h : n ≠ 0) (hn : n < 18446744073709551616) : n.log2 ≤ 63 := by
  have := (log2_bounds h).1
  rcases Nat.lt_or_ge 63 n.log2 with c | c
  · have h2 : 2 ^ 64 ≤ 2 ^ n.log2 := Nat.pow_le_pow_right (by decide) c
    omega
  · exact c
theorem rnd_zero (n : Nat) : rnd n 0 = n := by
  unfold rnd
  rw [if_neg (by simp [Nat.mod_one])]
  simp
theorem frac_bounds {n : Nat} (h : n ≠ 0) : if n.log2 ≤ 52 then 4503599627370496 ≤ n * 2 ^ (52 - n.log2) ∧ n * 2 ^ (52 - n.log2) < 9007199254740992 else 4503599627370496 ≤ rnd n (n.log2 - 52) ∧ rnd n (n.log2 - 52) ≤ 9007199254740992 := by
  obtain ⟨h1, h2⟩ := log2_bounds h
  split
  · rename_i c
    have hp : 0 < 2 ^ (52 - n.log2) := Nat.two_pow_pos _
    have e1 : 2 ^ n.log2 * 2 ^ (52 - n.log2) = 4503599627370496 := by rw [← Nat.pow_add, show n.log2 + (52 - n.log2) = 52 by omega]
    have e2 : 2 ^ (n.log2 + 1) * 2 ^ (52 - n.log2) = 9007199254740992 := by rw [← Nat.pow_add, show n.log2 + 1 + (52 - n.log2) = 53 by omega]
    have a1 := Nat.mul_le_mul_right (2 ^ (52 - n.log2)) h1
    have a2 := Nat.mul_lt_mul_of_pos_right h2 hp
    omega
  · rename_i c
    have hp : 0 < 2 ^ (n.log2 - 52) := Nat.two_pow_pos _
    have e1 : 2 ^ n.log2 = 4503599627370496 * 2 ^ (n.log2 - 52) := by
      rw [show (4503599627370496 : Nat) = 2 ^ 52 from rfl, ← Nat.pow_add, show 52 + (n.log2 - 52) = n.log2 by omega]
    have e2 : 2 ^ (n.log2 + 1) = 9007199254740992 * 2 ^ (n.log2 - 52) := by
      rw [show (9007199254740992 : Nat) = 2 ^ 53 from rfl, ← Nat.pow_add, show 53 + (n.log2 - 52) = n.log2 + 1 by omega]
    have a1 : 4503599627370496 ≤ n / 2 ^ (n.log2 - 52) := (Nat.le_div_iff_mul_le hp).2 (by omega)
    have a2 : n / 2 ^ (n.log2 - 52) < 9007199254740992 := (Nat.div_lt_iff_lt_mul hp).2 (by omega)
    unfold rnd
    split <;> omega
theorem fltR_bounds {n : Nat} (h : n ≠ 0) : (1023 + n.log2) * 4503599627370496 ≤ fltR n ∧ fltR n ≤ (1024 + n.log2) * 4503599627370496 := by
  have := frac_bounds h
  unfold fltR
  rw [if_neg h]
  split at this
  · rename_i c
    rw [if_pos c]
    omega
  · rename_i c
    rw [if_neg c]
    omega
theorem rnd_mono (d : Nat) {a b : Nat} (h : a ≤ b) : rnd a d ≤ rnd b d := by
  unfold rnd
  have hp : 0 < 2 ^ d := Nat.two_pow_pos _
  generalize 2 ^ d = g at *
  have e1 := Nat.div_add_mod a g
  have e2 := Nat.div_add_mod b g
  have hq : a / g ≤ b / g := Nat.div_le_div_right h
  generalize a % g = ra at *
  generalize b % g = rb at *
  rcases Nat.lt_or_ge (a / g) (b / g) with c | c
  · split <;> split <;> omega
  · have hq' : a / g = b / g := Nat.le_antisymm hq c
    rw [hq'] at e1 ⊢
    have hr : ra ≤ rb := by omega
    split <;> split <;> omega
theorem log2_mono {a b : Nat} (ha : a ≠ 0) (h : a ≤ b) : a.log2 ≤ b.log2 := by
  rcases Nat.lt_or_ge b.log2 a.log2 with c | c
  · have h1 := (log2_bounds ha).1
    have h2 := (log2_bounds (show b ≠ 0 by omega)).2
    have h3 : 2 ^ (b.log2 + 1) ≤ 2 ^ a.log2 := Nat.pow_le_pow_right (by decide) c
    omega
  · exact c
theorem fltR_mono {a b : Nat} (h : a ≤ b) : fltR a ≤ fltR b := by
  by_cases ha : a = 0
  · subst ha; exact Nat.zero_le _
  have hb : b ≠ 0 := by omega
  have hl := log2_mono ha h
  rcases Nat.lt_or_ge a.log2 b.log2 with c | c
  · have h1 := (fltR_bounds ha).2
    have h2 := (fltR_bounds hb).1
    have h3 : (1024 + a.log2) * 4503599627370496 ≤ (1023 + b.log2) * 4503599627370496 := Nat.mul_le_mul_right _ (by omega)
    omega
  · have he : a.log2 = b.log2 := Nat.le_antisymm hl c
    unfold fltR
    rw [if_neg ha, if_neg hb, he]
    split
    · have := Nat.mul_le_mul_right (2 ^ (52 - b.log2)) h
      omega
    · have := rnd_mono (b.log2 - 52) h
      omega
theorem fltR_right {n : Nat} (hn : n < 18446744073709551616) : fltR n < 9218868437227405312 := by
  by_cases h : n = 0
  · subst h; decide
  · have h1 := (fltR_bounds h).2
    have h2 := log2_lt64 h hn
    have h3 : (1024 + n.log2) * 4503599627370496 ≤ (1024 + 63) * 4503599627370496 := Nat.mul_le_mul_right _ (by omega)
    omega
theorem f64_places : FloatKind.f64.format = Ieee.double := rfl
theorem nearest_eq {n : Nat} (hn : n < 18446744073709551616) : FloatKind.f64.nearest (n : Int) = fltR n := by
  unfold FloatKind.nearest FloatKind.encode Ieee.Format.write
  have e0 : decide ((n : Int) < 0) = false := decide_eq_false (by omega)
  rw [e0, Int.natAbs_natCast, f64_places]
  simp only
  unfold Ieee.Format.nearest
  by_cases h : n = 0
  · subst h; rfl
  rw [if_neg h]
  have hl : Ieee.double.leastPlace = -1074 := by decide
  have hf : Ieee.double.fractionBits = 52 := rfl
  have hbn : Ieee.double.binade = 4503599627370496 := by decide
  have hi : Ieee.double.infRung = 9218868437227405312 := by decide
  have hw : ∀ r, Ieee.double.word false r = r := fun r => rfl
  simp only [hl, hf, hbn, hi, hw]
  have h64 := log2_lt64 h hn
  have hlast : max ((0 : Int) + (n.log2 : Int) - (52 : Nat)) (-1074) = (n.log2 : Int) - 52 := by omega
  rw [hlast]
  have hr := fltR_right hn
  have hs : ((n.log2 : Int) - 52 - -1074).toNat = 1022 + n.log2 := by omega
  rw [hs]
  by_cases c : n.log2 ≤ 52
  · have d1 : (0 - ((n.log2 : Int) - 52)).toNat = 52 - n.log2 := by omega
    have d2 : ((n.log2 : Int) - 52 - 0).toNat = 0 := by omega
    rw [d1, d2, cut_even _ 0 (Nat.zero_le _), rnd_zero, Nat.shiftLeft_eq]
    have e : fltR n = (1022 + n.log2) * 4503599627370496 + n * 2 ^ (52 - n.log2) := by unfold fltR; rw [if_neg h, if_pos c]
    rw [← e]
    exact Nat.min_eq_left (by omega)
  · have d1 : (0 - ((n.log2 : Int) - 52)).toNat = 0 := by omega
    have d2 : ((n.log2 : Int) - 52 - 0).toNat = n.log2 - 52 := by omega
    rw [d1, d2, Nat.shiftLeft_zero, cut_even _ _ (by omega)]
    have e : fltR n = (1022 + n.log2) * 4503599627370496 + rnd n (n.log2 - 52) := by unfold fltR; rw [if_neg h, if_neg c]
    rw [← e]
    exact Nat.min_eq_left (by omega)
end Go.Proofs.Ytfbjjbbhnmoolaa.P
namespace Go.Proofs.Ytfbjjbbhnmoolaa.P
def wholeN (v : Nat) : Nat × Bool :=
  if v = 0 then (0, true) else if v / 4503599627370496 < 1023 ∨ 1086 < v / 4503599627370496 then (0, false)
  else if v / 4503599627370496 ≤ 1075 then (if (v % 4503599627370496 + 4503599627370496) % 2 ^ (1075 - v / 4503599627370496) = 0 then ((v % 4503599627370496 + 4503599627370496) / 2 ^ (1075 - v / 4503599627370496), true) else (0, false))
  else ((v % 4503599627370496 + 4503599627370496) * 2 ^ (v / 4503599627370496 - 1075), true)
theorem log2_of {n k : Nat} (h1 : 2 ^ k ≤ n) (h2 : n < 2 ^ (k + 1)) : n.log2 = k := by
  have hn : n ≠ 0 := by have := Nat.two_pow_pos k; omega
  obtain ⟨a, b⟩ := log2_bounds hn
  have c1 : n.log2 < k + 1 := (Nat.pow_lt_pow_iff_right (by decide : 1 < 2)).1 (Nat.lt_of_le_of_lt a h2)
  have c2 : k < n.log2 + 1 := (Nat.pow_lt_pow_iff_right (by decide : 1 < 2)).1 (Nat.lt_of_le_of_lt h1 b)
  omega
theorem flt_down {m d : Nat} (h1 : 4503599627370496 ≤ m) (h2 : m < 9007199254740992) (hd : m % 2 ^ d = 0) : d ≤ 52 ∧ fltR (m / 2 ^ d) = (1074 - d) * 4503599627370496 + m ∧ m / 2 ^ d < 9007199254740992 := by
  have hp := Nat.two_pow_pos d
  have e := Nat.div_add_mod m (2 ^ d)
  rw [hd, Nat.add_zero] at e
  have hd52 : d ≤ 52 := by
    rcases Nat.lt_or_ge 52 d with c | c
    · have h53 : 2 ^ 53 ≤ 2 ^ d := Nat.pow_le_pow_right (by decide) c
      have : m < 2 ^ d := by omega
      rw [Nat.mod_eq_of_lt this] at hd
      omega
    · exact c
  have hle : m / 2 ^ d < 9007199254740992 := Nat.lt_of_le_of_lt (Nat.div_le_self _ _) h2
  refine ⟨hd52, ?_, hle⟩
  have b1 : 2 ^ (52 - d) * 2 ^ d = 4503599627370496 := by rw [← Nat.pow_add, show 52 - d + d = 52 by omega]
  have b2 : 2 ^ (52 - d + 1) * 2 ^ d = 9007199254740992 := by rw [← Nat.pow_add, show 52 - d + 1 + d = 53 by omega]
  have l : (m / 2 ^ d).log2 = 52 - d := by
    refine log2_of ((Nat.le_div_iff_mul_le hp).2 (by omega)) ((Nat.div_lt_iff_lt_mul hp).2 (by omega))
  have hn : m / 2 ^ d ≠ 0 := by
    intro h0
    rw [h0, Nat.mul_zero] at e
    omega
  unfold fltR
  rw [if_neg hn, l, if_pos (by omega), show 52 - (52 - d) = d by omega, Nat.mul_comm (m / 2 ^ d), e]
  omega
theorem flt_up {m d : Nat} (h1 : 4503599627370496 ≤ m) (h2 : m < 9007199254740992) : fltR (m * 2 ^ d) = (1074 + d) * 4503599627370496 + m := by
  have hp := Nat.two_pow_pos d
  have b1 : 2 ^ (52 + d) = 4503599627370496 * 2 ^ d := by rw [Nat.pow_add]
  have b2 : 2 ^ (52 + d + 1) = 9007199254740992 * 2 ^ d := by rw [show 52 + d + 1 = 53 + d by omega, Nat.pow_add]
  have l : (m * 2 ^ d).log2 = 52 + d := log2_of (by rw [b1]; exact Nat.mul_le_mul_right _ h1) (by rw [b2]; exact Nat.mul_lt_mul_of_pos_right h2 hp)
  have hn : m * 2 ^ d ≠ 0 := by
    have := Nat.mul_pos (show 0 < m by omega) hp
    omega
  unfold fltR
  rw [if_neg hn, l]
  by_cases c : d = 0
  · subst c
    simp
  · rw [if_neg (by omega), show 52 + d - 52 = d by omega]
    unfold rnd
    rw [Nat.mul_div_cancel _ hp, Nat.mul_mod_left, if_neg (by omega)]
    omega
theorem wholeN_flt {v : Nat} (h : (wholeN v).2 = true) : fltR (wholeN v).1 = v ∧ (wholeN v).1 < 18446744073709551616 := by
  unfold wholeN at h ⊢
  by_cases c0 : v = 0
  · subst c0
    rw [if_pos rfl]
    exact ⟨rfl, by decide⟩
  rw [if_neg c0] at h ⊢
  have e := Nat.div_add_mod v 4503599627370496
  have hm := Nat.mod_lt v (show 0 < 4503599627370496 by decide)
  generalize v / 4503599627370496 = ex at *
  generalize v % 4503599627370496 = r at *
  by_cases c1 : ex < 1023 ∨ 1086 < ex
  · rw [if_pos c1] at h; cases h
  rw [if_neg c1] at h ⊢
  by_cases c2 : ex ≤ 1075
  · rw [if_pos c2] at h ⊢
    by_cases c3 : (r + 4503599627370496) % 2 ^ (1075 - ex) = 0
    · rw [if_pos c3]
      obtain ⟨a, b, c⟩ := flt_down (m := r + 4503599627370496) (d := 1075 - ex) (by omega) (by omega) c3
      refine ⟨?_, by show _ < _; omega⟩
      show fltR _ = v
      rw [b]; omega
    · rw [if_neg c3] at h; cases h
  · rw [if_neg c2]
    refine ⟨?_, ?_⟩
    · show fltR _ = v
      rw [flt_up (by omega) (by omega)]; omega
    · show (r + 4503599627370496) * 2 ^ (ex - 1075) < 18446744073709551616
      have h1 : 2 ^ (ex - 1075) ≤ 2 ^ 11 := Nat.pow_le_pow_right (by decide) (by omega)
      have h2 := Nat.mul_le_mul_left (r + 4503599627370496) h1
      omega
def magN (v : Nat) : Nat := if v < 4503599627370496 then v else v % 4503599627370496 + 4503599627370496
def placeN (v : Nat) : Int := if v < 4503599627370496 then -1074 else (v / 4503599627370496 : Nat) - 1075
theorem read_pos {v : Nat} (h : v < 9218868437227405312) : Ieee.double.read v = .number false (magN v) (placeN v) := by
  unfold Ieee.Format.read magN placeN
  have hl : Ieee.double.leastPlace = -1074 := by decide
  have hbn : Ieee.double.binade = 4503599627370496 := by decide
  have hi : Ieee.double.infRung = 9218868437227405312 := by decide
  have hs : Ieee.double.signWeight = 9223372036854775808 := by decide
  simp only [hl, hbn, hi, hs]
  rw [Nat.mod_eq_of_lt (show v < 9223372036854775808 by omega), Nat.div_eq_of_lt (show v < 9223372036854775808 by omega)]
  by_cases c : v < 4503599627370496
  · rw [if_pos c, if_pos c, if_pos c]; rfl
  · rw [if_neg c, if_neg c, if_neg c, if_pos h]
    have : 1 ≤ v / 4503599627370496 := (Nat.le_div_iff_mul_le (by decide)).2 (by omega)
    congr 1
    · omega
    · omega
theorem compare_int (a b : Int) : compare a b = if a < b then Ordering.lt else if a = b then Ordering.eq else Ordering.gt := rfl
theorem order_pos {x y : Nat} (hx : x < 9218868437227405312) (hy : y < 9218868437227405312) : Ieee.double.order x y = some (compare ((magN x * 2 ^ (placeN x - min (placeN x) (placeN y)).toNat : Nat) : Int) ((magN y * 2 ^ (placeN y - min (placeN x) (placeN y)).toNat : Nat) : Int)) := by
  unfold Ieee.Format.order
  rw [read_pos hx, read_pos hy]
  simp only [Ieee.Datum.order, Ieee.signed, Bool.false_eq_true, if_false, Nat.shiftLeft_eq]
theorem order_self {x : Nat} (hx : x < 9218868437227405312) : Ieee.double.order x x = some .eq := by
  rw [order_pos hx hx, compare_int, if_neg (by omega), if_pos rfl]
theorem order_64 {v : Nat} (h : v < 9218868437227405312) : Ieee.double.order v 4895412794951729152 = some (if v / 4503599627370496 < 1087 then .lt else if v % 4503599627370496 = 0 ∧ v / 4503599627370496 = 1087 then .eq else .gt) := by
  rw [order_pos h (by decide)]
  have m64 : magN 4895412794951729152 = 4503599627370496 := by decide
  have p64 : placeN 4895412794951729152 = 12 := by decide
  rw [m64, p64, compare_int]
  congr 1
  have hm := Nat.mod_lt v (show 0 < 4503599627370496 by decide)
  by_cases c : v / 4503599627370496 < 1087
  · rw [if_pos c]
    have hp : placeN v ≤ 11 := by unfold placeN; split <;> omega
    rw [Int.min_eq_left (by omega)]
    have hz : (placeN v - placeN v).toNat = 0 := by omega
    have hmag : magN v < 9007199254740992 := by unfold magN; split <;> omega
    have h1 : 2 ^ 1 ≤ 2 ^ (12 - placeN v).toNat := Nat.pow_le_pow_right (by decide) (by omega)
    rw [if_pos]
    rw [hz]
    have := Nat.mul_le_mul_left 4503599627370496 h1
    omega
  · rw [if_neg c]
    have hv : ¬ v < 4503599627370496 := by
      intro hlt
      rw [Nat.div_eq_of_lt hlt] at c
      omega
    have hp : placeN v = (v / 4503599627370496 : Nat) - 1075 := by unfold placeN; rw [if_neg hv]
    have hmag : magN v = v % 4503599627370496 + 4503599627370496 := by unfold magN; rw [if_neg hv]
    rw [Int.min_eq_right (by omega), hmag]
    have hz : ((12 : Int) - 12).toNat = 0 := by decide
    rw [hz]
    have hk : (placeN v - 12).toNat = v / 4503599627370496 - 1087 := by omega
    rw [hk]
    have h1 : 1 ≤ 2 ^ (v / 4503599627370496 - 1087) := Nat.two_pow_pos _
    have h2 := Nat.mul_le_mul_left (v % 4503599627370496 + 4503599627370496) h1
    rw [if_neg (by omega)]
    by_cases c2 : v % 4503599627370496 = 0 ∧ v / 4503599627370496 = 1087
    · rw [if_pos c2, if_pos]
      rw [c2.1, c2.2]
    · rw [if_neg c2, if_neg]
      intro he
      apply c2
      have he' : (v % 4503599627370496 + 4503599627370496) * 2 ^ (v / 4503599627370496 - 1087) = 4503599627370496 * 2 ^ 0 := by omega
      refine ⟨by omega, ?_⟩
      rcases Nat.lt_or_ge 1087 (v / 4503599627370496) with c3 | c3
      · have h3 : 2 ^ 1 ≤ 2 ^ (v / 4503599627370496 - 1087) := Nat.pow_le_pow_right (by decide) (by omega)
        have h4 := Nat.mul_le_mul_left (v % 4503599627370496 + 4503599627370496) h3
        omega
      · omega
theorem cut_zero (s : Bool) (n d : Nat) : Ieee.Toward.cut .zero s n d = n / 2 ^ d := by
  unfold Ieee.Toward.cut
  simp only [Nat.one_shiftLeft, Bool.toNat_false, Nat.add_zero]
  rcases Nat.lt_or_ge (n.log2 + 2) d with c | c
  · rw [Nat.min_eq_right (by omega)]
    have hn : n < 2 ^ (n.log2 + 1) := Nat.lt_log2_self
    have h1 : 2 ^ (n.log2 + 1) ≤ 2 ^ (n.log2 + 2) := Nat.pow_le_pow_right (by decide) (by omega)
    have h2 : 2 ^ (n.log2 + 2) ≤ 2 ^ d := Nat.pow_le_pow_right (by decide) (by omega)
    rw [Nat.div_eq_of_lt (by omega), Nat.div_eq_of_lt (by omega)]
  · rw [Nat.min_eq_left (by omega)]
def truncN (v : Nat) : Nat := magN v * 2 ^ (placeN v).toNat / 2 ^ (-placeN v).toNat
theorem integral_pos {v : Nat} (h : v < 9218868437227405312) : (Ieee.double.read v).integral .zero = .number false (truncN v) 0 := by
  rw [read_pos h]
  simp only [Ieee.Datum.integral, cut_zero, Nat.shiftLeft_eq]
  rfl
theorem toInt_pos {v : Nat} (h : v < 9218868437227405312) : (Ieee.double.read v).toInt .zero = some ((truncN v : Nat) : Int) := by
  unfold Ieee.Datum.toInt
  rw [integral_pos h]
  simp [Ieee.signed]
theorem truncN_lt {v : Nat} (h : v / 4503599627370496 < 1087) : truncN v < 18446744073709551616 := by
  unfold truncN
  have hm := Nat.mod_lt v (show 0 < 4503599627370496 by decide)
  have hp : placeN v ≤ 11 := by unfold placeN; split <;> omega
  have hmag : magN v < 9007199254740992 := by unfold magN; split <;> omega
  have h1 : 2 ^ (placeN v).toNat ≤ 2 ^ 11 := Nat.pow_le_pow_right (by decide) (by omega)
  have h2 := Nat.mul_le_mul_left (magN v) h1
  have h3 : magN v * 2 ^ 11 < 18446744073709551616 := by omega
  exact Nat.lt_of_le_of_lt (Nat.div_le_self _ _) (by omega)
theorem encode_pos {n : Nat} (hn : n < 18446744073709551616) : FloatKind.f64.encode (.number false n 0) = fltR n := by
  have := nearest_eq hn
  unfold FloatKind.nearest at this
  rw [show decide ((n : Int) < 0) = false from decide_eq_false (by omega), Int.natAbs_natCast] at this
  exact this
theorem trunc_whole {v : Nat} (h : v / 4503599627370496 < 1087) : if (wholeN v).2 = true then truncN v = (wholeN v).1 ∧ fltR (truncN v) = v else Ieee.double.order (fltR (truncN v)) v ≠ some .eq := by
  have hv : v < 9218868437227405312 := by have := Nat.div_add_mod v 4503599627370496; have := Nat.mod_lt v (show 0 < 4503599627370496 by decide); omega
  by_cases cb : placeN v < 0 ∧ magN v % 2 ^ (-placeN v).toNat ≠ 0
  · obtain ⟨c1, c2⟩ := cb
    have hf : (wholeN v).2 = false := by
      unfold wholeN
      have hm := Nat.mod_lt v (show 0 < 4503599627370496 by decide)
      by_cases cz : v = 0
      · subst cz
        have hz : magN 0 = 0 := rfl
        rw [hz, Nat.zero_mod] at c2
        exact absurd rfl c2
      unfold placeN magN at c2
      unfold placeN at c1
      rw [if_neg cz]
      by_cases ce : v / 4503599627370496 < 1023 ∨ 1086 < v / 4503599627370496
      · rw [if_pos ce]
      · rw [if_neg ce]
        have hlt : ¬ v < 4503599627370496 := by
          intro hlt
          rw [Nat.div_eq_of_lt hlt] at ce
          omega
        rw [if_neg hlt] at c1 c2
        rw [if_neg hlt] at c2
        rw [if_pos (by omega), if_neg]
        rw [show (-(((v / 4503599627370496 : Nat) : Int) - 1075)).toNat = 1075 - v / 4503599627370496 by omega] at c2
        exact c2
    rw [hf, if_neg (by decide)]
    have ht : truncN v = magN v / 2 ^ (-placeN v).toNat := by
      unfold truncN
      rw [show (placeN v).toNat = 0 by omega]; simp
    generalize hd : (-placeN v).toNat = d at *
    have hd1 : 1 ≤ d := by omega
    have hmag : magN v < 9007199254740992 := by have hm := Nat.mod_lt v (show 0 < 4503599627370496 by decide); unfold magN; split <;> omega
    have htl : truncN v < 4503599627370496 := by
      rw [ht]
      have h1 : 2 ^ 1 ≤ 2 ^ d := Nat.pow_le_pow_right (by decide) hd1
      exact (Nat.div_lt_iff_lt_mul (Nat.two_pow_pos d)).2 (by have := Nat.mul_le_mul_left 4503599627370496 h1; omega)
    have hr := fltR_right (n := truncN v) (by omega)
    rw [order_pos hr hv, compare_int]
    intro he
    have he : (magN (fltR (truncN v)) * 2 ^ (placeN (fltR (truncN v)) - min (placeN (fltR (truncN v))) (placeN v)).toNat : Nat) = (magN v * 2 ^ (placeN v - min (placeN (fltR (truncN v))) (placeN v)).toNat : Nat) := by
      injection he with he
      split at he
      · cases he
      · split at he
        · rename_i h2; exact Int.ofNat.inj h2
        · cases he
    generalize truncN v = t at *
    by_cases t0 : t = 0
    · subst t0
      have e0 : magN (fltR 0) = 0 := by decide
      rw [e0, Nat.zero_mul] at he
      have hmz : magN v ≠ 0 := fun h => c2 (by rw [h]; simp)
      have := Nat.mul_pos (Nat.pos_of_ne_zero hmz) (Nat.two_pow_pos (placeN v - min (placeN (fltR 0)) (placeN v)).toNat)
      omega
    · have lt52 : t.log2 ≤ 51 := by
        rcases Nat.lt_or_ge 51 t.log2 with c | c
        · have h53 : 2 ^ 52 ≤ 2 ^ t.log2 := Nat.pow_le_pow_right (by decide) c
          have := (log2_bounds t0).1
          omega
        · exact c
      have hfb := frac_bounds t0
      rw [if_pos (by omega)] at hfb
      have e : fltR t = (1022 + t.log2) * 4503599627370496 + t * 2 ^ (52 - t.log2) := by unfold fltR; rw [if_neg t0, if_pos (by omega)]
      have hge : ¬ fltR t < 4503599627370496 := by omega
      have m1 : magN (fltR t) = t * 2 ^ (52 - t.log2) := by unfold magN; rw [if_neg hge]; omega
      have p1 : placeN (fltR t) = (t.log2 : Int) - 52 := by unfold placeN; rw [if_neg hge]; omega
      rw [m1, p1] at he
      have hbase : min ((t.log2 : Int) - 52) (placeN v) ≤ -d := by omega
      generalize hb : min ((t.log2 : Int) - 52) (placeN v) = base at *
      have k1 : (52 - t.log2) + ((t.log2 : Int) - 52 - base).toNat = d + (placeN v - base).toNat := by omega
      rw [Nat.mul_assoc, ← Nat.pow_add, k1, Nat.pow_add, ← Nat.mul_assoc] at he
      have := Nat.eq_of_mul_eq_mul_right (Nat.two_pow_pos _) he
      apply c2
      rw [← this]
      exact Nat.mul_mod_left _ _
  · have hm := Nat.mod_lt v (show 0 < 4503599627370496 by decide)
    by_cases cz : v = 0
    · subst cz
      have : wholeN 0 = (0, true) := rfl
      rw [this, if_pos rfl]
      have : truncN 0 = 0 := by
        unfold truncN
        have : magN 0 = 0 := rfl
        rw [this]; simp
      rw [this]
      exact ⟨rfl, rfl⟩
    have hge : ¬ v < 4503599627370496 := by
      intro hlt
      apply cb
      have hp : placeN v = -1074 := by unfold placeN; rw [if_pos hlt]
      have hmg : magN v = v := by unfold magN; rw [if_pos hlt]
      refine ⟨by omega, ?_⟩
      have hd : 53 ≤ (-placeN v).toNat := by omega
      generalize (-placeN v).toNat = d at *
      have h1 : 2 ^ 53 ≤ 2 ^ d := Nat.pow_le_pow_right (by decide) hd
      rw [hmg, Nat.mod_eq_of_lt (by omega)]
      exact cz
    have hp : placeN v = ((v / 4503599627370496 : Nat) : Int) - 1075 := by unfold placeN; rw [if_neg hge]
    have hmg : magN v = v % 4503599627370496 + 4503599627370496 := by unfold magN; rw [if_neg hge]
    have ev := Nat.div_add_mod v 4503599627370496
    unfold wholeN truncN
    rw [if_neg cz, hp, hmg]
    rw [hp, hmg] at cb
    generalize v / 4503599627370496 = ex at *
    generalize v % 4503599627370496 = r at *
    by_cases c5 : ex < 1023
    · exfalso
      apply cb
      refine ⟨by omega, ?_⟩
      have h1 : 2 ^ 53 ≤ 2 ^ (-((ex : Int) - 1075)).toNat := Nat.pow_le_pow_right (by decide) (by omega)
      rw [Nat.mod_eq_of_lt (by omega)]
      omega
    rw [if_neg (show ¬ (ex < 1023 ∨ 1086 < ex) by omega)]
    by_cases c6 : ex ≤ 1075
    · have hz : ((ex : Int) - 1075).toNat = 0 := by omega
      have hn : (-((ex : Int) - 1075)).toNat = 1075 - ex := by omega
      rw [if_pos c6, hz, hn, Nat.pow_zero, Nat.mul_one]
      rw [hn] at cb
      have c7 : (r + 4503599627370496) % 2 ^ (1075 - ex) = 0 := by
        by_cases c8 : ex = 1075
        · subst c8; simp [Nat.mod_one]
        · exact Classical.byContradiction fun h => cb ⟨by omega, h⟩
      rw [if_pos c7, if_pos rfl]
      obtain ⟨a, b, c⟩ := flt_down (m := r + 4503599627370496) (d := 1075 - ex) (by omega) (by omega) c7
      exact ⟨rfl, by rw [b]; omega⟩
    · have hz : ((ex : Int) - 1075).toNat = ex - 1075 := by omega
      have hn : (-((ex : Int) - 1075)).toNat = 0 := by omega
      rw [if_neg c6, if_pos rfl, hz, hn, Nat.pow_zero, Nat.div_one]
      exact ⟨rfl, by rw [flt_up (by omega) (by omega)]; omega⟩
theorem wholeN_big {v : Nat} (h : ¬ v / 4503599627370496 < 1087) : wholeN v = (0, false) := by
  have hz : v ≠ 0 := by
    intro e
    subst e
    simp at h
  unfold wholeN
  rw [if_neg hz, if_pos (by omega)]
end Go.Proofs.Ytfbjjbbhnmoolaa.P
namespace Go.Proofs.Ytfbjjbbhnmoolaa.P
open Go.RowKit Go.Shelf Go.Proofs.YtfbjjbbhnmoolaaW.PrintWords Go.Proofs.YtfbjjbbhnmoolaaW.PrintLast Go.Proofs.YtfbjjbbhnmoolaaW.PrintMore
theorem decode_read (v : Nat) : FloatKind.f64.decode v = Ieee.double.read v := rfl
theorem trunc_run (v : Nat) (h : v / 4503599627370496 < 1087) (w : World) : (callFunc 112 #[.float .f64 v]).run Try.prog w = .ok (.value (.float .f64 (fltR (truncN v)))) w := by
  have hv : v < 9218868437227405312 := by have := Nat.div_add_mod v 4503599627370496; have := Nat.mod_lt v (show 0 < 4503599627370496 by decide); omega
  have hi := integral_pos hv
  have hrd := read_pos hv
  have he := encode_pos (truncN_lt h)
  have key : Extern.MathFloor.toIntegral "math.archTrunc" .zero #[.float .f64 v] = pure (.float .f64 (fltR (truncN v))) := by
    show Extern.MathFloor.toIntegral.match_1 (fun _ => Sem Value) (FloatKind.f64.decode v) _ _ = _
    rw [decode_read, hrd]
    show pure (Value.float .f64 (FloatKind.f64.encode (Ieee.Datum.integral .zero (.number false (magN v) (placeN v))))) = _
    rw [← hrd, hi, he]
  rw [run_callFunc_extern Try.func112 (by kernel_rfl) (by kernel_rfl) (by kernel_rfl) (e := Extern.MathFloor.toIntegral "math.archTrunc" .zero) (by kernel_rfl), key]
  rfl
theorem mtrunc_c (v : Nat) (h : v / 4503599627370496 < 1087) (w : World) : Calls Try.prog 83 #[.float .f64 v] w fun e w' => e = .returned (.float .f64 (fltR (truncN v))) ∧ Below w.heap.size w w' := by
  have ht := trunc_run v h
  generalize fltR (truncN v) = t at *
  clear h
  go_enter Try.func83, Try.ntmps83
  go_wp2
  go_ret
  exact ⟨rfl, Below.refl _ _⟩
theorem ge_lt {v : Nat} (h : v / 4503599627370496 < 1087) : (FloatKind.f64.format.order v 4895412794951729152 == some .gt) = false ∧ (FloatKind.f64.format.order v 4895412794951729152 == some .eq) = false := by
  have hv : v < 9218868437227405312 := by have := Nat.div_add_mod v 4503599627370496; have := Nat.mod_lt v (show 0 < 4503599627370496 by decide); omega
  have ho := order_64 hv
  rw [if_pos h] at ho
  have e : FloatKind.f64.format.order v 4895412794951729152 = some .lt := ho
  rw [e]
  exact ⟨rfl, rfl⟩
theorem ge_gt {v : Nat} (hv : v < 9218868437227405312) (h : ¬ v / 4503599627370496 < 1087) : (FloatKind.f64.format.order v 4895412794951729152 == some .gt || FloatKind.f64.format.order v 4895412794951729152 == some .eq) = true := by
  have ho := order_64 hv
  rw [if_neg h] at ho
  have e : FloatKind.f64.format.order v 4895412794951729152 = _ := ho
  rw [e]
  split <;> rfl
theorem ne_of (x v : Nat) (b : Bool) (hb : (Ieee.double.order x v != some .eq) = b) : (FloatKind.f64.format.order x v != some .eq) = b := hb
theorem cv_run (v : Nat) (h : v / 4503599627370496 < 1087) (w : World) : (convert 129 22 (.float .f64 v)).run Try.prog w = .ok (.int .u64 (truncN v : Nat)) w := by
  have hv : v < 9218868437227405312 := by have := Nat.div_add_mod v 4503599627370496; have := Nat.mod_lt v (show 0 < 4503599627370496 by decide); omega
  refine run_convert_float_int (P := Try.prog) w 129 22 .f64 .u64 v _ (by kernel_rfl) (by kernel_rfl) ?_
  have := truncN_lt h
  unfold floatToIntVal
  rw [decode_read, toInt_pos hv]
  simp only
  rw [if_pos]
  constructor
  · show (0 : Int) ≤ _; omega
  · show _ ≤ (18446744073709551615 : Int); omega
def wholeI (v : Int) : Int × Bool := (((wholeN v.toNat).1 : Nat), (wholeN v.toNat).2)
set_option maxRecDepth 100000 in
theorem whole_c (v : Int) (h0 : 0 ≤ v) (w : World) : Calls Try.prog 29 #[.int .u64 v] w fun e w' => e = .returned (.tuple #[.int .u64 (wholeI v).1, .bool (wholeI v).2]) ∧ Below w.heap.size w w' := by
  obtain ⟨n, rfl⟩ : ∃ n : Nat, v = n := ⟨v.toNat, by omega⟩
  have hf := fbits_run n
  rw [Int.toNat_natCast] at hf
  have rc := right_c n
  unfold wholeI
  rw [Int.toNat_natCast]
  by_cases hr : n < 9218868437227405312
  rotate_left
  · rw [show rightF n = false from decide_eq_false (by omega)] at rc
    have hbig : ¬ n / 4503599627370496 < 1087 := by
      intro h
      have := Nat.div_add_mod n 4503599627370496
      have := Nat.mod_lt n (show 0 < 4503599627370496 by decide)
      omega
    rw [wholeN_big hbig]
    have RC := Aside0.mk rc
    clear rc hr hbig h0
    go_enter Try.func29, Try.ntmps29
    go_wp2_with (go_at_call 82; (with_reducible refine (RC.out _).mono ?_); rintro e w1 ⟨rfl, hb⟩; have HB := Aside0.mk hb; clear hb)
    go_ret2
    exact ⟨rfl, HB.out⟩
  rw [show rightF n = true from decide_eq_true (by omega)] at rc
  have RC := Aside0.mk rc
  clear rc
  by_cases hb : n / 4503599627370496 < 1087
  rotate_left
  · have hg := ge_gt hr hb
    rw [wholeN_big hb]
    clear hr hb h0
    go_enter Try.func29, Try.ntmps29
    go_wp2_with (go_at_call 82; (with_reducible refine (RC.out _).mono ?_); rintro e w1 ⟨rfl, hb⟩; have HB := Aside0.mk hb; clear hb)
    go_ret2
    exact ⟨rfl, HB.out⟩
  obtain ⟨hg1, hg2⟩ := ge_lt hb
  have MT := Aside0.mk (mtrunc_c n hb)
  have tw := trunc_whole hb
  by_cases hw : (wholeN n).2 = true
  · rw [if_pos hw] at tw
    obtain ⟨t1, t2⟩ := tw
    have hn := ne_of (fltR (truncN n)) n false (by rw [t2, order_self hr]; rfl)
    have hc := cv_run n hb
    rw [← t1, hw]
    generalize fltR (truncN n) = fl at *
    generalize truncN n = tn at *
    clear hr hb h0 t1 t2 hw
    go_enter Try.func29, Try.ntmps29
    go_wp2_with (first | (go_at_call 82; (with_reducible refine (RC.out _).mono ?_); rintro e w1 ⟨rfl, hb⟩; have HB := Aside0.mk hb; clear hb) | (go_at_call 83; (with_reducible refine (MT.out _).mono ?_); rintro e w2 ⟨rfl, hb⟩; replace HB := Aside0.mk (below_then HB.out HB.out.size hb); clear hb))
    go_ret2
    exact ⟨rfl, HB.out⟩
  · rw [if_neg hw] at tw
    have hn := ne_of (fltR (truncN n)) n true (by simpa using tw)
    have e : wholeN n = (0, false) := by
      unfold wholeN at hw ⊢
      split at hw
      · exact absurd rfl hw
      · rename_i c0
        rw [if_neg c0]
        split at hw
        · rename_i c1; rw [if_pos c1]
        · rename_i c1
          rw [if_neg c1]
          split at hw
          · rename_i c2
            rw [if_pos c2]
            split at hw
            · exact absurd rfl hw
            · rename_i c3; rw [if_neg c3]
          · exact absurd rfl hw
    rw [e]
    generalize fltR (truncN n) = fl at *
    clear hr hb h0 tw hw e
    go_enter Try.func29, Try.ntmps29
    go_wp2_with (first | (go_at_call 82; (with_reducible refine (RC.out _).mono ?_); rintro e w1 ⟨rfl, hb⟩; have HB := Aside0.mk hb; clear hb) | (go_at_call 83; (with_reducible refine (MT.out _).mono ?_); rintro e w2 ⟨rfl, hb⟩; replace HB := Aside0.mk (below_then HB.out HB.out.size hb); clear hb))
    go_ret2
    exact ⟨rfl, HB.out⟩
def fhist_Whole.f (v : Int) : Option (Int × Bool) := if 0 ≤ v then some (wholeI v) else none
theorem fhist_Whole.calls (a0 : Int) (r1 : Int) (r2 : Bool) (w : World) (h : fhist_Whole.f a0 = some (r1, r2)) : Calls Try.prog 29 #[.int .u64 a0] w fun e w' => e = .returned (.tuple #[.int .u64 r1, .bool r2]) ∧ Below w.heap.size w w' := by
  unfold fhist_Whole.f at h
  split at h
  · rename_i hv
    have := whole_c a0 hv w
    injection h with h
    rw [h] at this
    exact this
  · cases h
end Go.Proofs.Ytfbjjbbhnmoolaa.P
namespace Go.Proofs.Ytfbjjbbhnmoolaa.P
open Go.RowKit Go.Proofs.YtfbjjbbhnmoolaaW.PrintWords Go.Proofs.YtfbjjbbhnmoolaaW.PrintLast Go.Proofs.YtfbjjbbhnmoolaaW.PrintMore
attribute [local go_sem] max2_int min2_int max_two min_two max_three min_three max_four min_four
mutual
def tidepoleref10_Whole.j0 : Nat → Int → Int → Bool → Option (Int × Int)
 | 0, _, _, _ => none
 | k + 1, x4, x5, x20 => if x20 = true then (some (0, 0)) else (tidepoleref10_Whole.l0 k x4 x5 1075)
def tidepoleref10_Whole.l0 : Nat → Int → Int → Int → Option (Int × Int)
 | 0, _, _, _ => none
 | k + 1, x4, x5, x6 => if x6 > x4 then (if (Int.tmod x5 2) = 1 then (some (0, 0)) else (tidepoleref10_Whole.l0 k x4 (IntKind.u64.wrap (Int.tdiv x5 2)) (IntKind.u64.wrap (x6 - 1)))) else (tidepoleref10_Whole.l1 k x4 x5 1075)
def tidepoleref10_Whole.l1 : Nat → Int → Int → Int → Option (Int × Int)
 | 0, _, _, _ => none
 | k + 1, x4, x5, x7 => if x7 < x4 then (tidepoleref10_Whole.l1 k x4 (IntKind.u64.wrap (x5 * 2)) (IntKind.u64.wrap (x7 + 1))) else (some (x5, 1))
end
def tidepoleref10_Whole.f (k : Nat) (a0 : Int) : Option (Int × Int) := if a0 = 0 then (some (0, 1)) else (if (IntKind.u64.wrap (Int.tdiv a0 4503599627370496)) < 1023 then (tidepoleref10_Whole.j0 k (IntKind.u64.wrap (Int.tdiv a0 4503599627370496)) (IntKind.u64.wrap ((Int.tmod a0 4503599627370496) + 4503599627370496)) true) else (tidepoleref10_Whole.j0 k (IntKind.u64.wrap (Int.tdiv a0 4503599627370496)) (IntKind.u64.wrap ((Int.tmod a0 4503599627370496) + 4503599627370496)) (decide ((IntKind.u64.wrap (Int.tdiv a0 4503599627370496)) > 1086))))
set_option maxHeartbeats 8000000 in
set_option maxRecDepth 100000 in
theorem tidepoleref10_Whole.calls (k : Nat) (a0 : Int) (r1 : Int) (r2 : Int) (w : World) (h : tidepoleref10_Whole.f k a0 = some (r1, r2)) :
  Calls Try.prog 30 #[.int .u64 a0] w fun e w' => e = .returned (.tuple #[.int .u64 r1, .int .i64 r2]) ∧ Drawn0 w w' := by
 have H : (if a0 = 0 then (some (0, 1)) else (if (IntKind.u64.wrap (Int.tdiv a0 4503599627370496)) < 1023 then (tidepoleref10_Whole.j0 k (IntKind.u64.wrap (Int.tdiv a0 4503599627370496)) (IntKind.u64.wrap ((Int.tmod a0 4503599627370496) + 4503599627370496)) true) else (tidepoleref10_Whole.j0 k (IntKind.u64.wrap (Int.tdiv a0 4503599627370496)) (IntKind.u64.wrap ((Int.tmod a0 4503599627370496) + 4503599627370496)) (decide ((IntKind.u64.wrap (Int.tdiv a0 4503599627370496)) > 1086))))) = some (r1, r2) := h
 clear h
 by_cases c2 : a0 = 0
 ·rw [if_pos c2] at H
  have c2b0 : (a0 == 0) = true := beq_iff_eq.mpr c2
  have c2b1 : (a0 != 0) = false := bne_eq_false_iff_eq.mpr c2
  clear c2
  simp only [Option.some.injEq, Prod.mk.injEq] at H
  obtain ⟨rfl, rfl⟩ := H
  go_enter Try.func30, Try.ntmps30
  go_wp2
  go_ret2
  exact ⟨by first | rfl | (simp; done) | (simp [*]; done), by repeat (first | exact Drawn0.refl _ | apply Drawn0.step)⟩
 ·rw [if_neg c2] at H
  have c2b0 : (a0 == 0) = false := beq_eq_false_iff_ne.mpr c2
  have c2b1 : (a0 != 0) = true := bne_iff_ne.mpr c2
  have HC3 := Aside0.mk H
  clear H
  go_enter Try.func30, Try.ntmps30
  go_upto_region 4 with (fail)
  go_cut [20] (fun v20 wc => ∃ (kq : Nat) (x20_2 : Bool), v20 = .bool x20_2 ∧ Aside0 (tidepoleref10_Whole.j0 kq (IntKind.u64.wrap (Int.tdiv a0 4503599627370496)) (IntKind.u64.wrap ((Int.tmod a0 4503599627370496) + 4503599627370496)) x20_2 = some (r1, r2)) ∧ Aside0 (kq ≤ k) ∧ Drawn0 w wc)
  case first =>
   have H := HC3.out
   clear HC3
   by_cases c4 : (IntKind.u64.wrap (Int.tdiv a0 4503599627370496)) < 1023
   ·rw [if_pos c4] at H
    have c4b0 : decide ((IntKind.u64.wrap (Int.tdiv a0 4503599627370496)) < 1023) = true := decide_eq_true c4
    clear c4
    (first | rw [c4b0] | (simp only [i64_w, i32_w]; rw [c4b0]) | skip)
    have H' := Aside0.mk H
    clear H
    go_wp2
    go_meet
    case rel => exact ⟨_, (true), (by first | rfl | (simp; done) | (simp [*]; done)), H', ⟨by first | omega | exact Nat.le_refl _⟩, by repeat (first | exact Drawn0.refl _ | apply Drawn0.step)⟩
   ·rw [if_neg c4] at H
    have c4b0 : decide ((IntKind.u64.wrap (Int.tdiv a0 4503599627370496)) < 1023) = false := decide_eq_false c4
    clear c4
    (first | rw [c4b0] | (simp only [i64_w, i32_w]; rw [c4b0]) | skip)
    have H' := Aside0.mk H
    clear H
    go_wp2
    go_meet
    case rel => exact ⟨_, (decide ((IntKind.u64.wrap (Int.tdiv a0 4503599627370496)) > 1086)), (by first | rfl | (simp; done) | (simp [*]; done)), H', ⟨by first | omega | exact Nat.le_refl _⟩, by repeat (first | exact Drawn0.refl _ | apply Drawn0.step)⟩
  case rest =>
   clear HC3
   try clear c2
   try clear c2b0
   try clear c2b1
   try clear p2
   try clear c3
   try clear c4
   try clear c4b0
   obtain ⟨kq, x20_2, rfl, HA, HJ2, ⟨mc2, rfl⟩⟩ := hcut
   cases kq with
   | zero => exact absurd HA.out (by simp [tidepoleref10_Whole.j0])
   | succ kj2 =>
    have H := HA.out
    clear HA
    simp only [tidepoleref10_Whole.j0] at H
    by_cases c5 : x20_2 = true
    ·subst c5
     have H1 : (some (0, 0)) = some (r1, r2) := by rw [if_pos rfl] at H; exact H
     clear H
     have H := H1
     clear H1
     simp only [Option.some.injEq, Prod.mk.injEq] at H
     obtain ⟨rfl, rfl⟩ := H
     go_wp2
     go_ret2
     exact ⟨by first | rfl | (simp; done) | (simp [*]; done), by repeat (first | exact Drawn0.refl _ | apply Drawn0.step)⟩
    ·replace c5 := Bool.eq_false_iff.mpr c5
     subst c5
     have H1 : (tidepoleref10_Whole.l0 kj2 (IntKind.u64.wrap (Int.tdiv a0 4503599627370496)) (IntKind.u64.wrap ((Int.tmod a0 4503599627370496) + 4503599627370496)) 1075) = some (r1, r2) := by rw [if_neg (show ¬ (false = true) by decide)] at H; exact H
     clear H
     have H := H1
     clear H1
     have H' := Aside0.mk H
     clear H
     go_wp2
     go_loopg [5, 6] kj2 (fun kq v5 v6 w' => ∃ (x5_2 : Int) (x6_2 : Int), v5 = .int .u64 x5_2 ∧ v6 = .int .u64 x6_2 ∧ Aside0 (tidepoleref10_Whole.l0 kq (IntKind.u64.wrap (Int.tdiv a0 4503599627370496)) x5_2 x6_2 = some (r1, r2)) ∧ Aside0 (kq ≤ kj2) ∧ Drawn0 w w')
     case atStart => exact ⟨((IntKind.u64.wrap ((Int.tmod a0 4503599627370496) + 4503599627370496))), (1075), (by first | rfl | (simp; done) | (simp [*]; done)), (by first | rfl | (simp; done) | (simp [*]; done)), H', ⟨Nat.le_refl _⟩, by repeat (first | exact Drawn0.refl _ | apply Drawn0.step)⟩
     case round =>
      clear H'
      try clear c2
      try clear c2b0
      try clear c2b1
      try clear p2
      try clear c3
      try clear c4
      try clear c4b0
      try clear c5
      try clear p2
      obtain ⟨x5_2, x6_2, rfl, rfl, HA, HK2, ⟨m2, rfl⟩⟩ := hrel
      cases gk with
      | zero => exact absurd HA.out (by simp [tidepoleref10_Whole.l0])
      | succ k2 =>
       have H := HA.out
       clear HA
       simp only [tidepoleref10_Whole.l0] at H
       by_cases c6 : x6_2 > (IntKind.u64.wrap (Int.tdiv a0 4503599627370496))
       ·rw [if_pos c6] at H
        have c6b0 : decide ((IntKind.u64.wrap (Int.tdiv a0 4503599627370496)) < x6_2) = true := decide_eq_true c6
        clear c6
        by_cases c7 : (Int.tmod x5_2 2) = 1
        ·rw [if_pos c7] at H
         have c7b0 : ((Int.tmod x5_2 2) == 1) = true := beq_iff_eq.mpr c7
         have c7b1 : ((Int.tmod x5_2 2) != 1) = false := bne_eq_false_iff_eq.mpr c7
         clear c7
         simp only [Option.some.injEq, Prod.mk.injEq] at H
         obtain ⟨rfl, rfl⟩ := H
         go_wp2
         go_ret2
         exact ⟨by first | rfl | (simp; done) | (simp [*]; done), by repeat (first | exact Drawn0.refl _ | apply Drawn0.step)⟩
        ·rw [if_neg c7] at H
         have c7b0 : ((Int.tmod x5_2 2) == 1) = false := beq_eq_false_iff_ne.mpr c7
         have c7b1 : ((Int.tmod x5_2 2) != 1) = true := bne_iff_ne.mpr c7
         have H' := Aside0.mk H
         clear H
         go_wp2
         go_roundg k2
         case measure => have := HJ2.out; have := HK2.out; omega
         case rel => exact ⟨(IntKind.u64.wrap (Int.tdiv x5_2 2)), (IntKind.u64.wrap (x6_2 - 1)), (by first | rfl | (simp; done) | (simp [*]; done)), (by first | rfl | (simp; done) | (simp [*]; done)), H', ⟨by have := HJ2.out; have := HK2.out; omega⟩, by repeat (first | exact Drawn0.refl _ | apply Drawn0.step)⟩
       ·rw [if_neg c6] at H
        have c6b0 : decide ((IntKind.u64.wrap (Int.tdiv a0 4503599627370496)) < x6_2) = false := decide_eq_false c6
        clear c6
        have H' := Aside0.mk H
        clear H
        go_wp2
        go_loopg [5, 7] k2 (fun kq v5 v7 w' => ∃ (x5_3 : Int) (x7_3 : Int), v5 = .int .u64 x5_3 ∧ v7 = .int .u64 x7_3 ∧ Aside0 (tidepoleref10_Whole.l1 kq (IntKind.u64.wrap (Int.tdiv a0 4503599627370496)) x5_3 x7_3 = some (r1, r2)) ∧ Aside0 (kq ≤ k2) ∧ Drawn0 w w')
        case atStart => exact ⟨(x5_2), (1075), (by first | rfl | (simp; done) | (simp [*]; done)), (by first | rfl | (simp; done) | (simp [*]; done)), H', ⟨Nat.le_refl _⟩, by repeat (first | exact Drawn0.refl _ | apply Drawn0.step)⟩
        case round =>
         clear H'
         try clear c2
         try clear c2b0
         try clear c2b1
         try clear p2
         try clear c3
         try clear c4
         try clear c4b0
         try clear c5
         try clear c6
         try clear c6b0
         try clear c7
         try clear c7b0
         try clear c7b1
         try clear p2
         obtain ⟨x5_3, x7_3, rfl, rfl, HA, HK3, ⟨m3, rfl⟩⟩ := hrel
         cases gk with
         | zero => exact absurd HA.out (by simp [tidepoleref10_Whole.l1])
         | succ k3 =>
          have H := HA.out
          clear HA
          simp only [tidepoleref10_Whole.l1] at H
          by_cases c8 : x7_3 < (IntKind.u64.wrap (Int.tdiv a0 4503599627370496))
          ·rw [if_pos c8] at H
           have c8b0 : decide (x7_3 < (IntKind.u64.wrap (Int.tdiv a0 4503599627370496))) = true := decide_eq_true c8
           clear c8
           have H' := Aside0.mk H
           clear H
           go_wp2
           go_roundg k3
           case measure => have := HJ2.out; have := HK2.out; have := HK3.out; omega
           case rel => exact ⟨(IntKind.u64.wrap (x5_3 * 2)), (IntKind.u64.wrap (x7_3 + 1)), (by first | rfl | (simp; done) | (simp [*]; done)), (by first | rfl | (simp; done) | (simp [*]; done)), H', ⟨by have := HJ2.out; have := HK2.out; have := HK3.out; omega⟩, by repeat (first | exact Drawn0.refl _ | apply Drawn0.step)⟩
          ·rw [if_neg c8] at H
           have c8b0 : decide (x7_3 < (IntKind.u64.wrap (Int.tdiv a0 4503599627370496))) = false := decide_eq_false c8
           clear c8
           simp only [Option.some.injEq, Prod.mk.injEq] at H
           obtain ⟨rfl, rfl⟩ := H
           go_wp2
           go_ret2
           exact ⟨by first | rfl | (simp; done) | (simp [*]; done), by repeat (first | exact Drawn0.refl _ | apply Drawn0.step)⟩
def tidepoleref10_Float.l0 : Nat → Int → Int → Option (Int)
 | 0, _, _ => none
 | k + 1, x0, x3 => if 0 ≤ x3 then (if (shr .u64 x0 x3) > 1 then (tidepoleref10_Float.l0 k x0 (IntKind.u64.wrap (x3 + 1))) else (if x3 ≤ 52 then (if 0 ≤ (IntKind.u64.wrap (52 - x3)) then (some (IntKind.u64.wrap ((IntKind.u64.wrap ((IntKind.u64.wrap (1023 + x3)) * 4503599627370496)) + (IntKind.u64.wrap ((IntKind.u64.wrap (x0 * (shl .u64 1 (IntKind.u64.wrap (52 - x3))))) - 4503599627370496))))) else (none)) else (if 0 ≤ (IntKind.u64.wrap (x3 - 52)) then (if (shl .u64 1 (IntKind.u64.wrap (x3 - 52))) = 0 then (none) else (if (Int.tmod x0 (shl .u64 1 (IntKind.u64.wrap (x3 - 52)))) > (IntKind.u64.wrap (Int.tdiv (shl .u64 1 (IntKind.u64.wrap (x3 - 52))) 2)) then (some (IntKind.u64.wrap ((IntKind.u64.wrap ((IntKind.u64.wrap (1023 + x3)) * 4503599627370496)) + (IntKind.u64.wrap ((IntKind.u64.wrap ((IntKind.u64.wrap (Int.tdiv x0 (shl .u64 1 (IntKind.u64.wrap (x3 - 52))))) + 1)) - 4503599627370496))))) else (if (Int.tmod x0 (shl .u64 1 (IntKind.u64.wrap (x3 - 52)))) = (IntKind.u64.wrap (Int.tdiv (shl .u64 1 (IntKind.u64.wrap (x3 - 52))) 2)) then (if (Int.tmod (IntKind.u64.wrap (Int.tdiv x0 (shl .u64 1 (IntKind.u64.wrap (x3 - 52))))) 2) = 1 then (some (IntKind.u64.wrap ((IntKind.u64.wrap ((IntKind.u64.wrap (1023 + x3)) * 4503599627370496)) + (IntKind.u64.wrap ((IntKind.u64.wrap ((IntKind.u64.wrap (Int.tdiv x0 (shl .u64 1 (IntKind.u64.wrap (x3 - 52))))) + 1)) - 4503599627370496))))) else (some (IntKind.u64.wrap ((IntKind.u64.wrap ((IntKind.u64.wrap (1023 + x3)) * 4503599627370496)) + (IntKind.u64.wrap ((IntKind.u64.wrap (Int.tdiv x0 (shl .u64 1 (IntKind.u64.wrap (x3 - 52))))) - 4503599627370496)))))) else (some (IntKind.u64.wrap ((IntKind.u64.wrap ((IntKind.u64.wrap (1023 + x3)) * 4503599627370496)) + (IntKind.u64.wrap ((IntKind.u64.wrap (Int.tdiv x0 (shl .u64 1 (IntKind.u64.wrap (x3 - 52))))) - 4503599627370496)))))))) else (none)))) else (none)
def tidepoleref10_Float.f (k : Nat) (a0 : Int) : Option (Int) := if a0 = 0 then (some 0) else (tidepoleref10_Float.l0 k a0 0)
set_option maxHeartbeats 8000000 in
set_option maxRecDepth 100000 in
theorem tidepoleref10_Float.calls (k : Nat) (a0 : Int) (r : Int) (w : World) (h : tidepoleref10_Float.f k a0 = some r) :
  Calls Try.prog 32 #[.int .u64 a0] w fun e w' => e = .returned (.int .u64 r) ∧ Drawn0 w w' := by
 have H : (if a0 = 0 then (some 0) else (tidepoleref10_Float.l0 k a0 0)) = some r := h
 clear h
 by_cases c2 : a0 = 0
 ·rw [if_pos c2] at H
  have c2b0 : (a0 == 0) = true := beq_iff_eq.mpr c2
  have c2b1 : (a0 != 0) = false := bne_eq_false_iff_eq.mpr c2
  clear c2
  obtain rfl := Option.some.inj H
  go_enter Try.func32, Try.ntmps32
  go_wp2
  repeat (go_quiet (fail); try go_wp2)
  go_ret
  exact ⟨by first | rfl | (simp; done) | (simp [*]; done), by repeat (first | exact Drawn0.refl _ | apply Drawn0.step)⟩
 ·rw [if_neg c2] at H
  have c2b0 : (a0 == 0) = false := beq_eq_false_iff_ne.mpr c2
  have c2b1 : (a0 != 0) = true := bne_iff_ne.mpr c2
  have H' := Aside0.mk H
  clear H
  go_enter Try.func32, Try.ntmps32
  go_wp2
  repeat (go_quiet (fail); try go_wp2)
  go_loopg [3] k (fun kq v3 w' => ∃ (x3_1 : Int), v3 = .int .u64 x3_1 ∧ Aside0 (tidepoleref10_Float.l0 kq a0 x3_1 = some r) ∧ Aside0 (kq ≤ k) ∧ Drawn0 w w')
  case atStart => exact ⟨(0), (by first | rfl | (simp; done) | (simp [*]; done)), H', ⟨Nat.le_refl _⟩, by repeat (first | exact Drawn0.refl _ | apply Drawn0.step)⟩
  case round =>
   clear H'
   try clear c2
   try clear c2b0
   try clear c2b1
   try clear p2
   obtain ⟨x3_1, rfl, HA, HK1, ⟨m1, rfl⟩⟩ := hrel
   cases gk with
   | zero => exact absurd HA.out (by simp [tidepoleref10_Float.l0])
   | succ k1 =>
    have H := HA.out
    clear HA
    simp only [tidepoleref10_Float.l0] at H
    by_cases c3 : 0 ≤ x3_1
    ·rw [if_pos c3] at H
     have c3b0 := eq_true c3
     have c3b1 : decide (0 ≤ x3_1) = true := decide_eq_true c3
     clear c3
     obtain ⟨ji4, hji4⟩ : ∃ j_ : Int, (shr .u64 a0 x3_1) = j_ := ⟨_, rfl⟩
     replace H : (if (ji4) > 1 then (tidepoleref10_Float.l0 k1 a0 (IntKind.u64.wrap (x3_1 + 1))) else (if x3_1 ≤ 52 then (if 0 ≤ (IntKind.u64.wrap (52 - x3_1)) then (some (IntKind.u64.wrap ((IntKind.u64.wrap ((IntKind.u64.wrap (1023 + x3_1)) * 4503599627370496)) + (IntKind.u64.wrap ((IntKind.u64.wrap (a0 * (shl .u64 1 (IntKind.u64.wrap (52 - x3_1))))) - 4503599627370496))))) else (none)) else (if 0 ≤ (IntKind.u64.wrap (x3_1 - 52)) then (if (shl .u64 1 (IntKind.u64.wrap (x3_1 - 52))) = 0 then (none) else (if (Int.tmod a0 (shl .u64 1 (IntKind.u64.wrap (x3_1 - 52)))) > (IntKind.u64.wrap (Int.tdiv (shl .u64 1 (IntKind.u64.wrap (x3_1 - 52))) 2)) then (some (IntKind.u64.wrap ((IntKind.u64.wrap ((IntKind.u64.wrap (1023 + x3_1)) * 4503599627370496)) + (IntKind.u64.wrap ((IntKind.u64.wrap ((IntKind.u64.wrap (Int.tdiv a0 (shl .u64 1 (IntKind.u64.wrap (x3_1 - 52))))) + 1)) - 4503599627370496))))) else (if (Int.tmod a0 (shl .u64 1 (IntKind.u64.wrap (x3_1 - 52)))) = (IntKind.u64.wrap (Int.tdiv (shl .u64 1 (IntKind.u64.wrap (x3_1 - 52))) 2)) then (if (Int.tmod (IntKind.u64.wrap (Int.tdiv a0 (shl .u64 1 (IntKind.u64.wrap (x3_1 - 52))))) 2) = 1 then (some (IntKind.u64.wrap ((IntKind.u64.wrap ((IntKind.u64.wrap (1023 + x3_1)) * 4503599627370496)) + (IntKind.u64.wrap ((IntKind.u64.wrap ((IntKind.u64.wrap (Int.tdiv a0 (shl .u64 1 (IntKind.u64.wrap (x3_1 - 52))))) + 1)) - 4503599627370496))))) else (some (IntKind.u64.wrap ((IntKind.u64.wrap ((IntKind.u64.wrap (1023 + x3_1)) * 4503599627370496)) + (IntKind.u64.wrap ((IntKind.u64.wrap (Int.tdiv a0 (shl .u64 1 (IntKind.u64.wrap (x3_1 - 52))))) - 4503599627370496)))))) else (some (IntKind.u64.wrap ((IntKind.u64.wrap ((IntKind.u64.wrap (1023 + x3_1)) * 4503599627370496)) + (IntKind.u64.wrap ((IntKind.u64.wrap (Int.tdiv a0 (shl .u64 1 (IntKind.u64.wrap (x3_1 - 52))))) - 4503599627370496)))))))) else (none)))) = some r := by first | (rw [hji4] at H; exact H) | (simp only [hji4] at H ⊢; exact H)
     have hji4_ : (a0 / 2 ^ min x3_1.toNat 64) = ji4 := hji4
     have hji4z : x3_1 ≤ 64 → (a0 / 2 ^ x3_1.toNat) = ji4 := shr_small hji4
     by_cases c5 : (ji4) > 1
     ·rw [if_pos c5] at H
      have c5b0 : decide (1 < (ji4)) = true := decide_eq_true c5
      clear c5
      have H' := Aside0.mk H
      clear H
      go_wp2
      repeat (go_quiet (fail); try go_wp2)
      go_roundg k1
      case measure => have := HK1.out; omega
      case rel => exact ⟨(IntKind.u64.wrap (x3_1 + 1)), (by first | rfl | (simp; done) | (simp [*]; done)), H', ⟨by have := HK1.out; omega⟩, by repeat (first | exact Drawn0.refl _ | apply Drawn0.step)⟩
     ·rw [if_neg c5] at H
      have c5b0 : decide (1 < (ji4)) = false := decide_eq_false c5
      clear c5
      by_cases c6 : x3_1 ≤ 52
      ·rw [if_pos c6] at H
       have c6b0 : decide (x3_1 ≤ 52) = true := decide_eq_true c6
       clear c6
       obtain ⟨ji7, hji7⟩ : ∃ j_ : Int, (IntKind.u64.wrap (52 - x3_1)) = j_ := ⟨_, rfl⟩
       replace H : (if 0 ≤ (ji7) then (some (IntKind.u64.wrap ((IntKind.u64.wrap ((IntKind.u64.wrap (1023 + x3_1)) * 4503599627370496)) + (IntKind.u64.wrap ((IntKind.u64.wrap (a0 * (shl .u64 1 (ji7)))) - 4503599627370496))))) else (none)) = some r := by first | (rw [hji7] at H; exact H) | (simp only [hji7] at H ⊢; exact H)
       by_cases c8 : 0 ≤ (ji7)
       ·rw [if_pos c8] at H
        have c8b0 := eq_true c8
        have c8b1 : decide (0 ≤ (ji7)) = true := decide_eq_true c8
        clear c8
        obtain ⟨ji9, hji9⟩ : ∃ j_ : Int, (shl .u64 1 (ji7)) = j_ := ⟨_, rfl⟩
        replace H : (some (IntKind.u64.wrap ((IntKind.u64.wrap ((IntKind.u64.wrap (1023 + x3_1)) * 4503599627370496)) + (IntKind.u64.wrap ((IntKind.u64.wrap (a0 * (ji9))) - 4503599627370496))))) = some r := by first | (rw [hji9] at H; exact H) | (simp only [hji9] at H ⊢; exact H)
        have hji9_ : (IntKind.u64.wrap (1 * 2 ^ min (ji7).toNat 64)) = ji9 := hji9
        have hji9z : (ji7) ≤ 64 → (IntKind.u64.wrap (1 * 2 ^ (ji7).toNat)) = ji9 := shl_small hji9
        have hji9u : (IntKind.u64.wrap (2 ^ min (ji7).toNat 64)) = ji9 := by have h_ := hji9_; rw [Int.one_mul] at h_; exact h_
        have hji9v : (ji7) ≤ 64 → (IntKind.u64.wrap (2 ^ (ji7).toNat)) = ji9 := fun hle_ => by have h_ := hji9z hle_; rw [Int.one_mul] at h_; exact h_
        obtain rfl := Option.some.inj H
        go_wp2
        repeat (go_quiet (fail); try go_wp2)
        go_ret
        exact ⟨by first | rfl | (simp; done) | (simp only [← hji4, ← hji7, ← hji9] <;> (first | rfl | simp)) | (simp [*]; done), by repeat (first | exact Drawn0.refl _ | apply Drawn0.step)⟩
       ·rw [if_neg c8] at H
        exact absurd H (by simp)
      ·rw [if_neg c6] at H
       have c6b0 : decide (x3_1 ≤ 52) = false := decide_eq_false c6
       clear c6
       obtain ⟨ji10, hji10⟩ : ∃ j_ : Int, (IntKind.u64.wrap (x3_1 - 52)) = j_ := ⟨_, rfl⟩
       replace H : (if 0 ≤ (ji10) then (if (shl .u64 1 (ji10)) = 0 then (none) else (if (Int.tmod a0 (shl .u64 1 (ji10))) > (IntKind.u64.wrap (Int.tdiv (shl .u64 1 (ji10)) 2)) then (some (IntKind.u64.wrap ((IntKind.u64.wrap ((IntKind.u64.wrap (1023 + x3_1)) * 4503599627370496)) + (IntKind.u64.wrap ((IntKind.u64.wrap ((IntKind.u64.wrap (Int.tdiv a0 (shl .u64 1 (ji10)))) + 1)) - 4503599627370496))))) else (if (Int.tmod a0 (shl .u64 1 (ji10))) = (IntKind.u64.wrap (Int.tdiv (shl .u64 1 (ji10)) 2)) then (if (Int.tmod (IntKind.u64.wrap (Int.tdiv a0 (shl .u64 1 (ji10)))) 2) = 1 then (some (IntKind.u64.wrap ((IntKind.u64.wrap ((IntKind.u64.wrap (1023 + x3_1)) * 4503599627370496)) + (IntKind.u64.wrap ((IntKind.u64.wrap ((IntKind.u64.wrap (Int.tdiv a0 (shl .u64 1 (ji10)))) + 1)) - 4503599627370496))))) else (some (IntKind.u64.wrap ((IntKind.u64.wrap ((IntKind.u64.wrap (1023 + x3_1)) * 4503599627370496)) + (IntKind.u64.wrap ((IntKind.u64.wrap (Int.tdiv a0 (shl .u64 1 (ji10)))) - 4503599627370496)))))) else (some (IntKind.u64.wrap ((IntKind.u64.wrap ((IntKind.u64.wrap (1023 + x3_1)) * 4503599627370496)) + (IntKind.u64.wrap ((IntKind.u64.wrap (Int.tdiv a0 (shl .u64 1 (ji10)))) - 4503599627370496)))))))) else (none)) = some r := by first | (rw [hji10] at H; exact H) | (simp only [hji10] at H ⊢; exact H)
       by_cases c11 : 0 ≤ (ji10)
       ·rw [if_pos c11] at H
        have c11b0 := eq_true c11
        have c11b1 : decide (0 ≤ (ji10)) = true := decide_eq_true c11
        clear c11
        obtain ⟨ji12, hji12⟩ : ∃ j_ : Int, (shl .u64 1 (ji10)) = j_ := ⟨_, rfl⟩
        replace H : (if (ji12) = 0 then (none) else (if (Int.tmod a0 (ji12)) > (IntKind.u64.wrap (Int.tdiv (ji12) 2)) then (some (IntKind.u64.wrap ((IntKind.u64.wrap ((IntKind.u64.wrap (1023 + x3_1)) * 4503599627370496)) + (IntKind.u64.wrap ((IntKind.u64.wrap ((IntKind.u64.wrap (Int.tdiv a0 (ji12))) + 1)) - 4503599627370496))))) else (if (Int.tmod a0 (ji12)) = (IntKind.u64.wrap (Int.tdiv (ji12) 2)) then (if (Int.tmod (IntKind.u64.wrap (Int.tdiv a0 (ji12))) 2) = 1 then (some (IntKind.u64.wrap ((IntKind.u64.wrap ((IntKind.u64.wrap (1023 + x3_1)) * 4503599627370496)) + (IntKind.u64.wrap ((IntKind.u64.wrap ((IntKind.u64.wrap (Int.tdiv a0 (ji12))) + 1)) - 4503599627370496))))) else (some (IntKind.u64.wrap ((IntKind.u64.wrap ((IntKind.u64.wrap (1023 + x3_1)) * 4503599627370496)) + (IntKind.u64.wrap ((IntKind.u64.wrap (Int.tdiv a0 (ji12))) - 4503599627370496)))))) else (some (IntKind.u64.wrap ((IntKind.u64.wrap ((IntKind.u64.wrap (1023 + x3_1)) * 4503599627370496)) + (IntKind.u64.wrap ((IntKind.u64.wrap (Int.tdiv a0 (ji12))) - 4503599627370496)))))))) = some r := by first | (rw [hji12] at H; exact H) | (simp only [hji12] at H ⊢; exact H)
        have hji12_ : (IntKind.u64.wrap (1 * 2 ^ min (ji10).toNat 64)) = ji12 := hji12
        have hji12z : (ji10) ≤ 64 → (IntKind.u64.wrap (1 * 2 ^ (ji10).toNat)) = ji12 := shl_small hji12
        have hji12u : (IntKind.u64.wrap (2 ^ min (ji10).toNat 64)) = ji12 := by have h_ := hji12_; rw [Int.one_mul] at h_; exact h_
        have hji12v : (ji10) ≤ 64 → (IntKind.u64.wrap (2 ^ (ji10).toNat)) = ji12 := fun hle_ => by have h_ := hji12z hle_; rw [Int.one_mul] at h_; exact h_
        by_cases c13 : (ji12) = 0
        ·rw [if_pos c13] at H
         exact absurd H (by simp)
        ·rw [if_neg c13] at H
         have c13b0 : ((ji12) == 0) = false := beq_eq_false_iff_ne.mpr c13
         have c13b1 : ((ji12) != 0) = true := bne_iff_ne.mpr c13
         by_cases c14 : (Int.tmod a0 (ji12)) > (IntKind.u64.wrap (Int.tdiv (ji12) 2))
         ·rw [if_pos c14] at H
          have c14b0 : decide ((IntKind.u64.wrap (Int.tdiv (ji12) 2)) < (Int.tmod a0 (ji12))) = true := decide_eq_true c14
          clear c14
          obtain rfl := Option.some.inj H
          go_wp2
          repeat (go_quiet (fail); try go_wp2)
          go_ret
          exact ⟨by first | rfl | (simp; done) | (simp only [← hji4, ← hji10, ← hji12] <;> (first | rfl | simp)) | (simp [*]; done), by repeat (first | exact Drawn0.refl _ | apply Drawn0.step)⟩
         ·rw [if_neg c14] at H
          have c14b0 : decide ((IntKind.u64.wrap (Int.tdiv (ji12) 2)) < (Int.tmod a0 (ji12))) = false := decide_eq_false c14
          clear c14
          by_cases c15 : (Int.tmod a0 (ji12)) = (IntKind.u64.wrap (Int.tdiv (ji12) 2))
          ·rw [if_pos c15] at H
           have c15b0 : ((Int.tmod a0 (ji12)) == (IntKind.u64.wrap (Int.tdiv (ji12) 2))) = true := beq_iff_eq.mpr c15
           have c15b1 : ((Int.tmod a0 (ji12)) != (IntKind.u64.wrap (Int.tdiv (ji12) 2))) = false := bne_eq_false_iff_eq.mpr c15
           clear c15
           by_cases c16 : (Int.tmod (IntKind.u64.wrap (Int.tdiv a0 (ji12))) 2) = 1
           ·rw [if_pos c16] at H
            have c16b0 : ((Int.tmod (IntKind.u64.wrap (Int.tdiv a0 (ji12))) 2) == 1) = true := beq_iff_eq.mpr c16
            have c16b1 : ((Int.tmod (IntKind.u64.wrap (Int.tdiv a0 (ji12))) 2) != 1) = false := bne_eq_false_iff_eq.mpr c16
            clear c16
            obtain rfl := Option.some.inj H
            go_wp2
            repeat (go_quiet (fail); try go_wp2)
            go_ret
            exact ⟨by first | rfl | (simp; done) | (simp only [← hji4, ← hji10, ← hji12] <;> (first | rfl | simp)) | (simp [*]; done), by repeat (first | exact Drawn0.refl _ | apply Drawn0.step)⟩
           ·rw [if_neg c16] at H
            have c16b0 : ((Int.tmod (IntKind.u64.wrap (Int.tdiv a0 (ji12))) 2) == 1) = false := beq_eq_false_iff_ne.mpr c16
            have c16b1 : ((Int.tmod (IntKind.u64.wrap (Int.tdiv a0 (ji12))) 2) != 1) = true := bne_iff_ne.mpr c16
            obtain rfl := Option.some.inj H
            go_wp2
            repeat (go_quiet (fail); try go_wp2)
            go_ret
            exact ⟨by first | rfl | (simp; done) | (simp only [← hji4, ← hji10, ← hji12] <;> (first | rfl | simp)) | (simp [*]; done), by repeat (first | exact Drawn0.refl _ | apply Drawn0.step)⟩
          ·rw [if_neg c15] at H
           have c15b0 : ((Int.tmod a0 (ji12)) == (IntKind.u64.wrap (Int.tdiv (ji12) 2))) = false := beq_eq_false_iff_ne.mpr c15
           have c15b1 : ((Int.tmod a0 (ji12)) != (IntKind.u64.wrap (Int.tdiv (ji12) 2))) = true := bne_iff_ne.mpr c15
           obtain rfl := Option.some.inj H
           go_wp2
           repeat (go_quiet (fail); try go_wp2)
           go_ret
           exact ⟨by first | rfl | (simp; done) | (simp only [← hji4, ← hji10, ← hji12] <;> (first | rfl | simp)) | (simp [*]; done), by repeat (first | exact Drawn0.refl _ | apply Drawn0.step)⟩
       ·rw [if_neg c11] at H
        exact absurd H (by simp)
    ·rw [if_neg c3] at H
     exact absurd H (by simp)
end Go.Proofs.Ytfbjjbbhnmoolaa.P
namespace Go.Proofs.Ytfbjjbbhnmoolaa.P
open Go.RowKit Go.Proofs.YtfbjjbbhnmoolaaW.PrintWords Go.Proofs.YtfbjjbbhnmoolaaW.PrintLast Go.Proofs.YtfbjjbbhnmoolaaW.PrintMore
attribute [local go_sem] max2_int min2_int max_two min_two max_three min_three max_four min_four
def tidepolelaw10_FhistFloats.j0 : Nat → Int → Int → Bool → Option (Bool)
 | 0, _, _, _ => none
 | k + 1, x0, x1, x38 => if x38 = true then (some false) else ((fhist_Float.f x0).bind fun t106 => ((tidepoleref10_Float.f k x0).bind fun t107 => (if t106 = t107 then ((fhist_Float.f (mn x0 x1)).bind fun t108 => ((fhist_Float.f (mx x0 x1)).bind fun t109 => (if t108 ≤ t109 then ((tidepolelaw10_awake.f).bind fun t110 => (some t110)) else (some false)))) else (some false))))
def tidepolelaw10_FhistFloats.f (k : Nat) (a0 : Int) (a1 : Int) (a2 : Int) : Option (Bool) := (fhist_Whole.f a2).bind fun bt101 => ((tidepoleref10_Whole.f k a2).bind fun bt103 => (if (bt101.2 != (bt103.2 == 1)) = true then (tidepolelaw10_FhistFloats.j0 k a0 a1 true) else (if bt101.1 = bt103.1 then (if bt101.2 = true then ((fhist_Float.f bt101.1).bind fun t105 => (tidepolelaw10_FhistFloats.j0 k a0 a1 (t105 != a2))) else (tidepolelaw10_FhistFloats.j0 k a0 a1 false)) else (tidepolelaw10_FhistFloats.j0 k a0 a1 true))))
set_option maxHeartbeats 8000000 in
set_option maxRecDepth 100000 in
theorem tidepolelaw10_FhistFloats.calls (k : Nat) (a0 : Int) (a1 : Int) (a2 : Int) (r : Bool) (w : World) (h : tidepolelaw10_FhistFloats.f k a0 a1 a2 = some r) :
  Calls Try.prog 6 #[.int .u64 a0, .int .u64 a1, .int .u64 a2] w fun e w' => e = .returned (.bool r) ∧ Below w.heap.size w w' := by
 have HB := Aside0.mk (Below.refl w.heap.size w)
 have H : ((fhist_Whole.f a2).bind fun bt101 => ((tidepoleref10_Whole.f k a2).bind fun bt103 => (if (bt101.2 != (bt103.2 == 1)) = true then (tidepolelaw10_FhistFloats.j0 k a0 a1 true) else (if bt101.1 = bt103.1 then (if bt101.2 = true then ((fhist_Float.f bt101.1).bind fun t105 => (tidepolelaw10_FhistFloats.j0 k a0 a1 (t105 != a2))) else (tidepolelaw10_FhistFloats.j0 k a0 a1 false)) else (tidepolelaw10_FhistFloats.j0 k a0 a1 true))))) = some r := h
 clear h
 replace H := Option.bind_eq_some_iff.mp H
 obtain ⟨⟨t101, t102⟩, A40, H⟩ := H
 replace H : ((tidepoleref10_Whole.f k a2).bind fun bt103 => (if (t102 != (bt103.2 == 1)) = true then (tidepolelaw10_FhistFloats.j0 k a0 a1 true) else (if t101 = bt103.1 then (if t102 = true then ((fhist_Float.f t101).bind fun t105 => (tidepolelaw10_FhistFloats.j0 k a0 a1 (t105 != a2))) else (tidepolelaw10_FhistFloats.j0 k a0 a1 false)) else (tidepolelaw10_FhistFloats.j0 k a0 a1 true)))) = some r := H
 have A4 := Aside0.mk A40
 clear A40
 replace H := Option.bind_eq_some_iff.mp H
 obtain ⟨⟨t103, t104⟩, A50, H⟩ := H
 replace H : (if (t102 != (t104 == 1)) = true then (tidepolelaw10_FhistFloats.j0 k a0 a1 true) else (if t101 = t103 then (if t102 = true then ((fhist_Float.f t101).bind fun t105 => (tidepolelaw10_FhistFloats.j0 k a0 a1 (t105 != a2))) else (tidepolelaw10_FhistFloats.j0 k a0 a1 false)) else (tidepolelaw10_FhistFloats.j0 k a0 a1 true))) = some r := H
 have A5 := Aside0.mk A50
 clear A50
 have HC6 := Aside0.mk H
 clear H
 go_enter Try.func6, Try.ntmps6
 go_upto_region 3 with (first | ((with_reducible refine gate_callee (f := 29) rfl ?_); refine goesL_ (some 13) rfl rfl Try.func29 (by kernel_rfl) rfl #[.int .u64 a2] rfl (by (try simp only [List.map_toArray, List.map_cons, List.map_nil]); first | done | rfl | (simp only [List.length_drop, List.length_take]; rfl)) ?_; (with_reducible refine (fhist_Whole.calls a2 t101 t102 _ A4.out).mono ?_); rintro e w7 ⟨rfl, hb⟩; refine ⟨_, rfl, ?_⟩; have n0_ := Aside0.mk (below_step (by repeat (first | (with_reducible first | exact HB.out | apply below_alloc | apply pw_below_drewN | apply below_drew1) | exact HB.out)) hb); clear HB; have HB := n0_; clear n0_; (try clear hb); (try clear hb2); (try clear hk); (try clear hi); clear A4) | ((with_reducible refine gate_callee (f := 30) rfl ?_); refine goesL_ (some 18) rfl rfl Try.func30 (by kernel_rfl) rfl #[.int .u64 a2] rfl (by (try simp only [List.map_toArray, List.map_cons, List.map_nil]); first | done | rfl | (simp only [List.length_drop, List.length_take]; rfl)) ?_; (with_reducible refine (tidepoleref10_Whole.calls k a2 t103 t104 _ A5.out).mono ?_); rintro e w' ⟨rfl, ⟨nd, rfl⟩⟩; refine ⟨_, rfl, ?_⟩; clear A5))
 (try simp only [Act.put, List.setIfInBounds_toArray, List.set_cons_zero, List.set_cons_succ])
 go_cut [38] (fun v38 wc => ∃ (kq : Nat) (x38_5 : Bool), v38 = .bool x38_5 ∧ Aside0 (tidepolelaw10_FhistFloats.j0 kq a0 a1 x38_5 = some r) ∧ Aside0 (kq ≤ k) ∧ Aside0 (Below w.heap.size w wc))
 case first =>
  have H := HC6.out
  clear HC6
  by_cases c8 : (t102 != (t104 == 1)) = true
  ·rw [if_pos c8] at H
   have c8b0 : (t102 != (t104 == 1)) = true := c8
   (try (have c8b1 : decide (t102 = (t104 == 1)) = false := by simpa using c8))
   (try (have c8b2 : (t102 == (t104 == 1)) = false := by simpa using c8))
   (try (have c8b3 : ¬ (t102 = (t104 == 1)) := by simpa using c8))
   clear c8
   (first | rw [c8b0] | (simp only [i64_w, i32_w]; rw [c8b0]) | skip)
   have H' := Aside0.mk H
   clear H
   go_wp2
   go_meet
   case rel => exact ⟨_, (true), (by first | rfl | (simp; done) | (simp [*]; done)), H', ⟨by first | omega | exact Nat.le_refl _⟩, ⟨by repeat (first | (with_reducible first | exact HB.out | apply below_alloc | apply pw_below_drewN | apply below_drew1) | exact HB.out)⟩⟩
  ·rw [if_neg c8] at H
   have c8b0 : (t102 != (t104 == 1)) = false := by simpa using c8
   (try (have c8b1 : decide (t102 = (t104 == 1)) = true := by simpa using c8))
   (try (have c8b2 : (t102 == (t104 == 1)) = true := by simpa using c8))
   clear c8
   (first | rw [c8b0] | (simp only [i64_w, i32_w]; rw [c8b0]) | skip)
   by_cases c9 : t101 = t103
   ·rw [if_pos c9] at H
    have c9b0 : (t101 == t103) = true := beq_iff_eq.mpr c9
    have c9b1 : (t101 != t103) = false := bne_eq_false_iff_eq.mpr c9
    clear c9
    by_cases c10 : t102 = true
    ·subst c10
     have H1 : ((fhist_Float.f t101).bind fun t105 => (tidepolelaw10_FhistFloats.j0 k a0 a1 (t105 != a2))) = some r := by rw [if_pos rfl] at H; exact H
     clear H
     have H := H1
     clear H1
     replace H := Option.bind_eq_some_iff.mp H
     obtain ⟨t105, A110, H⟩ := H
     replace H : (tidepolelaw10_FhistFloats.j0 k a0 a1 (t105 != a2)) = some r := H
     have A11 := Aside0.mk A110
     clear A110
     have H' := Aside0.mk H
     clear H
     go_wp2_with (first | (go_at_call 31; (with_reducible refine (fhist_Float.calls t101 t105 _ A11.out).mono ?_); rintro e w' ⟨rfl, ⟨nd, rfl⟩⟩; clear A11))
     go_meet
     case rel => exact ⟨_, ((t105 != a2)), (by first | rfl | (simp; done) | (simp [*]; done)), H', ⟨by first | omega | exact Nat.le_refl _⟩, ⟨by repeat (first | (with_reducible first | exact HB.out | apply below_alloc | apply pw_below_drewN | apply below_drew1) | exact HB.out)⟩⟩
    ·replace c10 := Bool.eq_false_iff.mpr c10
     subst c10
     have H1 : (tidepolelaw10_FhistFloats.j0 k a0 a1 false) = some r := by rw [if_neg (show ¬ (false = true) by decide)] at H; exact H
     clear H
     have H := H1
     clear H1
     have H' := Aside0.mk H
     clear H
     go_wp2
     go_meet
     case rel => exact ⟨_, (false), (by first | rfl | (simp; done) | (simp [*]; done)), H', ⟨by first | omega | exact Nat.le_refl _⟩, ⟨by repeat (first | (with_reducible first | exact HB.out | apply below_alloc | apply pw_below_drewN | apply below_drew1) | exact HB.out)⟩⟩
   ·rw [if_neg c9] at H
    have c9b0 : (t101 == t103) = false := beq_eq_false_iff_ne.mpr c9
    have c9b1 : (t101 != t103) = true := bne_iff_ne.mpr c9
    have H' := Aside0.mk H
    clear H
    go_wp2
    go_meet
    case rel => exact ⟨_, (true), (by first | rfl | (simp; done) | (simp [*]; done)), H', ⟨by first | omega | exact Nat.le_refl _⟩, ⟨by repeat (first | (with_reducible first | exact HB.out | apply below_alloc | apply pw_below_drewN | apply below_drew1) | exact HB.out)⟩⟩
 case rest =>
  clear HC6
  try clear c1
  try clear c2
  try clear p2
  try clear c3
  try clear c6
  try clear c8
  try clear c8b0
  try clear c8b1
  try clear c8b2
  try clear c9
  try clear c9b0
  try clear c9b1
  try clear c10
  obtain ⟨kq, x38_5, rfl, HA, HJ5, HB⟩ := hcut
  cases kq with
  | zero => exact absurd HA.out (by simp [tidepolelaw10_FhistFloats.j0])
  | succ kj5 =>
   have H := HA.out
   clear HA
   simp only [tidepolelaw10_FhistFloats.j0] at H
   by_cases c12 : x38_5 = true
   ·subst c12
    have H1 : (some false) = some r := by rw [if_pos rfl] at H; exact H
    clear H
    have H := H1
    clear H1
    obtain rfl := Option.some.inj H
    go_wp2
    go_ret
    exact ⟨by first | rfl | (simp [errW_none, errW_some] <;> rfl) | (simp [*, errW_none, errW_some] <;> rfl), by repeat (first | (with_reducible first | exact HB.out | apply below_alloc | apply pw_below_drewN | apply below_drew1) | exact HB.out)⟩
   ·replace c12 := Bool.eq_false_iff.mpr c12
    subst c12
    have H1 : ((fhist_Float.f a0).bind fun t106 => ((tidepoleref10_Float.f kj5 a0).bind fun t107 => (if t106 = t107 then ((fhist_Float.f (mn a0 a1)).bind fun t108 => ((fhist_Float.f (mx a0 a1)).bind fun t109 => (if t108 ≤ t109 then ((tidepolelaw10_awake.f).bind fun t110 => (some t110)) else (some false)))) else (some false)))) = some r := by rw [if_neg (show ¬ (false = true) by decide)] at H; exact H
    clear H
    have H := H1
    clear H1
    replace H := Option.bind_eq_some_iff.mp H
    obtain ⟨t106, A130, H⟩ := H
    replace H : ((tidepoleref10_Float.f kj5 a0).bind fun t107 => (if t106 = t107 then ((fhist_Float.f (mn a0 a1)).bind fun t108 => ((fhist_Float.f (mx a0 a1)).bind fun t109 => (if t108 ≤ t109 then ((tidepolelaw10_awake.f).bind fun t110 => (some t110)) else (some false)))) else (some false))) = some r := H
    have A13 := Aside0.mk A130
    clear A130
    replace H := Option.bind_eq_some_iff.mp H
    obtain ⟨t107, A140, H⟩ := H
    replace H : (if t106 = t107 then ((fhist_Float.f (mn a0 a1)).bind fun t108 => ((fhist_Float.f (mx a0 a1)).bind fun t109 => (if t108 ≤ t109 then ((tidepolelaw10_awake.f).bind fun t110 => (some t110)) else (some false)))) else (some false)) = some r := H
    have A14 := Aside0.mk A140
    clear A140
    by_cases c15 : t106 = t107
    ·rw [if_pos c15] at H
     have c15b0 : (t106 == t107) = true := beq_iff_eq.mpr c15
     have c15b1 : (t106 != t107) = false := bne_eq_false_iff_eq.mpr c15
     clear c15
     obtain ⟨ji16, hji16⟩ : ∃ j_ : Int, (mn a0 a1) = j_ := ⟨_, rfl⟩
     replace H : ((fhist_Float.f (ji16)).bind fun t108 => ((fhist_Float.f (mx a0 a1)).bind fun t109 => (if t108 ≤ t109 then ((tidepolelaw10_awake.f).bind fun t110 => (some t110)) else (some false)))) = some r := by first | (rw [hji16] at H; exact H) | (simp only [hji16] at H ⊢; exact H)
     (try rw [hji16] at A13)
     (try rw [hji16] at A14)
     have hji16_ : (if a1 < a0 then a1 else a0) = ji16 := hji16
     replace H := Option.bind_eq_some_iff.mp H
     obtain ⟨t108, A170, H⟩ := H
     replace H : ((fhist_Float.f (mx a0 a1)).bind fun t109 => (if t108 ≤ t109 then ((tidepolelaw10_awake.f).bind fun t110 => (some t110)) else (some false))) = some r := H
     have A17 := Aside0.mk A170
     clear A170
     obtain ⟨ji18, hji18⟩ : ∃ j_ : Int, (mx a0 a1) = j_ := ⟨_, rfl⟩
     replace H : ((fhist_Float.f (ji18)).bind fun t109 => (if t108 ≤ t109 then ((tidepolelaw10_awake.f).bind fun t110 => (some t110)) else (some false))) = some r := by first | (rw [hji18] at H; exact H) | (simp only [hji18] at H ⊢; exact H)
     (try rw [hji18] at A13)
     (try rw [hji18] at A14)
     (try rw [hji18] at A17)
     have hji18_ : (if a0 < a1 then a1 else a0) = ji18 := hji18
     replace H := Option.bind_eq_some_iff.mp H
     obtain ⟨t109, A190, H⟩ := H
     replace H : (if t108 ≤ t109 then ((tidepolelaw10_awake.f).bind fun t110 => (some t110)) else (some false)) = some r := H
     have A19 := Aside0.mk A190
     clear A190
     by_cases c20 : t108 ≤ t109
     ·rw [if_pos c20] at H
      have c20b0 : decide (t108 ≤ t109) = true := decide_eq_true c20
      clear c20
      replace H := Option.bind_eq_some_iff.mp H
      obtain ⟨t110, A210, H⟩ := H
      replace H : (some t110) = some r := H
      have A21 := Aside0.mk A210
      clear A210
      obtain rfl := Option.some.inj H
      go_wp2_with (first | ((with_reducible refine gate_callee (f := 31) rfl ?_); refine goesL_ (some 40) rfl rfl Try.func31 (by kernel_rfl) rfl #[.int .u64 a0] rfl (by (try simp only [List.map_toArray, List.map_cons, List.map_nil]); first | done | rfl | (simp only [List.length_drop, List.length_take]; rfl)) ?_; (with_reducible refine (fhist_Float.calls a0 t106 _ A13.out).mono ?_); rintro e w' ⟨rfl, ⟨nd, rfl⟩⟩; refine ⟨_, rfl, ?_⟩; clear A13) | ((with_reducible refine gate_callee (f := 32) rfl ?_); refine goesL_ (some 42) rfl rfl Try.func32 (by kernel_rfl) rfl #[.int .u64 a0] rfl (by (try simp only [List.map_toArray, List.map_cons, List.map_nil]); first | done | rfl | (simp only [List.length_drop, List.length_take]; rfl)) ?_; (with_reducible refine (tidepoleref10_Float.calls kj5 a0 t107 _ A14.out).mono ?_); rintro e w' ⟨rfl, ⟨nd, rfl⟩⟩; refine ⟨_, rfl, ?_⟩; clear A14) | (go_at_call 31; (with_reducible refine (fhist_Float.calls ji16 t108 _ A17.out).mono ?_); rintro e w' ⟨rfl, ⟨nd, rfl⟩⟩; clear A17) | (go_at_call 31; (with_reducible refine (fhist_Float.calls ji18 t109 _ A19.out).mono ?_); rintro e w' ⟨rfl, ⟨nd, rfl⟩⟩; clear A19) | (go_at_call 33; (with_reducible refine (tidepolelaw10_awake.calls  t110 _ A21.out).mono ?_); rintro e w22 ⟨rfl, hb⟩; have n0_ := Aside0.mk (below_step (by repeat (first | (with_reducible first | exact HB.out | apply below_alloc | apply pw_below_drewN | apply below_drew1) | exact HB.out)) hb); clear HB; have HB := n0_; clear n0_; (try clear hb); (try clear hb2); (try clear hk); (try clear hi); clear A21))
      go_ret
      exact ⟨by first | rfl | (simp [errW_none, errW_some] <;> rfl) | (simp only [← hji16, ← hji18]; first | rfl | (simp [errW_none, errW_some] <;> rfl)) | (simp [*, errW_none, errW_some] <;> rfl), by repeat (first | (with_reducible first | exact HB.out | apply below_alloc | apply pw_below_drewN | apply below_drew1) | exact HB.out)⟩
     ·rw [if_neg c20] at H
      have c20b0 : decide (t108 ≤ t109) = false := decide_eq_false c20
      clear c20
      obtain rfl := Option.some.inj H
      go_wp2_with (first | ((with_reducible refine gate_callee (f := 31) rfl ?_); refine goesL_ (some 40) rfl rfl Try.func31 (by kernel_rfl) rfl #[.int .u64 a0] rfl (by (try simp only [List.map_toArray, List.map_cons, List.map_nil]); first | done | rfl | (simp only [List.length_drop, List.length_take]; rfl)) ?_; (with_reducible refine (fhist_Float.calls a0 t106 _ A13.out).mono ?_); rintro e w' ⟨rfl, ⟨nd, rfl⟩⟩; refine ⟨_, rfl, ?_⟩; clear A13) | ((with_reducible refine gate_callee (f := 32) rfl ?_); refine goesL_ (some 42) rfl rfl Try.func32 (by kernel_rfl) rfl #[.int .u64 a0] rfl (by (try simp only [List.map_toArray, List.map_cons, List.map_nil]); first | done | rfl | (simp only [List.length_drop, List.length_take]; rfl)) ?_; (with_reducible refine (tidepoleref10_Float.calls kj5 a0 t107 _ A14.out).mono ?_); rintro e w' ⟨rfl, ⟨nd, rfl⟩⟩; refine ⟨_, rfl, ?_⟩; clear A14) | (go_at_call 31; (with_reducible refine (fhist_Float.calls ji16 t108 _ A17.out).mono ?_); rintro e w' ⟨rfl, ⟨nd, rfl⟩⟩; clear A17) | (go_at_call 31; (with_reducible refine (fhist_Float.calls ji18 t109 _ A19.out).mono ?_); rintro e w' ⟨rfl, ⟨nd, rfl⟩⟩; clear A19))
      go_ret
      exact ⟨by first | rfl | (simp [errW_none, errW_some] <;> rfl) | (simp only [← hji16, ← hji18]; first | rfl | (simp [errW_none, errW_some] <;> rfl)) | (simp [*, errW_none, errW_some] <;> rfl), by repeat (first | (with_reducible first | exact HB.out | apply below_alloc | apply pw_below_drewN | apply below_drew1) | exact HB.out)⟩
    ·rw [if_neg c15] at H
     have c15b0 : (t106 == t107) = false := beq_eq_false_iff_ne.mpr c15
     have c15b1 : (t106 != t107) = true := bne_iff_ne.mpr c15
     obtain rfl := Option.some.inj H
     go_wp2_with (first | ((with_reducible refine gate_callee (f := 31) rfl ?_); refine goesL_ (some 40) rfl rfl Try.func31 (by kernel_rfl) rfl #[.int .u64 a0] rfl (by (try simp only [List.map_toArray, List.map_cons, List.map_nil]); first | done | rfl | (simp only [List.length_drop, List.length_take]; rfl)) ?_; (with_reducible refine (fhist_Float.calls a0 t106 _ A13.out).mono ?_); rintro e w' ⟨rfl, ⟨nd, rfl⟩⟩; refine ⟨_, rfl, ?_⟩; clear A13) | ((with_reducible refine gate_callee (f := 32) rfl ?_); refine goesL_ (some 42) rfl rfl Try.func32 (by kernel_rfl) rfl #[.int .u64 a0] rfl (by (try simp only [List.map_toArray, List.map_cons, List.map_nil]); first | done | rfl | (simp only [List.length_drop, List.length_take]; rfl)) ?_; (with_reducible refine (tidepoleref10_Float.calls kj5 a0 t107 _ A14.out).mono ?_); rintro e w' ⟨rfl, ⟨nd, rfl⟩⟩; refine ⟨_, rfl, ?_⟩; clear A14))
     go_ret
     exact ⟨by first | rfl | (simp [errW_none, errW_some] <;> rfl) | (simp [*, errW_none, errW_some] <;> rfl), by repeat (first | (with_reducible first | exact HB.out | apply below_alloc | apply pw_below_drewN | apply below_drew1) | exact HB.out)⟩
end Go.Proofs.Ytfbjjbbhnmoolaa.P
namespace Go.Proofs.Ytfbjjbbhnmoolaa.P
def headSigns : List Char := List.map Char.ofNat [104, 97, 114, 110, 101, 115, 115, 32, 51, 53, 53, 101, 97, 48, 49, 98, 48, 56, 55, 98, 98, 56, 101, 101, 97, 56, 56, 52, 97, 48, 50, 102, 52, 101, 54, 51, 100, 51, 51, 48, 48, 52, 99, 100, 101, 100, 50, 57, 51, 49, 54, 54, 54, 57, 52, 54, 57, 54, 99, 55, 53, 97, 100, 57, 52, 101, 99, 54, 50, 99, 101, 99, 32, 99, 117, 116, 32, 97, 116, 32, 116, 105, 100, 101, 112, 111, 108, 101, 47, 116, 105, 100, 101, 112, 111, 108, 101, 108, 97, 119, 49, 49, 46, 82, 101, 115, 101, 116, 66, 111, 116, 104, 32, 116, 105, 100, 101, 112, 111, 108, 101, 47, 116, 105, 100, 101, 112, 111, 108, 101, 108, 97, 119, 48, 57, 46, 72, 105, 115, 116, 87, 97, 108, 107, 115, 32, 116, 105, 100, 101, 112, 111, 108, 101, 47, 116, 105, 100, 101, 112, 111, 108, 101, 108, 97, 119, 50, 57, 46, 82, 97, 110, 107, 81, 117, 97, 110, 116, 105, 108, 101, 115, 32, 116, 105, 100, 101, 112, 111, 108, 101, 47, 116, 105, 100, 101, 112, 111, 108, 101, 108, 97, 119, 49, 48, 46, 70, 104, 105, 115, 116, 70, 108, 111, 97, 116, 115, 32, 116, 105, 100, 101, 112, 111, 108, 101, 47, 116, 105, 100, 101, 112, 111, 108, 101, 108, 97, 119, 49, 48, 46, 70, 104, 105, 115, 116, 66, 97, 99, 107, 32, 116, 105, 100, 101, 112, 111, 108, 101, 47, 116, 105, 100, 101, 112, 111, 108, 101, 108, 97, 119, 49, 48, 46, 70, 104, 105, 115, 116, 70, 114, 111, 109]
theorem head_is : Try.prog.initOrder = String.ofList headSigns := by kernel_rfl
theorem head_signs : Try.prog.initOrder.toList = headSigns := by rw [head_is]; exact String.toList_ofList
theorem head_first : (behindMainWord (wordsSigns headSigns)).head? = some "cut".toList := by kernel_rfl
theorem head_words : ∃ r, behindMainWord (wordsSigns headSigns) = "cut".toList :: r := by have h := head_first; cases h2 : behindMainWord (wordsSigns headSigns) with | nil => rw [h2] at h; cases h | cons c r => rw [h2] at h; injection h with h; exact ⟨r, by rw [h]⟩
theorem strip_cut (r : List (List Char)) : stripLifts liftWords ("cut".toList :: r) = ([], "cut".toList :: r) := by kernel_rfl
theorem head_lifts : Try.prog.headLifts = [] := by obtain ⟨r, hr⟩ := head_words; unfold Program.headLifts; rw [head_signs, hr, strip_cut]; kernel_rfl
theorem head_doorFits : Try.prog.doorFits [] = true := by kernel_rfl
theorem head_laysLater : Try.prog.laysLater = false := by kernel_rfl
theorem head_bearsReflect : Try.prog.bearsReflect = false := by kernel_rfl
theorem mayEnter_of {P : Program} {L : List Char} {r : List (List Char)} (h1 : P.initOrder.toList = L) (h2 : behindMainWord (wordsSigns L) = "cut".toList :: r) (h3 : P.doorFits [] = true) (h4 : P.laysLater = false) (h5 : P.bearsReflect = false) : P.mayEnter = true := by unfold Program.mayEnter; rw [h1, h2]; simp only [strip_cut, h3, h4, h5]; kernel_rfl
theorem head_mayEnter : Try.prog.mayEnter = true := by obtain ⟨r, hr⟩ := head_words; exact mayEnter_of head_signs hr head_doorFits head_laysLater head_bearsReflect
theorem head_liftsFinal : Try.prog.liftsFinal = false := by obtain ⟨r, hr⟩ := head_words; unfold Program.liftsFinal; rw [head_signs, head_lifts, hr]; kernel_rfl
theorem make_of {P : Program} {L : List Char} {r : List (List Char)} (h1 : P.initOrder.toList = L) (h2 : behindMainWord (wordsSigns L) = "cut".toList :: r) : P.make = some .cut := by unfold Program.make; rw [h1, h2]; kernel_rfl
theorem head_make : Try.prog.make = some .cut := by obtain ⟨r, hr⟩ := head_words; exact make_of head_signs hr
theorem head_laidOut : laidOutB Try.prog = true := by kernel_rfl
theorem head_mapsRowed : mapsRowed Try.prog = true := by kernel_rfl
theorem head_stops : (Try.prog.stops == []) = true := by kernel_rfl
theorem head_stopKnobs : (Try.prog.stopKnobs == []) = true := by kernel_rfl
theorem head_plainKeys : Try.prog.plainKeys = true := by kernel_rfl
theorem head_stopsHeard : Try.prog.stopsHeard = true := by kernel_rfl
end Go.Proofs.Ytfbjjbbhnmoolaa.P
