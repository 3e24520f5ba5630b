/- FhistFrom: the part that this text bears of the proof that the statement answers true for every input. No condition. -/
import Derived.Test.YtfbjjbbhnmoolaaQFhistFrom3
import Derived.ChangeKeysEq
set_option linter.unusedVariables false
set_option linter.unusedSimpArgs false
namespace Go.Proofs.Ytfbjjbbhnmoolaa.P
open Go.RowKit Go.Shelf Go.Proofs.YtfbjjbbhnmoolaaW.PrintWords Go.Proofs.YtfbjjbbhnmoolaaW.PrintLast Go.Proofs.YtfbjjbbhnmoolaaW.PrintMore
theorem wrapU_inj {x y : Int} (hx : i64 x) (hy : i64 y) (h : IntKind.u64.wrap x = IntKind.u64.wrap y) : x = y := by
  simp only [IntKind.wrap_u64] at h
  obtain ⟨h1, h2⟩ := hx
  obtain ⟨h3, h4⟩ := hy
  omega
theorem run_eqItems_one {P : Program} (d : Nat) (e : TypeId) (hu : P.underlying e = some (.int .u64)) (hc : P.cellsOf e = 1) (xs ys : List Int) (W : World) : ∀ (is : List Nat), (∀ i ∈ is, i < xs.length ∧ i < ys.length) →
    (Op.eqItems (d + 1) e 1 (xs.map (Value.int .u64)).toArray (ys.map (Value.int .u64)).toArray is).run P W = .ok (is.all fun i => xs.getD i 0 == ys.getD i 0) W
  | [], _ => by simp [Op.eqItems]
  | i :: is, h => by
    have hi := h i (List.mem_cons_self ..)
    have ih := run_eqItems_one d e hu hc xs ys W is (fun j hj => h j (List.mem_cons_of_mem _ hj))
    have hp : ∀ (zs : List Int), i < zs.length → (part e (zs.map (Value.int .u64)).toArray (i * 1)).run P W = .ok (.int .u64 (zs.getD i 0)) W := fun zs hz => by
      rw [Nat.mul_one]
      have ha : (isAgg e).run P W = .ok false W := by simp [isAgg, run_underlying hu]
      simp [part, ha, hz, List.getD]
    simp only [Op.eqItems, Sem.run_bind, hp xs hi.1, hp ys hi.2, Result.andThen_ok, run_equalIn_int W d e .u64 .u64 _ _ hu, List.all_cons]
    cases hq : (xs.getD i 0 == ys.getD i 0) with
    | true => simp [ih]
    | false => simp
set_option maxRecDepth 100000 in
theorem eq5_run (a b : Fh) (ia : i64 a.f0) (ib : i64 b.f0) (W : World) : (Op.equalIn 10000 172 (.agg #[.int .u64 (IntKind.u64.wrap a.f0), .int .u64 a.f1, .int .u64 a.f2, .int .u64 a.f3, .int .u64 a.f4]) (.agg #[.int .u64 (IntKind.u64.wrap b.f0), .int .u64 b.f1, .int .u64 b.f2, .int .u64 b.f3, .int .u64 b.f4])).run Try.prog W = .ok (decide (sameNumsF a b)) W := by
  have hie : (Try.prog.info? 22).isSome = true := by kernel_rfl
  obtain ⟨i0, hi⟩ := Option.isSome_iff_exists.1 hie
  have hc : Try.prog.cellsOf 22 = 1 := by kernel_rfl
  rw [run_equalIn_array W 9999 _ _ Try.underlying172 hi, hc]
  have := run_eqItems_one (P := Try.prog) 9998 22 Try.underlying22 hc [IntKind.u64.wrap a.f0, a.f1, a.f2, a.f3, a.f4] [IntKind.u64.wrap b.f0, b.f1, b.f2, b.f3, b.f4] W (List.range 5) (by intro i hi; rw [List.mem_range] at hi; exact ⟨hi, hi⟩)
  refine this.trans ?_
  congr 1
  rw [Bool.eq_iff_iff, decide_eq_true_eq]
  rw [show List.range 5 = [0, 1, 2, 3, 4] from rfl]
  simp only [List.all_cons, List.all_nil, Bool.and_true, Bool.and_eq_true, beq_iff_eq, List.getD_cons_zero, List.getD_cons_succ]
  unfold sameNumsF
  constructor
  · rintro ⟨h0, h1, h2, h3, h4⟩; exact ⟨wrapU_inj ia ib h0, h1, h2, h3, h4⟩
  · rintro ⟨h0, h1, h2, h3, h4⟩; exact ⟨by rw [h0], h1, h2, h3, h4⟩
theorem numbersF_c (h : Fh) (w : World) (v : Value) (hv : GI w v h) : Calls Try.prog 117 #[v] w fun e w' => e = .returned (.agg #[.int .u64 (IntKind.u64.wrap h.f0), .int .u64 h.f1, .int .u64 h.f2, .int .u64 h.f3, .int .u64 h.f4]) ∧ Below w.heap.size w w' := by
  have hud := Try.underlying31
  have hut := Try.underlying172
  obtain ⟨A5, c5, A6, c6, A7, c7, A8, c8, e, -⟩ := hv.open_
  subst e
  have X := Aside0.mk ((Blk.new w #[.int .i64 h.f0, .int .u64 h.f1, .int .u64 h.f2, .int .u64 h.f3, .int .u64 h.f4, .slice A5 h.f5.length c5, .slice A6 h.f6.length c6, .slice A7 h.f7.length c7, .slice A8 h.f8.length c8] 31).alloc (.cells #[.int .u64 0, .int .u64 0, .int .u64 0, .int .u64 0, .int .u64 0] 172))
  have hx := fun i => X.out.cell i
  clear hv
  go_enter Try.func117, Try.ntmps117
  go_wp2
  refine bodyPost_ret (results_cell_row rfl _ _ (w.heap.size + 1) 172 #[.int .u64 (IntKind.u64.wrap h.f0), .int .u64 h.f1, .int .u64 h.f2, .int .u64 h.f3, .int .u64 h.f4] (0, 0) _ rfl (Blk.at1 (w := w) (.cells #[.int .i64 h.f0, .int .u64 h.f1, .int .u64 h.f2, .int .u64 h.f3, .int .u64 h.f4, .slice A5 h.f5.length c5, .slice A6 h.f6.length c6, .slice A7 h.f7.length c7, .slice A8 h.f8.length c8] 31) #[.int .u64 (IntKind.u64.wrap h.f0), .int .u64 h.f1, .int .u64 h.f2, .int .u64 h.f3, .int .u64 h.f4] 172) Try.underlying172 rfl (by kernel_rfl)) rfl ?_
  exact ⟨rfl, below_alloc (below_alloc (Below.refl _ _) _) _⟩
theorem equalPu_c (a b : List Pu) (hm : a.length < 17592186044416) (w : World) (u v : Value) (hu : SI kPu w u a) (hv : SI kPu w v b) : Calls Try.prog 118 #[u, v] w fun e w' => e = .returned (.bool (decide (a = b))) ∧ Below w.heap.size w w' := by
  obtain ⟨A, c, rfl, hc, hr⟩ := hu
  obtain ⟨B, d, rfl, hd, hs⟩ := hv
  exact (pairs_Equal_uint64.calls (a.length + 1) A c a B d b _ w hr hc hs hd (equalPu_eq a b hm _ (by omega))).mono fun e w1 h => ⟨h.1, h.2.below⟩
set_option maxHeartbeats 32000000 in
set_option maxRecDepth 100000 in
theorem fequal_c (a b : Fh) (hwa : wfF a) (hwb : wfF b) (w : World) (u v : Value) (hu : GI w u a) (hv : GI w v b) : Calls Try.prog 90 #[u, v] w fun e w' =>
    e = .returned (.bool (equalF a b)) ∧ Below w.heap.size w w' := by
  have hud := Try.underlying31
  have hut := Try.underlying172
  have ia := hwa.1
  have ib := hwb.1
  have oa := fopen_c a hwa
  have ob := fopen_c b hwb
  have na := numbersF_c a
  have nb := numbersF_c b
  have ra := openF_row hwa
  have rb := openF_row hwb
  have wp := withoutU_c (openF a).1 (by have := ra.1.len; omega)
  have wn := withoutU_c (openF a).2.1 (by have := ra.2.len; omega)
  have wq := withoutU_c (openF b).1 (by have := rb.1.len; omega)
  have wm := withoutU_c (openF b).2.1 (by have := rb.2.len; omega)
  have ep := equalPu_c (some0U (openF a).1) (some0U (openF b).1) (by have := ra.1.len; have := List.length_filter_le (fun x : Pu => !(x.f1 == 0)) (openF a).1; unfold some0U; omega)
  have en := equalPu_c (some0U (openF a).2.1) (some0U (openF b).2.1) (by have := ra.2.len; have := List.length_filter_le (fun x : Pu => !(x.f1 == 0)) (openF a).2.1; unfold some0U; omega)
  clear hwa hwb ra rb
  obtain ⟨r, hr⟩ : ∃ r, r = equalF a b := ⟨_, rfl⟩
  rw [← hr]
  unfold equalF checkF at hr
  generalize decide (some0U (openF a).1 = some0U (openF b).1) = b1 at *
  generalize decide (some0U (openF a).2.1 = some0U (openF b).2.1) = b2 at *
  generalize some0U (openF a).1 = sp at *
  generalize some0U (openF a).2.1 = sn at *
  generalize some0U (openF b).1 = sq at *
  generalize some0U (openF b).2.1 = sm at *
  generalize openF a = o1 at *
  generalize openF b = o2 at *
  obtain ⟨p, n, ea⟩ := o1
  obtain ⟨q, m, eb⟩ := o2
  simp only at oa ob wp wn wq wm hr
  have HR := Aside0.mk hr
  have OA := Aside0.mk oa
  have OB := Aside0.mk ob
  have NA := Aside0.mk na
  have NB := Aside0.mk nb
  have WP := Aside0.mk wp
  have WN := Aside0.mk wn
  have WQ := Aside0.mk wq
  have WM := Aside0.mk wm
  have EP := Aside0.mk ep
  have EN := Aside0.mk en
  clear hr oa ob na nb wp wn wq wm ep en
  obtain ⟨A5a, c5a, A6a, c6a, A7a, c7a, A8a, c8a, e, -⟩ := hu.open_
  subst e
  obtain ⟨A5b, c5b, A6b, c6b, A7b, c7b, A8b, c8b, e, -⟩ := hv.open_
  subst e
  have B := Aside0.mk (below_alloc (below_alloc (Below.refl w.heap.size w) (.cells #[.int .i64 a.f0, .int .u64 a.f1, .int .u64 a.f2, .int .u64 a.f3, .int .u64 a.f4, .slice A5a a.f5.length c5a, .slice A6a a.f6.length c6a, .slice A7a a.f7.length c7a, .slice A8a a.f8.length c8a] 31)) (.cells #[.int .i64 b.f0, .int .u64 b.f1, .int .u64 b.f2, .int .u64 b.f3, .int .u64 b.f4, .slice A5b b.f5.length c5b, .slice A6b b.f6.length c6b, .slice A7b b.f7.length c7b, .slice A8b b.f8.length c8b] 31))
  have X := Aside0.mk ((Blk.new w #[.int .i64 a.f0, .int .u64 a.f1, .int .u64 a.f2, .int .u64 a.f3, .int .u64 a.f4, .slice A5a a.f5.length c5a, .slice A6a a.f6.length c6a, .slice A7a a.f7.length c7a, .slice A8a a.f8.length c8a] 31).alloc (.cells #[.int .i64 b.f0, .int .u64 b.f1, .int .u64 b.f2, .int .u64 b.f3, .int .u64 b.f4, .slice A5b b.f5.length c5b, .slice A6b b.f6.length c6b, .slice A7b b.f7.length c7b, .slice A8b b.f8.length c8b] 31))
  have Y := Aside0.mk (Blk.at1 (w := w) (.cells #[.int .i64 a.f0, .int .u64 a.f1, .int .u64 a.f2, .int .u64 a.f3, .int .u64 a.f4, .slice A5a a.f5.length c5a, .slice A6a a.f6.length c6a, .slice A7a a.f7.length c7a, .slice A8a a.f8.length c8a] 31) #[.int .i64 b.f0, .int .u64 b.f1, .int .u64 b.f2, .int .u64 b.f3, .int .u64 b.f4, .slice A5b b.f5.length c5b, .slice A6b b.f6.length c6b, .slice A7b b.f7.length c7b, .slice A8b b.f8.length c8b] 31)
  have hx := fun i => X.out.cell i
  have hy := fun i => Y.out.cell i
  have HA := Aside0.mk (hu.below B.out)
  have HC := Aside0.mk (hv.below B.out)
  clear hu hv
  by_cases c1 : ea = 0
  rotate_left
  · have hr : r = false := by rw [HR.out, decide_eq_false c1]; simp
    subst hr
    have d1 : (ea != 0) = true := bne_iff_ne.2 c1
    clear c1
    go_enter Try.func90, Try.ntmps90
    go_wp2_with (first | (go_at_call 101; (with_reducible refine (OA.out _ _ HA.out).mono ?_); rintro e W1 ⟨v0, v1, rfl, h0, h1, hb⟩; replace B := Aside0.mk (below_then B.out B.out.size hb); replace HA := Aside0.mk (HA.out.below hb); replace HC := Aside0.mk (HC.out.below hb); replace X := Aside0.mk (X.out.below hb); replace hx := fun i => X.out.cell i; replace Y := Aside0.mk (Y.out.below hb); replace hy := fun i => Y.out.cell i; have P := Aside0.mk h0; have N := Aside0.mk h1; clear h0 h1 hb) | (go_at_call 101; (with_reducible refine (OB.out _ _ HC.out).mono ?_); rintro e W2 ⟨v2, v3, rfl, h0, h1, hb⟩; replace B := Aside0.mk (below_then B.out B.out.size hb); replace HA := Aside0.mk (HA.out.below hb); replace HC := Aside0.mk (HC.out.below hb); replace P := Aside0.mk (P.out.below hb); replace N := Aside0.mk (N.out.below hb); replace X := Aside0.mk (X.out.below hb); replace hx := fun i => X.out.cell i; replace Y := Aside0.mk (Y.out.below hb); replace hy := fun i => Y.out.cell i; have Q := Aside0.mk h0; have M := Aside0.mk h1; clear h0 h1 hb))
    replace HA := Aside0.mk (HA.out.below (below_drew (Below.refl _ _)))
    replace HC := Aside0.mk (HC.out.below (below_drew (Below.refl _ _)))
    replace P := Aside0.mk (P.out.below (below_drew (Below.refl _ _)))
    replace N := Aside0.mk (N.out.below (below_drew (Below.refl _ _)))
    replace Q := Aside0.mk (Q.out.below (below_drew (Below.refl _ _)))
    replace M := Aside0.mk (M.out.below (below_drew (Below.refl _ _)))
    replace X := Aside0.mk (X.out.below (below_drew (Below.refl _ _)))
    replace Y := Aside0.mk (Y.out.below (below_drew (Below.refl _ _)))
    replace B := Aside0.mk (below_drew B.out)
    go_region
    all_goals go_wp2
    all_goals go_ret
    all_goals exact ⟨rfl, B.out⟩
  subst c1
  by_cases c2 : eb = 0
  rotate_left
  · have hr : r = false := by rw [HR.out, decide_eq_false c2]; simp
    subst hr
    have d1 : (eb != 0) = true := bne_iff_ne.2 c2
    clear c2
    go_enter Try.func90, Try.ntmps90
    go_wp2_with (first | (go_at_call 101; (with_reducible refine (OA.out _ _ HA.out).mono ?_); rintro e W1 ⟨v0, v1, rfl, h0, h1, hb⟩; replace B := Aside0.mk (below_then B.out B.out.size hb); replace HA := Aside0.mk (HA.out.below hb); replace HC := Aside0.mk (HC.out.below hb); replace X := Aside0.mk (X.out.below hb); replace hx := fun i => X.out.cell i; replace Y := Aside0.mk (Y.out.below hb); replace hy := fun i => Y.out.cell i; have P := Aside0.mk h0; have N := Aside0.mk h1; clear h0 h1 hb) | (go_at_call 101; (with_reducible refine (OB.out _ _ HC.out).mono ?_); rintro e W2 ⟨v2, v3, rfl, h0, h1, hb⟩; replace B := Aside0.mk (below_then B.out B.out.size hb); replace HA := Aside0.mk (HA.out.below hb); replace HC := Aside0.mk (HC.out.below hb); replace P := Aside0.mk (P.out.below hb); replace N := Aside0.mk (N.out.below hb); replace X := Aside0.mk (X.out.below hb); replace hx := fun i => X.out.cell i; replace Y := Aside0.mk (Y.out.below hb); replace hy := fun i => Y.out.cell i; have Q := Aside0.mk h0; have M := Aside0.mk h1; clear h0 h1 hb))
    replace HA := Aside0.mk (HA.out.below (below_drew (Below.refl _ _)))
    replace HC := Aside0.mk (HC.out.below (below_drew (Below.refl _ _)))
    replace P := Aside0.mk (P.out.below (below_drew (Below.refl _ _)))
    replace N := Aside0.mk (N.out.below (below_drew (Below.refl _ _)))
    replace Q := Aside0.mk (Q.out.below (below_drew (Below.refl _ _)))
    replace M := Aside0.mk (M.out.below (below_drew (Below.refl _ _)))
    replace X := Aside0.mk (X.out.below (below_drew (Below.refl _ _)))
    replace Y := Aside0.mk (Y.out.below (below_drew (Below.refl _ _)))
    replace B := Aside0.mk (below_drew B.out)
    go_region
    all_goals go_wp2
    all_goals go_ret
    all_goals exact ⟨rfl, B.out⟩
  subst c2
  have hq := eq5_run a b ia ib
  by_cases hs : sameNumsF a b
  rotate_left
  · have hr : r = false := by rw [HR.out, decide_eq_false hs]; simp
    subst hr
    rw [decide_eq_false hs] at hq
    clear hs
    go_enter Try.func90, Try.ntmps90
    go_wp2_with (first | (go_at_call 101; (with_reducible refine (OA.out _ _ HA.out).mono ?_); rintro e W1 ⟨v0, v1, rfl, h0, h1, hb⟩; replace B := Aside0.mk (below_then B.out B.out.size hb); replace HA := Aside0.mk (HA.out.below hb); replace HC := Aside0.mk (HC.out.below hb); replace X := Aside0.mk (X.out.below hb); replace hx := fun i => X.out.cell i; replace Y := Aside0.mk (Y.out.below hb); replace hy := fun i => Y.out.cell i; have P := Aside0.mk h0; have N := Aside0.mk h1; clear h0 h1 hb) | (go_at_call 101; (with_reducible refine (OB.out _ _ HC.out).mono ?_); rintro e W2 ⟨v2, v3, rfl, h0, h1, hb⟩; replace B := Aside0.mk (below_then B.out B.out.size hb); replace HA := Aside0.mk (HA.out.below hb); replace HC := Aside0.mk (HC.out.below hb); replace P := Aside0.mk (P.out.below hb); replace N := Aside0.mk (N.out.below hb); replace X := Aside0.mk (X.out.below hb); replace hx := fun i => X.out.cell i; replace Y := Aside0.mk (Y.out.below hb); replace hy := fun i => Y.out.cell i; have Q := Aside0.mk h0; have M := Aside0.mk h1; clear h0 h1 hb))
    replace HA := Aside0.mk (HA.out.below (below_drew (Below.refl _ _)))
    replace HC := Aside0.mk (HC.out.below (below_drew (Below.refl _ _)))
    replace P := Aside0.mk (P.out.below (below_drew (Below.refl _ _)))
    replace N := Aside0.mk (N.out.below (below_drew (Below.refl _ _)))
    replace Q := Aside0.mk (Q.out.below (below_drew (Below.refl _ _)))
    replace M := Aside0.mk (M.out.below (below_drew (Below.refl _ _)))
    replace X := Aside0.mk (X.out.below (below_drew (Below.refl _ _)))
    replace Y := Aside0.mk (Y.out.below (below_drew (Below.refl _ _)))
    replace B := Aside0.mk (below_drew B.out)
    go_region_held3 (fun W => (∀ i, W.cell? ⟨w.heap.size, i, none⟩ = (#[.int .i64 a.f0, .int .u64 a.f1, .int .u64 a.f2, .int .u64 a.f3, .int .u64 a.f4, .slice A5a a.f5.length c5a, .slice A6a a.f6.length c6a, .slice A7a a.f7.length c7a, .slice A8a a.f8.length c8a] : Array Value)[i]?) ∧ (∀ i, W.cell? ⟨w.heap.size + 1, i, none⟩ = (#[.int .i64 b.f0, .int .u64 b.f1, .int .u64 b.f2, .int .u64 b.f3, .int .u64 b.f4, .slice A5b b.f5.length c5b, .slice A6b b.f6.length c6b, .slice A7b b.f7.length c7b, .slice A8b b.f8.length c8b] : Array Value)[i]?)) (exact ⟨fun i => X.out.cell i, fun i => Y.out.cell i⟩) (first | (go_at_call 117; (with_reducible refine (NA.out _ _ HA.out).mono ?_); rintro e W3 ⟨rfl, hb⟩; replace B := Aside0.mk (below_then B.out B.out.size hb); replace HA := Aside0.mk (HA.out.below hb); replace HC := Aside0.mk (HC.out.below hb); replace P := Aside0.mk (P.out.below hb); replace N := Aside0.mk (N.out.below hb); replace Q := Aside0.mk (Q.out.below hb); replace M := Aside0.mk (M.out.below hb); replace X := Aside0.mk (X.out.below hb); replace hx := fun i => X.out.cell i; replace Y := Aside0.mk (Y.out.below hb); replace hy := fun i => Y.out.cell i; clear  hb) | (go_at_call 117; (with_reducible refine (NB.out _ _ HC.out).mono ?_); rintro e W4 ⟨rfl, hb⟩; replace B := Aside0.mk (below_then B.out B.out.size hb); replace HA := Aside0.mk (HA.out.below hb); replace HC := Aside0.mk (HC.out.below hb); replace P := Aside0.mk (P.out.below hb); replace N := Aside0.mk (N.out.below hb); replace Q := Aside0.mk (Q.out.below hb); replace M := Aside0.mk (M.out.below hb); replace X := Aside0.mk (X.out.below hb); replace hx := fun i => X.out.cell i; replace Y := Aside0.mk (Y.out.below hb); replace hy := fun i => Y.out.cell i; clear  hb))
    all_goals go_wp2
    all_goals go_ret
    all_goals exact ⟨rfl, B.out⟩
  have HS := Aside0.mk hs
  rw [decide_eq_true hs] at hq
  clear hs
  have hr : r = (b1 && b2) := by rw [HR.out, decide_eq_true HS.out]; simp
  cases b1 with
  | false =>
    rw [Bool.false_and] at hr
    subst hr
    go_enter Try.func90, Try.ntmps90
    go_wp2_with (first | (go_at_call 101; (with_reducible refine (OA.out _ _ HA.out).mono ?_); rintro e W1 ⟨v0, v1, rfl, h0, h1, hb⟩; replace B := Aside0.mk (below_then B.out B.out.size hb); replace HA := Aside0.mk (HA.out.below hb); replace HC := Aside0.mk (HC.out.below hb); replace X := Aside0.mk (X.out.below hb); replace hx := fun i => X.out.cell i; replace Y := Aside0.mk (Y.out.below hb); replace hy := fun i => Y.out.cell i; have P := Aside0.mk h0; have N := Aside0.mk h1; clear h0 h1 hb) | (go_at_call 101; (with_reducible refine (OB.out _ _ HC.out).mono ?_); rintro e W2 ⟨v2, v3, rfl, h0, h1, hb⟩; replace B := Aside0.mk (below_then B.out B.out.size hb); replace HA := Aside0.mk (HA.out.below hb); replace HC := Aside0.mk (HC.out.below hb); replace P := Aside0.mk (P.out.below hb); replace N := Aside0.mk (N.out.below hb); replace X := Aside0.mk (X.out.below hb); replace hx := fun i => X.out.cell i; replace Y := Aside0.mk (Y.out.below hb); replace hy := fun i => Y.out.cell i; have Q := Aside0.mk h0; have M := Aside0.mk h1; clear h0 h1 hb))
    replace HA := Aside0.mk (HA.out.below (below_drew (Below.refl _ _)))
    replace HC := Aside0.mk (HC.out.below (below_drew (Below.refl _ _)))
    replace P := Aside0.mk (P.out.below (below_drew (Below.refl _ _)))
    replace N := Aside0.mk (N.out.below (below_drew (Below.refl _ _)))
    replace Q := Aside0.mk (Q.out.below (below_drew (Below.refl _ _)))
    replace M := Aside0.mk (M.out.below (below_drew (Below.refl _ _)))
    replace X := Aside0.mk (X.out.below (below_drew (Below.refl _ _)))
    replace Y := Aside0.mk (Y.out.below (below_drew (Below.refl _ _)))
    replace B := Aside0.mk (below_drew B.out)
    go_region_held3 (fun W => (∀ i, W.cell? ⟨w.heap.size, i, none⟩ = (#[.int .i64 a.f0, .int .u64 a.f1, .int .u64 a.f2, .int .u64 a.f3, .int .u64 a.f4, .slice A5a a.f5.length c5a, .slice A6a a.f6.length c6a, .slice A7a a.f7.length c7a, .slice A8a a.f8.length c8a] : Array Value)[i]?) ∧ (∀ i, W.cell? ⟨w.heap.size + 1, i, none⟩ = (#[.int .i64 b.f0, .int .u64 b.f1, .int .u64 b.f2, .int .u64 b.f3, .int .u64 b.f4, .slice A5b b.f5.length c5b, .slice A6b b.f6.length c6b, .slice A7b b.f7.length c7b, .slice A8b b.f8.length c8b] : Array Value)[i]?)) (exact ⟨fun i => X.out.cell i, fun i => Y.out.cell i⟩) (first | (go_at_call 117; (with_reducible refine (NA.out _ _ HA.out).mono ?_); rintro e W3 ⟨rfl, hb⟩; replace B := Aside0.mk (below_then B.out B.out.size hb); replace HA := Aside0.mk (HA.out.below hb); replace HC := Aside0.mk (HC.out.below hb); replace P := Aside0.mk (P.out.below hb); replace N := Aside0.mk (N.out.below hb); replace Q := Aside0.mk (Q.out.below hb); replace M := Aside0.mk (M.out.below hb); replace X := Aside0.mk (X.out.below hb); replace hx := fun i => X.out.cell i; replace Y := Aside0.mk (Y.out.below hb); replace hy := fun i => Y.out.cell i; clear  hb) | (go_at_call 117; (with_reducible refine (NB.out _ _ HC.out).mono ?_); rintro e W4 ⟨rfl, hb⟩; replace B := Aside0.mk (below_then B.out B.out.size hb); replace HA := Aside0.mk (HA.out.below hb); replace HC := Aside0.mk (HC.out.below hb); replace P := Aside0.mk (P.out.below hb); replace N := Aside0.mk (N.out.below hb); replace Q := Aside0.mk (Q.out.below hb); replace M := Aside0.mk (M.out.below hb); replace X := Aside0.mk (X.out.below hb); replace hx := fun i => X.out.cell i; replace Y := Aside0.mk (Y.out.below hb); replace hy := fun i => Y.out.cell i; clear  hb))
    all_goals go_wp2_with (first | (go_at_call 114; (with_reducible refine (WP.out _ _ P.out).mono ?_); rintro e W5 ⟨x0, rfl, hs, hb⟩; replace B := Aside0.mk (below_then B.out B.out.size hb); replace HA := Aside0.mk (HA.out.below hb); replace HC := Aside0.mk (HC.out.below hb); replace P := Aside0.mk (P.out.below hb); replace N := Aside0.mk (N.out.below hb); replace Q := Aside0.mk (Q.out.below hb); replace M := Aside0.mk (M.out.below hb); replace X := Aside0.mk (X.out.below hb); replace hx := fun i => X.out.cell i; replace Y := Aside0.mk (Y.out.below hb); replace hy := fun i => Y.out.cell i; have S0 := Aside0.mk hs; clear hs hb) | (go_at_call 114; (with_reducible refine (WQ.out _ _ Q.out).mono ?_); rintro e W6 ⟨x1, rfl, hs, hb⟩; replace B := Aside0.mk (below_then B.out B.out.size hb); replace HA := Aside0.mk (HA.out.below hb); replace HC := Aside0.mk (HC.out.below hb); replace P := Aside0.mk (P.out.below hb); replace N := Aside0.mk (N.out.below hb); replace Q := Aside0.mk (Q.out.below hb); replace M := Aside0.mk (M.out.below hb); replace S0 := Aside0.mk (S0.out.below hb); replace X := Aside0.mk (X.out.below hb); replace hx := fun i => X.out.cell i; replace Y := Aside0.mk (Y.out.below hb); replace hy := fun i => Y.out.cell i; have S1 := Aside0.mk hs; clear hs hb) | (go_at_call 118; (with_reducible refine (EP.out _ _ _ S0.out S1.out).mono ?_); rintro e W7 ⟨rfl, hb⟩; replace B := Aside0.mk (below_then B.out B.out.size hb); replace HA := Aside0.mk (HA.out.below hb); replace HC := Aside0.mk (HC.out.below hb); replace P := Aside0.mk (P.out.below hb); replace N := Aside0.mk (N.out.below hb); replace Q := Aside0.mk (Q.out.below hb); replace M := Aside0.mk (M.out.below hb); replace S0 := Aside0.mk (S0.out.below hb); replace S1 := Aside0.mk (S1.out.below hb); replace X := Aside0.mk (X.out.below hb); replace hx := fun i => X.out.cell i; replace Y := Aside0.mk (Y.out.below hb); replace hy := fun i => Y.out.cell i; clear  hb))
    all_goals go_ret
    all_goals exact ⟨rfl, B.out⟩
  | true =>
    rw [Bool.true_and] at hr
    subst hr
    go_enter Try.func90, Try.ntmps90
    go_wp2_with (first | (go_at_call 101; (with_reducible refine (OA.out _ _ HA.out).mono ?_); rintro e W1 ⟨v0, v1, rfl, h0, h1, hb⟩; replace B := Aside0.mk (below_then B.out B.out.size hb); replace HA := Aside0.mk (HA.out.below hb); replace HC := Aside0.mk (HC.out.below hb); replace X := Aside0.mk (X.out.below hb); replace hx := fun i => X.out.cell i; replace Y := Aside0.mk (Y.out.below hb); replace hy := fun i => Y.out.cell i; have P := Aside0.mk h0; have N := Aside0.mk h1; clear h0 h1 hb) | (go_at_call 101; (with_reducible refine (OB.out _ _ HC.out).mono ?_); rintro e W2 ⟨v2, v3, rfl, h0, h1, hb⟩; replace B := Aside0.mk (below_then B.out B.out.size hb); replace HA := Aside0.mk (HA.out.below hb); replace HC := Aside0.mk (HC.out.below hb); replace P := Aside0.mk (P.out.below hb); replace N := Aside0.mk (N.out.below hb); replace X := Aside0.mk (X.out.below hb); replace hx := fun i => X.out.cell i; replace Y := Aside0.mk (Y.out.below hb); replace hy := fun i => Y.out.cell i; have Q := Aside0.mk h0; have M := Aside0.mk h1; clear h0 h1 hb))
    replace HA := Aside0.mk (HA.out.below (below_drew (Below.refl _ _)))
    replace HC := Aside0.mk (HC.out.below (below_drew (Below.refl _ _)))
    replace P := Aside0.mk (P.out.below (below_drew (Below.refl _ _)))
    replace N := Aside0.mk (N.out.below (below_drew (Below.refl _ _)))
    replace Q := Aside0.mk (Q.out.below (below_drew (Below.refl _ _)))
    replace M := Aside0.mk (M.out.below (below_drew (Below.refl _ _)))
    replace X := Aside0.mk (X.out.below (below_drew (Below.refl _ _)))
    replace Y := Aside0.mk (Y.out.below (below_drew (Below.refl _ _)))
    replace B := Aside0.mk (below_drew B.out)
    go_region_held3 (fun W => (∀ i, W.cell? ⟨w.heap.size, i, none⟩ = (#[.int .i64 a.f0, .int .u64 a.f1, .int .u64 a.f2, .int .u64 a.f3, .int .u64 a.f4, .slice A5a a.f5.length c5a, .slice A6a a.f6.length c6a, .slice A7a a.f7.length c7a, .slice A8a a.f8.length c8a] : Array Value)[i]?) ∧ (∀ i, W.cell? ⟨w.heap.size + 1, i, none⟩ = (#[.int .i64 b.f0, .int .u64 b.f1, .int .u64 b.f2, .int .u64 b.f3, .int .u64 b.f4, .slice A5b b.f5.length c5b, .slice A6b b.f6.length c6b, .slice A7b b.f7.length c7b, .slice A8b b.f8.length c8b] : Array Value)[i]?)) (exact ⟨fun i => X.out.cell i, fun i => Y.out.cell i⟩) (first | (go_at_call 117; (with_reducible refine (NA.out _ _ HA.out).mono ?_); rintro e W3 ⟨rfl, hb⟩; replace B := Aside0.mk (below_then B.out B.out.size hb); replace HA := Aside0.mk (HA.out.below hb); replace HC := Aside0.mk (HC.out.below hb); replace P := Aside0.mk (P.out.below hb); replace N := Aside0.mk (N.out.below hb); replace Q := Aside0.mk (Q.out.below hb); replace M := Aside0.mk (M.out.below hb); replace X := Aside0.mk (X.out.below hb); replace hx := fun i => X.out.cell i; replace Y := Aside0.mk (Y.out.below hb); replace hy := fun i => Y.out.cell i; clear  hb) | (go_at_call 117; (with_reducible refine (NB.out _ _ HC.out).mono ?_); rintro e W4 ⟨rfl, hb⟩; replace B := Aside0.mk (below_then B.out B.out.size hb); replace HA := Aside0.mk (HA.out.below hb); replace HC := Aside0.mk (HC.out.below hb); replace P := Aside0.mk (P.out.below hb); replace N := Aside0.mk (N.out.below hb); replace Q := Aside0.mk (Q.out.below hb); replace M := Aside0.mk (M.out.below hb); replace X := Aside0.mk (X.out.below hb); replace hx := fun i => X.out.cell i; replace Y := Aside0.mk (Y.out.below hb); replace hy := fun i => Y.out.cell i; clear  hb))
    all_goals go_wp2_with (first | (go_at_call 114; (with_reducible refine (WP.out _ _ P.out).mono ?_); rintro e W5 ⟨x0, rfl, hs, hb⟩; replace B := Aside0.mk (below_then B.out B.out.size hb); replace HA := Aside0.mk (HA.out.below hb); replace HC := Aside0.mk (HC.out.below hb); replace P := Aside0.mk (P.out.below hb); replace N := Aside0.mk (N.out.below hb); replace Q := Aside0.mk (Q.out.below hb); replace M := Aside0.mk (M.out.below hb); replace X := Aside0.mk (X.out.below hb); replace hx := fun i => X.out.cell i; replace Y := Aside0.mk (Y.out.below hb); replace hy := fun i => Y.out.cell i; have S0 := Aside0.mk hs; clear hs hb) | (go_at_call 114; (with_reducible refine (WQ.out _ _ Q.out).mono ?_); rintro e W6 ⟨x1, rfl, hs, hb⟩; replace B := Aside0.mk (below_then B.out B.out.size hb); replace HA := Aside0.mk (HA.out.below hb); replace HC := Aside0.mk (HC.out.below hb); replace P := Aside0.mk (P.out.below hb); replace N := Aside0.mk (N.out.below hb); replace Q := Aside0.mk (Q.out.below hb); replace M := Aside0.mk (M.out.below hb); replace S0 := Aside0.mk (S0.out.below hb); replace X := Aside0.mk (X.out.below hb); replace hx := fun i => X.out.cell i; replace Y := Aside0.mk (Y.out.below hb); replace hy := fun i => Y.out.cell i; have S1 := Aside0.mk hs; clear hs hb) | (go_at_call 118; (with_reducible refine (EP.out _ _ _ S0.out S1.out).mono ?_); rintro e W7 ⟨rfl, hb⟩; replace B := Aside0.mk (below_then B.out B.out.size hb); replace HA := Aside0.mk (HA.out.below hb); replace HC := Aside0.mk (HC.out.below hb); replace P := Aside0.mk (P.out.below hb); replace N := Aside0.mk (N.out.below hb); replace Q := Aside0.mk (Q.out.below hb); replace M := Aside0.mk (M.out.below hb); replace S0 := Aside0.mk (S0.out.below hb); replace S1 := Aside0.mk (S1.out.below hb); replace X := Aside0.mk (X.out.below hb); replace hx := fun i => X.out.cell i; replace Y := Aside0.mk (Y.out.below hb); replace hy := fun i => Y.out.cell i; clear  hb) | (go_at_call 114; (with_reducible refine (WN.out _ _ N.out).mono ?_); rintro e W8 ⟨x2, rfl, hs, hb⟩; replace B := Aside0.mk (below_then B.out B.out.size hb); replace HA := Aside0.mk (HA.out.below hb); replace HC := Aside0.mk (HC.out.below hb); replace P := Aside0.mk (P.out.below hb); replace N := Aside0.mk (N.out.below hb); replace Q := Aside0.mk (Q.out.below hb); replace M := Aside0.mk (M.out.below hb); replace S0 := Aside0.mk (S0.out.below hb); replace S1 := Aside0.mk (S1.out.below hb); replace X := Aside0.mk (X.out.below hb); replace hx := fun i => X.out.cell i; replace Y := Aside0.mk (Y.out.below hb); replace hy := fun i => Y.out.cell i; have S2 := Aside0.mk hs; clear hs hb) | (go_at_call 114; (with_reducible refine (WM.out _ _ M.out).mono ?_); rintro e W9 ⟨x3, rfl, hs, hb⟩; replace B := Aside0.mk (below_then B.out B.out.size hb); replace HA := Aside0.mk (HA.out.below hb); replace HC := Aside0.mk (HC.out.below hb); replace P := Aside0.mk (P.out.below hb); replace N := Aside0.mk (N.out.below hb); replace Q := Aside0.mk (Q.out.below hb); replace M := Aside0.mk (M.out.below hb); replace S0 := Aside0.mk (S0.out.below hb); replace S1 := Aside0.mk (S1.out.below hb); replace S2 := Aside0.mk (S2.out.below hb); replace X := Aside0.mk (X.out.below hb); replace hx := fun i => X.out.cell i; replace Y := Aside0.mk (Y.out.below hb); replace hy := fun i => Y.out.cell i; have S3 := Aside0.mk hs; clear hs hb) | (go_at_call 118; (with_reducible refine (EN.out _ _ _ S2.out S3.out).mono ?_); rintro e W10 ⟨rfl, hb⟩; replace B := Aside0.mk (below_then B.out B.out.size hb); replace HA := Aside0.mk (HA.out.below hb); replace HC := Aside0.mk (HC.out.below hb); replace P := Aside0.mk (P.out.below hb); replace N := Aside0.mk (N.out.below hb); replace Q := Aside0.mk (Q.out.below hb); replace M := Aside0.mk (M.out.below hb); replace S0 := Aside0.mk (S0.out.below hb); replace S1 := Aside0.mk (S1.out.below hb); replace S2 := Aside0.mk (S2.out.below hb); replace S3 := Aside0.mk (S3.out.below hb); replace X := Aside0.mk (X.out.below hb); replace hx := fun i => X.out.cell i; replace Y := Aside0.mk (Y.out.below hb); replace hy := fun i => Y.out.cell i; clear  hb))
    all_goals go_ret
    all_goals exact ⟨rfl, B.out⟩
end Go.Proofs.Ytfbjjbbhnmoolaa.P
namespace Go.Proofs.Ytfbjjbbhnmoolaa.P
open Go.RowKit Go.Shelf Go.Proofs.YtfbjjbbhnmoolaaW.PrintWords Go.Proofs.YtfbjjbbhnmoolaaW.PrintLast Go.Proofs.YtfbjjbbhnmoolaaW.PrintMore
theorem FI.below {α : Type} {d : Kd α} {base : Nat} {w w' : World} {v : Value} {l : List α} (h : FI d base w v l) (hb : Below w.heap.size w w') : FI d base w' v l := h.step (KA.below hb)
def overEF (h : Fh) (pos neg : List Sp) : Int := if checkF h = 0 then (if spCheck pos = 0 then spCheck neg else spCheck pos) else checkF h
def overF (h : Fh) (pos neg : List Sp) : Fh × Int := if overEF h pos neg ≠ 0 then (emptyF, overEF h pos neg)
  else if (spreadF (openF h).1 pos).2 && (spreadF (openF h).2.1 neg).2 then (⟨h.f0, h.f1, h.f2, h.f3, h.f4, pos, neg, (spreadF (openF h).1 pos).1, (spreadF (openF h).2.1 neg).1⟩, 0) else (emptyF, 23)
set_option maxHeartbeats 16000000 in
set_option maxRecDepth 100000 in
theorem fover_c (h : Fh) (hw : wfF h) (pos neg : List Sp) (hwp : wfSps pos) (hwn : wfSps neg) (w : World) (v vp vn : Value) (hv : GI w v h) (hvp : SI kSp w vp pos) (hvn : SI kSp w vn neg) : Calls Try.prog 89 #[v, vp, vn] w fun e w' =>
    ∃ v', e = .returned (.tuple #[v', .int .i64 (overF h pos neg).2]) ∧ GF w.heap.size w' v' (overF h pos neg).1 ∧ Below w.heap.size w w' := by
  have hud := Try.underlying31
  obtain ⟨A5, c5, A6, c6, A7, c7, A8, c8, e, -⟩ := hv.open_
  subst e
  have hvp' := hvp
  have hvn' := hvn
  obtain ⟨a1, g1, e1, -⟩ := hvp'; subst e1
  obtain ⟨a2, g2, e2, -⟩ := hvn'; subst e2
  have ho := fopen_f h hw
  have kp := spanCheck_c pos hwp
  have kn := spanCheck_c neg hwn
  have hrow := openF_row hw
  have hs1 := fun (hk : spCheck pos = 0) => fspread_c (openF h).1 pos hwp hk hrow.1.len
  have hs2 := fun (hk : spCheck neg = 0) => fspread_c (openF h).2.1 neg hwn hk hrow.2.len
  have hc1 := fun (hk : spCheck pos = 0) => cloneSp_c pos (by have := (spCheck_zero hk).1; omega)
  have hc2 := fun (hk : spCheck neg = 0) => cloneSp_c neg (by have := (spCheck_zero hk).1; omega)
  have SP := Aside0.mk hvp
  have SN := Aside0.mk hvn
  have he : ∀ (e0 : Int), checkF h = e0 → overEF h pos neg = if e0 = 0 then (if spCheck pos = 0 then spCheck neg else spCheck pos) else e0 := fun e0 q => by subst q; rfl
  have B := Aside0.mk (below_alloc (below_alloc (Below.refl w.heap.size w) (.cells #[.int .i64 h.f0, .int .u64 h.f1, .int .u64 h.f2, .int .u64 h.f3, .int .u64 h.f4, .slice A5 h.f5.length c5, .slice A6 h.f6.length c6, .slice A7 h.f7.length c7, .slice A8 h.f8.length c8] 31)) (.cells #[.int .i64 0, .int .u64 0, .int .u64 0, .int .u64 0, .int .u64 0, .slice none 0 0, .slice none 0 0, .slice none 0 0, .slice none 0 0] 31))
  have X := Aside0.mk ((Blk.new w #[.int .i64 h.f0, .int .u64 h.f1, .int .u64 h.f2, .int .u64 h.f3, .int .u64 h.f4, .slice A5 h.f5.length c5, .slice A6 h.f6.length c6, .slice A7 h.f7.length c7, .slice A8 h.f8.length c8] 31).alloc (.cells #[.int .i64 0, .int .u64 0, .int .u64 0, .int .u64 0, .int .u64 0, .slice none 0 0, .slice none 0 0, .slice none 0 0, .slice none 0 0] 31))
  have Y := Aside0.mk (Blk.at1 (w := w) (.cells #[.int .i64 h.f0, .int .u64 h.f1, .int .u64 h.f2, .int .u64 h.f3, .int .u64 h.f4, .slice A5 h.f5.length c5, .slice A6 h.f6.length c6, .slice A7 h.f7.length c7, .slice A8 h.f8.length c8] 31) #[.int .i64 0, .int .u64 0, .int .u64 0, .int .u64 0, .int .u64 0, .slice none 0 0, .slice none 0 0, .slice none 0 0, .slice none 0 0] 31)
  have hx := fun i => X.out.cell i
  have hy := fun i => Y.out.cell i
  have zx := fun i => blk_frozen X.out i
  have zy := fun i => blk_frozen Y.out i
  have HV := Aside0.mk (hv.below B.out)
  clear hv hvp hvn hw hwp hwn hrow
  obtain ⟨⟨rh, re⟩, hr⟩ : ∃ r, r = overF h pos neg := ⟨_, rfl⟩
  rw [← hr]
  unfold overF at hr
  have hce : checkF h = (openF h).2.2 := rfl
  rw [he _ hce] at hr
  clear he hce
  generalize spreadF (openF h).1 pos = ru at *
  generalize spreadF (openF h).2.1 neg = rn at *
  generalize openF h = oo at *
  obtain ⟨p, n, e0⟩ := oo
  obtain ⟨du, up⟩ := ru
  obtain ⟨dn, down⟩ := rn
  simp only at ho hs1 hs2 hr ⊢
  generalize spCheck pos = ep at *
  generalize spCheck neg = en at *
  have HO := Aside0.mk ho
  have KP := Aside0.mk kp
  have KN := Aside0.mk kn
  clear ho kp kn
  by_cases c0 : e0 = 0
  rotate_left
  · rw [if_neg c0, if_pos c0] at hr
    injection hr with r1 r2
    subst r1; subst r2
    have d0 : (re == 0) = false := beq_eq_false_iff_ne.2 c0
    have d1 : (re != 0) = true := bne_iff_ne.2 c0
    clear c0 hs1 hs2 hc1 hc2
    go_enter Try.func89, Try.ntmps89
    go_wp2_with (first | (go_at_call 101; (with_reducible refine (HO.out _ _ HV.out).mono ?_); rintro e W1 ⟨v0, v1, rfl, h0, h1, hb⟩; replace B := Aside0.mk (below_then B.out B.out.size hb); replace X := Aside0.mk (X.out.below hb); replace hx := fun i => X.out.cell i; replace zx := fun i => blk_frozen X.out i; replace Y := Aside0.mk (Y.out.below hb); replace hy := fun i => Y.out.cell i; replace zy := fun i => blk_frozen Y.out i; have P := Aside0.mk (show FI kPu (w.heap.size + 1 + 1) W1 v0 p by simpa using h0); have N := Aside0.mk (show FI kPu (w.heap.size + 1 + 1) W1 v1 n by simpa using h1); clear h0 h1 hb))
    refine bodyPost_ret (results_ct rfl _ _ (w.heap.size + 1) 31 #[.int .i64 0, .int .u64 0, .int .u64 0, .int .u64 0, .int .u64 0, .slice none 0 0, .slice none 0 0, .slice none 0 0, .slice none 0 0] (0, 0) _ rfl (nine (Y.out) _ _ _ _ _ _ _ _ _) Try.underlying31 rfl (by kernel_rfl)) rfl ?_
    exact ⟨_, rfl, GF.empty _ _, nine_below B.out (by omega) _ _ _ _ _ _ _ _ _⟩
  subst c0
  rw [if_pos rfl] at hr
  by_cases c1 : ep = 0
  rotate_left
  · rw [if_neg c1, if_pos c1] at hr
    injection hr with r1 r2
    subst r1; subst r2
    have d0 : (re == 0) = false := beq_eq_false_iff_ne.2 c1
    have d1 : (re != 0) = true := bne_iff_ne.2 c1
    clear c1 hs1 hs2 hc1 hc2
    go_enter Try.func89, Try.ntmps89
    go_wp2_with (first | (go_at_call 101; (with_reducible refine (HO.out _ _ HV.out).mono ?_); rintro e W1 ⟨v0, v1, rfl, h0, h1, hb⟩; replace B := Aside0.mk (below_then B.out B.out.size hb); replace X := Aside0.mk (X.out.below hb); replace hx := fun i => X.out.cell i; replace zx := fun i => blk_frozen X.out i; replace Y := Aside0.mk (Y.out.below hb); replace hy := fun i => Y.out.cell i; replace zy := fun i => blk_frozen Y.out i; have P := Aside0.mk (show FI kPu (w.heap.size + 1 + 1) W1 v0 p by simpa using h0); have N := Aside0.mk (show FI kPu (w.heap.size + 1 + 1) W1 v1 n by simpa using h1); clear h0 h1 hb) | (go_at_call 104; (with_reducible refine (KP.out _ _ (SP.out.below B.out)).mono ?_); rintro e W2 ⟨rfl, hb⟩; replace B := Aside0.mk (below_then B.out B.out.size hb); replace P := Aside0.mk (P.out.below hb); replace N := Aside0.mk (N.out.below hb); replace X := Aside0.mk (X.out.below hb); replace hx := fun i => X.out.cell i; replace zx := fun i => blk_frozen X.out i; replace Y := Aside0.mk (Y.out.below hb); replace hy := fun i => Y.out.cell i; replace zy := fun i => blk_frozen Y.out i; clear  hb))
    refine bodyPost_ret (results_ct rfl _ _ (w.heap.size + 1) 31 #[.int .i64 0, .int .u64 0, .int .u64 0, .int .u64 0, .int .u64 0, .slice none 0 0, .slice none 0 0, .slice none 0 0, .slice none 0 0] (0, 0) _ rfl (nine (Y.out) _ _ _ _ _ _ _ _ _) Try.underlying31 rfl (by kernel_rfl)) rfl ?_
    exact ⟨_, rfl, GF.empty _ _, nine_below B.out (by omega) _ _ _ _ _ _ _ _ _⟩
  subst c1
  rw [if_pos rfl] at hr
  have HS1 := Aside0.mk (hs1 rfl)
  have HC1 := Aside0.mk (hc1 rfl)
  by_cases c2 : en = 0
  rotate_left
  · rw [if_pos c2] at hr
    injection hr with r1 r2
    subst r1; subst r2
    have d1 : (re != 0) = true := bne_iff_ne.2 c2
    clear c2 hs1 hs2 hc1 hc2
    go_enter Try.func89, Try.ntmps89
    go_wp2_with (first | (go_at_call 101; (with_reducible refine (HO.out _ _ HV.out).mono ?_); rintro e W1 ⟨v0, v1, rfl, h0, h1, hb⟩; replace B := Aside0.mk (below_then B.out B.out.size hb); replace X := Aside0.mk (X.out.below hb); replace hx := fun i => X.out.cell i; replace zx := fun i => blk_frozen X.out i; replace Y := Aside0.mk (Y.out.below hb); replace hy := fun i => Y.out.cell i; replace zy := fun i => blk_frozen Y.out i; have P := Aside0.mk (show FI kPu (w.heap.size + 1 + 1) W1 v0 p by simpa using h0); have N := Aside0.mk (show FI kPu (w.heap.size + 1 + 1) W1 v1 n by simpa using h1); clear h0 h1 hb) | (go_at_call 104; (with_reducible refine (KP.out _ _ (SP.out.below B.out)).mono ?_); rintro e W2 ⟨rfl, hb⟩; replace B := Aside0.mk (below_then B.out B.out.size hb); replace P := Aside0.mk (P.out.below hb); replace N := Aside0.mk (N.out.below hb); replace X := Aside0.mk (X.out.below hb); replace hx := fun i => X.out.cell i; replace zx := fun i => blk_frozen X.out i; replace Y := Aside0.mk (Y.out.below hb); replace hy := fun i => Y.out.cell i; replace zy := fun i => blk_frozen Y.out i; clear  hb) | (go_at_call 104; (with_reducible refine (KN.out _ _ (SN.out.below B.out)).mono ?_); rintro e W3 ⟨rfl, hb⟩; replace B := Aside0.mk (below_then B.out B.out.size hb); replace P := Aside0.mk (P.out.below hb); replace N := Aside0.mk (N.out.below hb); replace X := Aside0.mk (X.out.below hb); replace hx := fun i => X.out.cell i; replace zx := fun i => blk_frozen X.out i; replace Y := Aside0.mk (Y.out.below hb); replace hy := fun i => Y.out.cell i; replace zy := fun i => blk_frozen Y.out i; clear  hb))
    refine bodyPost_ret (results_ct rfl _ _ (w.heap.size + 1) 31 #[.int .i64 0, .int .u64 0, .int .u64 0, .int .u64 0, .int .u64 0, .slice none 0 0, .slice none 0 0, .slice none 0 0, .slice none 0 0] (0, 0) _ rfl (nine (Y.out) _ _ _ _ _ _ _ _ _) Try.underlying31 rfl (by kernel_rfl)) rfl ?_
    exact ⟨_, rfl, GF.empty _ _, nine_below B.out (by omega) _ _ _ _ _ _ _ _ _⟩
  subst c2
  have HS2 := Aside0.mk (hs2 rfl)
  have HC2 := Aside0.mk (hc2 rfl)
  rw [if_neg (by simp)] at hr
  clear hs1 hs2 hc1 hc2
  cases up with
  | false =>
    simp only [Bool.false_and, Bool.false_eq_true, if_false] at hr
    injection hr with r1 r2
    subst r1; subst r2
    go_enter Try.func89, Try.ntmps89
    go_wp2_with (first | (go_at_call 101; (with_reducible refine (HO.out _ _ HV.out).mono ?_); rintro e W1 ⟨v0, v1, rfl, h0, h1, hb⟩; replace B := Aside0.mk (below_then B.out B.out.size hb); replace X := Aside0.mk (X.out.below hb); replace hx := fun i => X.out.cell i; replace zx := fun i => blk_frozen X.out i; replace Y := Aside0.mk (Y.out.below hb); replace hy := fun i => Y.out.cell i; replace zy := fun i => blk_frozen Y.out i; have P := Aside0.mk (show FI kPu (w.heap.size + 1 + 1) W1 v0 p by simpa using h0); have N := Aside0.mk (show FI kPu (w.heap.size + 1 + 1) W1 v1 n by simpa using h1); clear h0 h1 hb) | (go_at_call 104; (with_reducible refine (KP.out _ _ (SP.out.below B.out)).mono ?_); rintro e W2 ⟨rfl, hb⟩; replace B := Aside0.mk (below_then B.out B.out.size hb); replace P := Aside0.mk (P.out.below hb); replace N := Aside0.mk (N.out.below hb); replace X := Aside0.mk (X.out.below hb); replace hx := fun i => X.out.cell i; replace zx := fun i => blk_frozen X.out i; replace Y := Aside0.mk (Y.out.below hb); replace hy := fun i => Y.out.cell i; replace zy := fun i => blk_frozen Y.out i; clear  hb) | (go_at_call 104; (with_reducible refine (KN.out _ _ (SN.out.below B.out)).mono ?_); rintro e W3 ⟨rfl, hb⟩; replace B := Aside0.mk (below_then B.out B.out.size hb); replace P := Aside0.mk (P.out.below hb); replace N := Aside0.mk (N.out.below hb); replace X := Aside0.mk (X.out.below hb); replace hx := fun i => X.out.cell i; replace zx := fun i => blk_frozen X.out i; replace Y := Aside0.mk (Y.out.below hb); replace hy := fun i => Y.out.cell i; replace zy := fun i => blk_frozen Y.out i; clear  hb) | (go_at_call 116; (with_reducible refine (HS1.out _ _ _ P.out.now (SP.out.below B.out)).mono ?_); have hsz : w.heap.size + 1 + 1 ≤ W3.heap.size := blk_lt Y.out; rintro e W4 ⟨q0, rfl, hq, hb⟩; replace B := Aside0.mk (below_then B.out B.out.size hb); replace P := Aside0.mk (P.out.below hb); replace N := Aside0.mk (N.out.below hb); replace X := Aside0.mk (X.out.below hb); replace hx := fun i => X.out.cell i; replace zx := fun i => blk_frozen X.out i; replace Y := Aside0.mk (Y.out.below hb); replace hy := fun i => Y.out.cell i; replace zy := fun i => blk_frozen Y.out i; have Q0 := Aside0.mk (show FI (Kd.int .u64) (w.heap.size + 1 + 1) W4 q0 du from hq.lower hsz); have hq' := Q0.out.slice; obtain ⟨B0, d0, eq0⟩ := hq'; subst eq0; clear hq hb) | (go_at_call 116; replace B := Aside0.mk (B.out.set1 (g := w.heap.size) (i := 7) (u := .slice B0 du.length d0) (Nat.le_refl _)); replace X := Aside0.mk (show Blk (W4.setCell ⟨w.heap.size, 7, none⟩ (.slice B0 du.length d0)) w.heap.size #[.int .i64 h.f0, .int .u64 h.f1, .int .u64 h.f2, .int .u64 h.f3, .int .u64 h.f4, .slice A5 h.f5.length c5, .slice A6 h.f6.length c6, .slice B0 du.length d0, .slice A8 h.f8.length c8] 31 from blk_put X.out 7 (.slice B0 du.length d0) rfl); replace Y := Aside0.mk (show Blk (W4.setCell ⟨w.heap.size, 7, none⟩ (.slice B0 du.length d0)) (w.heap.size + 1) #[.int .i64 0, .int .u64 0, .int .u64 0, .int .u64 0, .int .u64 0, .slice none 0 0, .slice none 0 0, .slice none 0 0, .slice none 0 0] 31 from blk_far Y.out (by show w.heap.size + 1 ≠ w.heap.size; omega) (.slice B0 du.length d0)); replace P := Aside0.mk (P.out.step (KA.set (i := 7) _ (by omega : w.heap.size < w.heap.size + 1 + 1) (.slice B0 du.length d0))); replace N := Aside0.mk (N.out.step (KA.set (i := 7) _ (by omega : w.heap.size < w.heap.size + 1 + 1) (.slice B0 du.length d0))); replace Q0 := Aside0.mk (Q0.out.step (KA.set (i := 7) _ (by omega : w.heap.size < w.heap.size + 1 + 1) (.slice B0 du.length d0))); (with_reducible refine (HS2.out _ _ _ N.out.now (SN.out.below B.out)).mono ?_); have hsz := blk_lt Y.out; rintro e W5 ⟨q1, rfl, hq, hb⟩; replace B := Aside0.mk (below_then B.out B.out.size hb); replace P := Aside0.mk (P.out.below hb); replace N := Aside0.mk (N.out.below hb); replace Q0 := Aside0.mk (Q0.out.below hb); replace X := Aside0.mk (X.out.below hb); replace hx := fun i => X.out.cell i; replace zx := fun i => blk_frozen X.out i; replace Y := Aside0.mk (Y.out.below hb); replace hy := fun i => Y.out.cell i; replace zy := fun i => blk_frozen Y.out i; have Q1 := Aside0.mk (show FI (Kd.int .u64) (w.heap.size + 1 + 1) W5 q1 dn from hq.lower (by simp [World.setCell] at hsz ⊢; omega)); have hq' := Q1.out.slice; obtain ⟨B1, d1, eq1⟩ := hq'; subst eq1; clear hq hb))
    refine bodyPost_ret (results_ct rfl _ _ (w.heap.size + 1) 31 #[.int .i64 0, .int .u64 0, .int .u64 0, .int .u64 0, .int .u64 0, .slice none 0 0, .slice none 0 0, .slice none 0 0, .slice none 0 0] (0, 0) _ rfl (nine (blk_far (p := ⟨w.heap.size, 8, none⟩) (Y.out) (by show w.heap.size + 1 ≠ w.heap.size; omega) _) _ _ _ _ _ _ _ _ _) Try.underlying31 rfl (by kernel_rfl)) rfl ?_
    exact ⟨_, rfl, GF.empty _ _, nine_below (B.out.set1 (Nat.le_refl _)) (by omega) _ _ _ _ _ _ _ _ _⟩
  | true =>
    cases down with
    | false =>
      simp only [Bool.and_false, Bool.false_eq_true, if_false] at hr
      injection hr with r1 r2
      subst r1; subst r2
      go_enter Try.func89, Try.ntmps89
      go_wp2_with (first | (go_at_call 101; (with_reducible refine (HO.out _ _ HV.out).mono ?_); rintro e W1 ⟨v0, v1, rfl, h0, h1, hb⟩; replace B := Aside0.mk (below_then B.out B.out.size hb); replace X := Aside0.mk (X.out.below hb); replace hx := fun i => X.out.cell i; replace zx := fun i => blk_frozen X.out i; replace Y := Aside0.mk (Y.out.below hb); replace hy := fun i => Y.out.cell i; replace zy := fun i => blk_frozen Y.out i; have P := Aside0.mk (show FI kPu (w.heap.size + 1 + 1) W1 v0 p by simpa using h0); have N := Aside0.mk (show FI kPu (w.heap.size + 1 + 1) W1 v1 n by simpa using h1); clear h0 h1 hb) | (go_at_call 104; (with_reducible refine (KP.out _ _ (SP.out.below B.out)).mono ?_); rintro e W2 ⟨rfl, hb⟩; replace B := Aside0.mk (below_then B.out B.out.size hb); replace P := Aside0.mk (P.out.below hb); replace N := Aside0.mk (N.out.below hb); replace X := Aside0.mk (X.out.below hb); replace hx := fun i => X.out.cell i; replace zx := fun i => blk_frozen X.out i; replace Y := Aside0.mk (Y.out.below hb); replace hy := fun i => Y.out.cell i; replace zy := fun i => blk_frozen Y.out i; clear  hb) | (go_at_call 104; (with_reducible refine (KN.out _ _ (SN.out.below B.out)).mono ?_); rintro e W3 ⟨rfl, hb⟩; replace B := Aside0.mk (below_then B.out B.out.size hb); replace P := Aside0.mk (P.out.below hb); replace N := Aside0.mk (N.out.below hb); replace X := Aside0.mk (X.out.below hb); replace hx := fun i => X.out.cell i; replace zx := fun i => blk_frozen X.out i; replace Y := Aside0.mk (Y.out.below hb); replace hy := fun i => Y.out.cell i; replace zy := fun i => blk_frozen Y.out i; clear  hb) | (go_at_call 116; (with_reducible refine (HS1.out _ _ _ P.out.now (SP.out.below B.out)).mono ?_); have hsz : w.heap.size + 1 + 1 ≤ W3.heap.size := blk_lt Y.out; rintro e W4 ⟨q0, rfl, hq, hb⟩; replace B := Aside0.mk (below_then B.out B.out.size hb); replace P := Aside0.mk (P.out.below hb); replace N := Aside0.mk (N.out.below hb); replace X := Aside0.mk (X.out.below hb); replace hx := fun i => X.out.cell i; replace zx := fun i => blk_frozen X.out i; replace Y := Aside0.mk (Y.out.below hb); replace hy := fun i => Y.out.cell i; replace zy := fun i => blk_frozen Y.out i; have Q0 := Aside0.mk (show FI (Kd.int .u64) (w.heap.size + 1 + 1) W4 q0 du from hq.lower hsz); have hq' := Q0.out.slice; obtain ⟨B0, d0, eq0⟩ := hq'; subst eq0; clear hq hb) | (go_at_call 116; replace B := Aside0.mk (B.out.set1 (g := w.heap.size) (i := 7) (u := .slice B0 du.length d0) (Nat.le_refl _)); replace X := Aside0.mk (show Blk (W4.setCell ⟨w.heap.size, 7, none⟩ (.slice B0 du.length d0)) w.heap.size #[.int .i64 h.f0, .int .u64 h.f1, .int .u64 h.f2, .int .u64 h.f3, .int .u64 h.f4, .slice A5 h.f5.length c5, .slice A6 h.f6.length c6, .slice B0 du.length d0, .slice A8 h.f8.length c8] 31 from blk_put X.out 7 (.slice B0 du.length d0) rfl); replace Y := Aside0.mk (show Blk (W4.setCell ⟨w.heap.size, 7, none⟩ (.slice B0 du.length d0)) (w.heap.size + 1) #[.int .i64 0, .int .u64 0, .int .u64 0, .int .u64 0, .int .u64 0, .slice none 0 0, .slice none 0 0, .slice none 0 0, .slice none 0 0] 31 from blk_far Y.out (by show w.heap.size + 1 ≠ w.heap.size; omega) (.slice B0 du.length d0)); replace P := Aside0.mk (P.out.step (KA.set (i := 7) _ (by omega : w.heap.size < w.heap.size + 1 + 1) (.slice B0 du.length d0))); replace N := Aside0.mk (N.out.step (KA.set (i := 7) _ (by omega : w.heap.size < w.heap.size + 1 + 1) (.slice B0 du.length d0))); replace Q0 := Aside0.mk (Q0.out.step (KA.set (i := 7) _ (by omega : w.heap.size < w.heap.size + 1 + 1) (.slice B0 du.length d0))); (with_reducible refine (HS2.out _ _ _ N.out.now (SN.out.below B.out)).mono ?_); have hsz := blk_lt Y.out; rintro e W5 ⟨q1, rfl, hq, hb⟩; replace B := Aside0.mk (below_then B.out B.out.size hb); replace P := Aside0.mk (P.out.below hb); replace N := Aside0.mk (N.out.below hb); replace Q0 := Aside0.mk (Q0.out.below hb); replace X := Aside0.mk (X.out.below hb); replace hx := fun i => X.out.cell i; replace zx := fun i => blk_frozen X.out i; replace Y := Aside0.mk (Y.out.below hb); replace hy := fun i => Y.out.cell i; replace zy := fun i => blk_frozen Y.out i; have Q1 := Aside0.mk (show FI (Kd.int .u64) (w.heap.size + 1 + 1) W5 q1 dn from hq.lower (by simp [World.setCell] at hsz ⊢; omega)); have hq' := Q1.out.slice; obtain ⟨B1, d1, eq1⟩ := hq'; subst eq1; clear hq hb))
      refine bodyPost_ret (results_ct rfl _ _ (w.heap.size + 1) 31 #[.int .i64 0, .int .u64 0, .int .u64 0, .int .u64 0, .int .u64 0, .slice none 0 0, .slice none 0 0, .slice none 0 0, .slice none 0 0] (0, 0) _ rfl (nine (blk_far (p := ⟨w.heap.size, 8, none⟩) (Y.out) (by show w.heap.size + 1 ≠ w.heap.size; omega) _) _ _ _ _ _ _ _ _ _) Try.underlying31 rfl (by kernel_rfl)) rfl ?_
      exact ⟨_, rfl, GF.empty _ _, nine_below (B.out.set1 (Nat.le_refl _)) (by omega) _ _ _ _ _ _ _ _ _⟩
    | true =>
      simp only [Bool.and_true, if_true] at hr
      injection hr with r1 r2
      subst r1; subst r2
      go_enter Try.func89, Try.ntmps89
      go_wp2_with (first | (go_at_call 101; (with_reducible refine (HO.out _ _ HV.out).mono ?_); rintro e W1 ⟨v0, v1, rfl, h0, h1, hb⟩; replace B := Aside0.mk (below_then B.out B.out.size hb); replace X := Aside0.mk (X.out.below hb); replace hx := fun i => X.out.cell i; replace zx := fun i => blk_frozen X.out i; replace Y := Aside0.mk (Y.out.below hb); replace hy := fun i => Y.out.cell i; replace zy := fun i => blk_frozen Y.out i; have P := Aside0.mk (show FI kPu (w.heap.size + 1 + 1) W1 v0 p by simpa using h0); have N := Aside0.mk (show FI kPu (w.heap.size + 1 + 1) W1 v1 n by simpa using h1); clear h0 h1 hb) | (go_at_call 104; (with_reducible refine (KP.out _ _ (SP.out.below B.out)).mono ?_); rintro e W2 ⟨rfl, hb⟩; replace B := Aside0.mk (below_then B.out B.out.size hb); replace P := Aside0.mk (P.out.below hb); replace N := Aside0.mk (N.out.below hb); replace X := Aside0.mk (X.out.below hb); replace hx := fun i => X.out.cell i; replace zx := fun i => blk_frozen X.out i; replace Y := Aside0.mk (Y.out.below hb); replace hy := fun i => Y.out.cell i; replace zy := fun i => blk_frozen Y.out i; clear  hb) | (go_at_call 104; (with_reducible refine (KN.out _ _ (SN.out.below B.out)).mono ?_); rintro e W3 ⟨rfl, hb⟩; replace B := Aside0.mk (below_then B.out B.out.size hb); replace P := Aside0.mk (P.out.below hb); replace N := Aside0.mk (N.out.below hb); replace X := Aside0.mk (X.out.below hb); replace hx := fun i => X.out.cell i; replace zx := fun i => blk_frozen X.out i; replace Y := Aside0.mk (Y.out.below hb); replace hy := fun i => Y.out.cell i; replace zy := fun i => blk_frozen Y.out i; clear  hb) | (go_at_call 116; (with_reducible refine (HS1.out _ _ _ P.out.now (SP.out.below B.out)).mono ?_); have hsz : w.heap.size + 1 + 1 ≤ W3.heap.size := blk_lt Y.out; rintro e W4 ⟨q0, rfl, hq, hb⟩; replace B := Aside0.mk (below_then B.out B.out.size hb); replace P := Aside0.mk (P.out.below hb); replace N := Aside0.mk (N.out.below hb); replace X := Aside0.mk (X.out.below hb); replace hx := fun i => X.out.cell i; replace zx := fun i => blk_frozen X.out i; replace Y := Aside0.mk (Y.out.below hb); replace hy := fun i => Y.out.cell i; replace zy := fun i => blk_frozen Y.out i; have Q0 := Aside0.mk (show FI (Kd.int .u64) (w.heap.size + 1 + 1) W4 q0 du from hq.lower hsz); have hq' := Q0.out.slice; obtain ⟨B0, d0, eq0⟩ := hq'; subst eq0; clear hq hb) | (go_at_call 116; replace B := Aside0.mk (B.out.set1 (g := w.heap.size) (i := 7) (u := .slice B0 du.length d0) (Nat.le_refl _)); replace X := Aside0.mk (show Blk (W4.setCell ⟨w.heap.size, 7, none⟩ (.slice B0 du.length d0)) w.heap.size #[.int .i64 h.f0, .int .u64 h.f1, .int .u64 h.f2, .int .u64 h.f3, .int .u64 h.f4, .slice A5 h.f5.length c5, .slice A6 h.f6.length c6, .slice B0 du.length d0, .slice A8 h.f8.length c8] 31 from blk_put X.out 7 (.slice B0 du.length d0) rfl); replace Y := Aside0.mk (show Blk (W4.setCell ⟨w.heap.size, 7, none⟩ (.slice B0 du.length d0)) (w.heap.size + 1) #[.int .i64 0, .int .u64 0, .int .u64 0, .int .u64 0, .int .u64 0, .slice none 0 0, .slice none 0 0, .slice none 0 0, .slice none 0 0] 31 from blk_far Y.out (by show w.heap.size + 1 ≠ w.heap.size; omega) (.slice B0 du.length d0)); replace P := Aside0.mk (P.out.step (KA.set (i := 7) _ (by omega : w.heap.size < w.heap.size + 1 + 1) (.slice B0 du.length d0))); replace N := Aside0.mk (N.out.step (KA.set (i := 7) _ (by omega : w.heap.size < w.heap.size + 1 + 1) (.slice B0 du.length d0))); replace Q0 := Aside0.mk (Q0.out.step (KA.set (i := 7) _ (by omega : w.heap.size < w.heap.size + 1 + 1) (.slice B0 du.length d0))); (with_reducible refine (HS2.out _ _ _ N.out.now (SN.out.below B.out)).mono ?_); have hsz := blk_lt Y.out; rintro e W5 ⟨q1, rfl, hq, hb⟩; replace B := Aside0.mk (below_then B.out B.out.size hb); replace P := Aside0.mk (P.out.below hb); replace N := Aside0.mk (N.out.below hb); replace Q0 := Aside0.mk (Q0.out.below hb); replace X := Aside0.mk (X.out.below hb); replace hx := fun i => X.out.cell i; replace zx := fun i => blk_frozen X.out i; replace Y := Aside0.mk (Y.out.below hb); replace hy := fun i => Y.out.cell i; replace zy := fun i => blk_frozen Y.out i; have Q1 := Aside0.mk (show FI (Kd.int .u64) (w.heap.size + 1 + 1) W5 q1 dn from hq.lower (by simp [World.setCell] at hsz ⊢; omega)); have hq' := Q1.out.slice; obtain ⟨B1, d1, eq1⟩ := hq'; subst eq1; clear hq hb) | (go_at_call 51; replace B := Aside0.mk (B.out.set1 (g := w.heap.size) (i := 8) (u := .slice B1 dn.length d1) (Nat.le_refl _)); replace X := Aside0.mk (show Blk (W5.setCell ⟨w.heap.size, 8, none⟩ (.slice B1 dn.length d1)) w.heap.size #[.int .i64 h.f0, .int .u64 h.f1, .int .u64 h.f2, .int .u64 h.f3, .int .u64 h.f4, .slice A5 h.f5.length c5, .slice A6 h.f6.length c6, .slice B0 du.length d0, .slice B1 dn.length d1] 31 from blk_put X.out 8 (.slice B1 dn.length d1) rfl); replace Y := Aside0.mk (show Blk (W5.setCell ⟨w.heap.size, 8, none⟩ (.slice B1 dn.length d1)) (w.heap.size + 1) #[.int .i64 0, .int .u64 0, .int .u64 0, .int .u64 0, .int .u64 0, .slice none 0 0, .slice none 0 0, .slice none 0 0, .slice none 0 0] 31 from blk_far Y.out (by show w.heap.size + 1 ≠ w.heap.size; omega) (.slice B1 dn.length d1)); replace P := Aside0.mk (P.out.step (KA.set (i := 8) _ (by omega : w.heap.size < w.heap.size + 1 + 1) (.slice B1 dn.length d1))); replace N := Aside0.mk (N.out.step (KA.set (i := 8) _ (by omega : w.heap.size < w.heap.size + 1 + 1) (.slice B1 dn.length d1))); replace Q0 := Aside0.mk (Q0.out.step (KA.set (i := 8) _ (by omega : w.heap.size < w.heap.size + 1 + 1) (.slice B1 dn.length d1))); replace Q1 := Aside0.mk (Q1.out.step (KA.set (i := 8) _ (by omega : w.heap.size < w.heap.size + 1 + 1) (.slice B1 dn.length d1))); (with_reducible refine (HC1.out _ a1 g1 (SP.out.below B.out)).mono ?_); have hsz := blk_lt Y.out; rintro e W6 ⟨q2, rfl, hq, hb⟩; replace B := Aside0.mk (below_then B.out B.out.size hb); replace P := Aside0.mk (P.out.below hb); replace N := Aside0.mk (N.out.below hb); replace Q0 := Aside0.mk (Q0.out.below hb); replace Q1 := Aside0.mk (Q1.out.below hb); replace X := Aside0.mk (X.out.below hb); replace hx := fun i => X.out.cell i; replace zx := fun i => blk_frozen X.out i; replace Y := Aside0.mk (Y.out.below hb); replace hy := fun i => Y.out.cell i; replace zy := fun i => blk_frozen Y.out i; have R2 := Aside0.mk (show FI kSp (w.heap.size + 1 + 1) W6 q2 pos from hq.lower (by simp [World.setCell] at hsz ⊢; omega)); have hq' := R2.out.slice; obtain ⟨B2, d2, eq2⟩ := hq'; subst eq2; clear hq hb) | (go_at_call 51; (with_reducible refine (HC2.out _ a2 g2 (SN.out.below B.out)).mono ?_); have hsz : w.heap.size + 1 + 1 ≤ W6.heap.size := blk_lt Y.out; rintro e W7 ⟨q3, rfl, hq, hb⟩; replace B := Aside0.mk (below_then B.out B.out.size hb); replace P := Aside0.mk (P.out.below hb); replace N := Aside0.mk (N.out.below hb); replace Q0 := Aside0.mk (Q0.out.below hb); replace Q1 := Aside0.mk (Q1.out.below hb); replace R2 := Aside0.mk (R2.out.below hb); replace X := Aside0.mk (X.out.below hb); replace hx := fun i => X.out.cell i; replace zx := fun i => blk_frozen X.out i; replace Y := Aside0.mk (Y.out.below hb); replace hy := fun i => Y.out.cell i; replace zy := fun i => blk_frozen Y.out i; have R3 := Aside0.mk (show FI kSp (w.heap.size + 1 + 1) W7 q3 neg from hq.lower hsz); have hq' := R3.out.slice; obtain ⟨B3, d3, eq3⟩ := hq'; subst eq3; have hxa := fun i => blk_cell (show Blk ((W7.setCell ⟨w.heap.size, 5, none⟩ (.slice B2 pos.length d2)).setCell ⟨w.heap.size, 6, none⟩ (.slice B3 neg.length d3)) w.heap.size #[.int .i64 h.f0, .int .u64 h.f1, .int .u64 h.f2, .int .u64 h.f3, .int .u64 h.f4, .slice B2 pos.length d2, .slice B3 neg.length d3, .slice B0 du.length d0, .slice B1 dn.length d1] 31 from blk_put (show Blk (W7.setCell ⟨w.heap.size, 5, none⟩ (.slice B2 pos.length d2)) w.heap.size #[.int .i64 h.f0, .int .u64 h.f1, .int .u64 h.f2, .int .u64 h.f3, .int .u64 h.f4, .slice B2 pos.length d2, .slice A6 h.f6.length c6, .slice B0 du.length d0, .slice B1 dn.length d1] 31 from blk_put X.out 5 (.slice B2 pos.length d2) rfl) 6 (.slice B3 neg.length d3) rfl) i; clear hq hb))
      refine bodyPost_ret (results_ct rfl _ _ (w.heap.size + 1) 31 #[.int .i64 h.f0, .int .u64 h.f1, .int .u64 h.f2, .int .u64 h.f3, .int .u64 h.f4, .slice B2 pos.length d2, .slice B3 neg.length d3, .slice B0 du.length d0, .slice B1 dn.length d1] (0, 0) _ rfl (nine (blk_far (p := ⟨w.heap.size, 6, none⟩) (blk_far (p := ⟨w.heap.size, 5, none⟩) (Y.out) (by show w.heap.size + 1 ≠ w.heap.size; omega) _) (by show w.heap.size + 1 ≠ w.heap.size; omega) _) _ _ _ _ _ _ _ _ _) Try.underlying31 rfl (by kernel_rfl)) rfl ?_
      exact ⟨_, rfl, GF.mk (h := ⟨h.f0, h.f1, h.f2, h.f3, h.f4, pos, neg, du, dn⟩) ((R2.out.step (nine_ka ((KA.set _ (by omega) _).trans (KA.set _ (by omega) _)) (by omega) _ _ _ _ _ _ _ _ _)).lower (by omega)) ((R3.out.step (nine_ka ((KA.set _ (by omega) _).trans (KA.set _ (by omega) _)) (by omega) _ _ _ _ _ _ _ _ _)).lower (by omega)) ((Q0.out.step (nine_ka ((KA.set _ (by omega) _).trans (KA.set _ (by omega) _)) (by omega) _ _ _ _ _ _ _ _ _)).lower (by omega)) ((Q1.out.step (nine_ka ((KA.set _ (by omega) _).trans (KA.set _ (by omega) _)) (by omega) _ _ _ _ _ _ _ _ _)).lower (by omega)), nine_below ((B.out.set1 (Nat.le_refl _)).set1 (Nat.le_refl _)) (by omega) _ _ _ _ _ _ _ _ _⟩
end Go.Proofs.Ytfbjjbbhnmoolaa.P
namespace Go.Proofs.Ytfbjjbbhnmoolaa.P
open Go.RowKit Go.Shelf Go.Proofs.YtfbjjbbhnmoolaaW.PrintWords Go.Proofs.YtfbjjbbhnmoolaaW.PrintLast Go.Proofs.YtfbjjbbhnmoolaaW.PrintMore
set_option maxHeartbeats 8000000 in
set_option maxRecDepth 100000 in
theorem backForm_c (wh : Int → Int × Bool) (h : Fh) (hw : wfF h) (hc : checkF h = 0) (h7 : h.f7.length ≤ 4096) (h8 : h.f8.length ≤ 4096) (hwh : ∀ v, v = h.f2 ∨ v = h.f3 ∨ v ∈ h.f7 ∨ v ∈ h.f8 → ∀ w, Calls Try.prog 29 #[.int .u64 v] w fun e w' => e = .returned (.tuple #[.int .u64 (wh v).1, .bool (wh v).2]) ∧ Below w.heap.size w w')
    (hn : (wholesR wh [h.f2, h.f3]).2 = false) (w : World) (v : Value) (hv : GI w v h) : Calls Try.prog 35 #[v] w fun e w' => e = .returned (.tuple #[.agg #[.int .i64 0, .int .u64 0, .int .u64 0, .int .u64 0, .int .u64 0, .slice none 0 0, .slice none 0 0, .slice none 0 0, .slice none 0 0], .int .i64 10]) ∧ Below w.heap.size w w' := by
  have hud := Try.underlying31
  have huh := Try.underlying26
  have kc := fcheck_c h hw
  rw [hc] at kc
  have wa := wholes_c wh [h.f2, h.f3] (by simp) (fun x hx => hwh x (by simp at hx; rcases hx with h | h; exact .inl h; exact .inr (.inl h)))
  have wb := wholes_c wh h.f7 h7 (fun x hx => hwh x (.inr (.inr (.inl hx))))
  have wc := wholes_c wh h.f8 h8 (fun x hx => hwh x (.inr (.inr (.inr hx))))
  rw [hn] at wa
  generalize (wholesR wh h.f7).2 = b7 at *
  generalize (wholesR wh h.f8).2 = b8 at *
  have KC := Aside0.mk kc
  have WA := Aside0.mk wa
  have WB := Aside0.mk wb
  have WC := Aside0.mk wc
  clear kc wa wb wc hw hc hwh hn h7 h8
  obtain ⟨A5, c5, A6, c6, A7, c7, A8, c8, e, -, -, k7, k8⟩ := hv.open_
  subst e
  have B := Aside0.mk (below_alloc (below_alloc (Below.refl w.heap.size w) (.cells #[.int .i64 h.f0, .int .u64 h.f1, .int .u64 h.f2, .int .u64 h.f3, .int .u64 h.f4, .slice A5 h.f5.length c5, .slice A6 h.f6.length c6, .slice A7 h.f7.length c7, .slice A8 h.f8.length c8] 31)) (.cells #[.int .i64 0, .int .u64 0, .int .u64 0, .int .u64 0, .int .u64 0, .slice none 0 0, .slice none 0 0, .slice none 0 0, .slice none 0 0] 26))
  have X := Aside0.mk ((Blk.new w #[.int .i64 h.f0, .int .u64 h.f1, .int .u64 h.f2, .int .u64 h.f3, .int .u64 h.f4, .slice A5 h.f5.length c5, .slice A6 h.f6.length c6, .slice A7 h.f7.length c7, .slice A8 h.f8.length c8] 31).alloc (.cells #[.int .i64 0, .int .u64 0, .int .u64 0, .int .u64 0, .int .u64 0, .slice none 0 0, .slice none 0 0, .slice none 0 0, .slice none 0 0] 26))
  have Y := Aside0.mk (Blk.at1 (w := w) (.cells #[.int .i64 h.f0, .int .u64 h.f1, .int .u64 h.f2, .int .u64 h.f3, .int .u64 h.f4, .slice A5 h.f5.length c5, .slice A6 h.f6.length c6, .slice A7 h.f7.length c7, .slice A8 h.f8.length c8] 31) #[.int .i64 0, .int .u64 0, .int .u64 0, .int .u64 0, .int .u64 0, .slice none 0 0, .slice none 0 0, .slice none 0 0, .slice none 0 0] 26)
  have hx := fun i => X.out.cell i
  have hy := fun i => Y.out.cell i
  have zy := fun i => blk_frozen Y.out i
  have HV := Aside0.mk (hv.below B.out)
  have H7 := Aside0.mk (k7.below B.out)
  have H8 := Aside0.mk (k8.below B.out)
  clear hv k7 k8
  go_enter Try.func35, Try.ntmps35
  go_wp2_with (first | (go_at_call 87; (with_reducible refine (KC.out _ _ HV.out).mono ?_); rintro e W1 ⟨rfl, hb⟩; replace B := Aside0.mk (below_then B.out B.out.size hb); replace HV := Aside0.mk (HV.out.below hb); replace H7 := Aside0.mk (H7.out.below hb); replace H8 := Aside0.mk (H8.out.below hb); replace X := Aside0.mk (X.out.below hb); replace hx := fun i => X.out.cell i; replace Y := Aside0.mk (Y.out.below hb); replace hy := fun i => Y.out.cell i; replace zy := fun i => blk_frozen Y.out i; have hxa := fun i => (X.out.alloc (.cells #[.int .u64 h.f2, .int .u64 h.f3] 22)).cell i; have hya := fun i => (Y.out.alloc (.cells #[.int .u64 h.f2, .int .u64 h.f3] 22)).cell i; clear  hb))
  (try clear hxa hya)
  have hal := below_alloc (Below.refl W1.heap.size W1) (.cells #[.int .u64 h.f2, .int .u64 h.f3] 22)
  replace B := Aside0.mk (below_then B.out B.out.size hal)
  replace HV := Aside0.mk (HV.out.below hal)
  replace H7 := Aside0.mk (H7.out.below hal)
  replace H8 := Aside0.mk (H8.out.below hal)
  replace X := Aside0.mk (X.out.alloc (.cells #[.int .u64 h.f2, .int .u64 h.f3] 22)); replace hx := fun i => X.out.cell i
  replace Y := Aside0.mk (Y.out.alloc (.cells #[.int .u64 h.f2, .int .u64 h.f3] 22)); replace hy := fun i => Y.out.cell i
  have L := Aside0.mk (Blk.new W1 #[.int .u64 h.f2, .int .u64 h.f3] 22); have hl := fun i => L.out.cell i; clear hal
  have SL := Aside0.mk (show SI (Kd.int .u64) (W1.alloc (.cells #[.int .u64 h.f2, .int .u64 h.f3] 22)) (.slice (some ⟨W1.heap.size, 0, none⟩) 2 2) [h.f2, h.f3] from .of (C_of_blk (d := Kd.int .u64) [h.f2, h.f3] (show (W1.alloc (.cells #[.int .u64 h.f2, .int .u64 h.f3] 22)).heap[W1.heap.size]? = some (.cells #[.int .u64 h.f2, .int .u64 h.f3] 22 (0, 0)) from L.out) (reps_nums _ .u64 [h.f2, h.f3]) (by simp)) (Nat.le_refl _))
  go_wp2_with (first | (go_at_call 91; (with_reducible refine (WA.out _ _ SL.out).mono ?_); rintro e W2 ⟨l0, rfl, -, hb⟩; replace B := Aside0.mk (below_then B.out B.out.size hb); replace HV := Aside0.mk (HV.out.below hb); replace H7 := Aside0.mk (H7.out.below hb); replace H8 := Aside0.mk (H8.out.below hb); replace X := Aside0.mk (X.out.below hb); replace hx := fun i => X.out.cell i; replace Y := Aside0.mk (Y.out.below hb); replace hy := fun i => Y.out.cell i; replace zy := fun i => blk_frozen Y.out i; replace L := Aside0.mk (L.out.below hb); replace hl := fun i => L.out.cell i; clear  hb) | (go_at_call 91; (with_reducible refine (WB.out _ _ H7.out).mono ?_); rintro e W3 ⟨l1, rfl, -, hb⟩; replace B := Aside0.mk (below_then B.out B.out.size hb); replace HV := Aside0.mk (HV.out.below hb); replace H7 := Aside0.mk (H7.out.below hb); replace H8 := Aside0.mk (H8.out.below hb); replace X := Aside0.mk (X.out.below hb); replace hx := fun i => X.out.cell i; replace Y := Aside0.mk (Y.out.below hb); replace hy := fun i => Y.out.cell i; replace zy := fun i => blk_frozen Y.out i; replace L := Aside0.mk (L.out.below hb); replace hl := fun i => L.out.cell i; clear  hb) | (go_at_call 91; (with_reducible refine (WC.out _ _ H8.out).mono ?_); rintro e W4 ⟨l2, rfl, -, hb⟩; replace B := Aside0.mk (below_then B.out B.out.size hb); replace HV := Aside0.mk (HV.out.below hb); replace H7 := Aside0.mk (H7.out.below hb); replace H8 := Aside0.mk (H8.out.below hb); replace X := Aside0.mk (X.out.below hb); replace hx := fun i => X.out.cell i; replace Y := Aside0.mk (Y.out.below hb); replace hy := fun i => Y.out.cell i; replace zy := fun i => blk_frozen Y.out i; replace L := Aside0.mk (L.out.below hb); replace hl := fun i => L.out.cell i; clear  hb))
  refine bodyPost_ret (results_ct rfl _ _ (w.heap.size + 1) 26 #[.int .i64 0, .int .u64 0, .int .u64 0, .int .u64 0, .int .u64 0, .slice none 0 0, .slice none 0 0, .slice none 0 0, .slice none 0 0] (0, 0) _ rfl (nine Y.out _ _ _ _ _ _ _ _ _) Try.underlying26 rfl (by kernel_rfl)) rfl ?_
  exact ⟨rfl, nine_below B.out (by omega) _ _ _ _ _ _ _ _ _⟩
end Go.Proofs.Ytfbjjbbhnmoolaa.P
namespace Go.Proofs.Ytfbjjbbhnmoolaa.P
open Go.RowKit Go.Shelf Go.Proofs.YtfbjjbbhnmoolaaW.PrintWords Go.Proofs.YtfbjjbbhnmoolaaW.PrintLast Go.Proofs.YtfbjjbbhnmoolaaW.PrintMore
def oneH : Hi := ⟨0, 1, 1, 6, 0, [⟨3, 2⟩], [], [5, -5], []⟩
def badH : Hi := ⟨0, 1, 1, 7, 0, [⟨3, 2⟩], [], [5, -5], []⟩
theorem HI.spans {w : World} {h : Hi} {A5 A6 A7 A8 : Option Addr} {n5 n6 n7 n8 c5 c6 c7 c8 : Nat} {x0 x1 x2 x3 x4 : Value} (hv : HI w (.agg #[x0, x1, x2, x3, x4, .slice A5 n5 c5, .slice A6 n6 c6, .slice A7 n7 c7, .slice A8 n8 c8]) h) : SI kSp w (.slice A5 n5 c5) h.f5 := by
  obtain ⟨v5, v6, v7, v8, e, h5, -⟩ := hv
  injection e with e
  have e5 := congrArg (fun a : Array Value => a.getD 5 undef) e
  simp at e5
  rw [e5]; exact h5
theorem HI.bad {w : World} {A5 A6 A7 A8 : Option Addr} {n5 n6 n7 n8 c5 c6 c7 c8 : Nat} (hv : HI w (.agg #[.int .i64 0, .int .u64 1, .int .u64 1, .int .u64 6, .int .u64 0, .slice A5 n5 c5, .slice A6 n6 c6, .slice A7 n7 c7, .slice A8 n8 c8]) oneH) : HI w (.agg #[.int .i64 0, .int .u64 1, .int .u64 1, .int .u64 7, .int .u64 0, .slice A5 n5 c5, .slice A6 n6 c6, .slice A7 n7 c7, .slice A8 n8 c8]) badH := by
  obtain ⟨v5, v6, v7, v8, e, h5, h6, h7, h8⟩ := hv
  injection e with e
  have e5 := congrArg (fun a : Array Value => a.getD 5 undef) e
  have e6 := congrArg (fun a : Array Value => a.getD 6 undef) e
  have e7 := congrArg (fun a : Array Value => a.getD 7 undef) e
  have e8 := congrArg (fun a : Array Value => a.getD 8 undef) e
  simp at e5 e6 e7 e8
  subst e5; subst e6; subst e7; subst e8
  exact ⟨_, _, _, _, rfl, h5, h6, h7, h8⟩
end Go.Proofs.Ytfbjjbbhnmoolaa.P
namespace Go.Proofs.Ytfbjjbbhnmoolaa.P
open Go.RowKit Go.Shelf Go.Proofs.YtfbjjbbhnmoolaaW.PrintWords Go.Proofs.YtfbjjbbhnmoolaaW.PrintLast Go.Proofs.YtfbjjbbhnmoolaaW.PrintMore
def oneF : Fh := ⟨0, 1, 4602678819172646912, 4613937818241073152, 0, [⟨3, 2⟩], [], [4613937818241073152, 0], []⟩
def canF : Fh := ⟨0, 1, 4602678819172646912, 4613937818241073152, 0, [⟨3, 1⟩], [], [4613937818241073152], []⟩
def badF : Fh := ⟨0, 1, 4602678819172646912, 9223372036854775808, 0, [⟨3, 2⟩], [], [4613937818241073152, 0], []⟩
def oneQ : List Pu := [⟨3, 4613937818241073152⟩, ⟨4, 0⟩]
theorem oneF_wf : wfF oneF := by unfold wfF; decide
theorem canF_wf : wfF canF := by unfold wfF; decide
theorem badF_wf : wfF badF := by unfold wfF; decide
theorem aw10_1 : pairsF oneF 0 = (oneQ, 0) := by kernel_rfl
theorem aw10_2 : canonF oneF = (canF, 0) := by kernel_rfl
theorem aw10_3 : checkF badF = 22 := by kernel_rfl
theorem aw10_0 : checkF oneF = 0 := by kernel_rfl
theorem aw10_4 : makeF oneF oneQ [] = (oneF, 0) := by kernel_rfl
theorem aw10_5 : overF canF oneF.f5 [] = (oneF, 0) := by kernel_rfl
theorem aw10_6 : equalF oneF oneF = true := by kernel_rfl
theorem aw10_7 : equalF oneF canF = true := by kernel_rfl
theorem aw10_8 : equalF oneF badF = false := by kernel_rfl
theorem oneQ_wf : wfRowU oneQ := ⟨by unfold wfPus oneQ; decide, by decide⟩
def wh10 (v : Int) : Int × Bool := if v = 4613937818241073152 then (3, true) else if v = 4602678819172646912 then (0, false) else (0, true)
theorem wh10_c (v : Int) (h : v = 4602678819172646912 ∨ v = 4613937818241073152 ∨ v = 0) (w : World) : Calls Try.prog 29 #[.int .u64 v] w fun e w' => e = .returned (.tuple #[.int .u64 (wh10 v).1, .bool (wh10 v).2]) ∧ Below w.heap.size w w' := by
  rcases h with rfl | rfl | rfl
  · exact whole_half w
  · exact whole_three w
  · exact whole_zero w
theorem right10 (w : World) : Calls Try.prog 82 #[.int .u64 0] w fun e w' => e = .returned (.bool true) ∧ Below w.heap.size w w' := by
  have := right_c 0 w
  rwa [show rightF 0 = true from by decide] at this
theorem back10 (w : World) (v : Value) (hv : GI w v oneF) : Calls Try.prog 35 #[v] w fun e w' => e = .returned (.tuple #[.agg #[.int .i64 0, .int .u64 0, .int .u64 0, .int .u64 0, .int .u64 0, .slice none 0 0, .slice none 0 0, .slice none 0 0, .slice none 0 0], .int .i64 10]) ∧ Below w.heap.size w w' :=
  backForm_c wh10 oneF oneF_wf aw10_0 (by decide) (by decide) (fun v h w => wh10_c v (by
    rcases h with h | h | h | h
    · exact .inl h
    · exact .inr (.inl h)
    · simp only [oneF, List.mem_cons, List.not_mem_nil, or_false] at h
      rcases h with h | h
      · exact .inr (.inl h)
      · exact .inr (.inr h)
    · simp [oneF] at h) w) (by decide) w v hv
theorem fone_x (w : World) : Calls Try.prog 85 #[] w fun e w' => ∃ oA5 oc5 oA6 oc6 oA7 oc7 oA8 oc8, e = .returned (.agg #[.int .i64 0, .int .u64 1, .int .u64 4602678819172646912, .int .u64 4613937818241073152, .int .u64 0, .slice oA5 1 oc5, .slice oA6 0 oc6, .slice oA7 2 oc7, .slice oA8 0 oc8]) ∧ GI w' (.agg #[.int .i64 0, .int .u64 1, .int .u64 4602678819172646912, .int .u64 4613937818241073152, .int .u64 0, .slice oA5 1 oc5, .slice oA6 0 oc6, .slice oA7 2 oc7, .slice oA8 0 oc8]) oneF ∧ Below w.heap.size w w' := by
  refine (tidepolelaw10_one.calls 0 1 4602678819172646912 4613937818241073152 0 [⟨3, 2⟩] [] [4613937818241073152, 0] [] w (by kernel_rfl)).mono ?_
  rintro e w1 ⟨v5, v6, v7, v8, rfl, h5, h6, h7, h8, hb⟩
  have hi : GI w1 (.agg #[.int .i64 0, .int .u64 1, .int .u64 4602678819172646912, .int .u64 4613937818241073152, .int .u64 0, v5, v6, v7, v8]) oneF := ⟨v5, v6, v7, v8, rfl, .of_R h5, .of_R h6, .of_R h7, .of_R h8⟩
  obtain ⟨a5, c5, a6, c6, a7, c7, a8, c8, e, -⟩ := hi.open_
  rw [e] at hi ⊢
  exact ⟨a5, c5, a6, c6, a7, c7, a8, c8, rfl, hi, hb⟩
theorem fpairs_x (w : World) (v : Value) (hv : GI w v oneF) : Calls Try.prog 58 #[v, .int .i64 0] w fun e w' => ∃ A c, e = .returned (.tuple #[.slice A 2 c, .int .i64 0]) ∧ SI kPu w' (.slice A 2 c) oneQ ∧ Below w.heap.size w w' := by
  have := fpairs_c oneF oneF_wf 0 w v hv
  rw [aw10_1] at this
  refine this.mono ?_
  rintro e w1 ⟨v0, rfl, h0, hb⟩
  have h0' := h0
  obtain ⟨A, c, rfl, -⟩ := h0'
  exact ⟨A, c, rfl, h0, hb⟩
theorem fcanon_x (w : World) (v : Value) (hv : GI w v oneF) : Calls Try.prog 86 #[v] w fun e w' => ∃ cA5 cc5 cA6 cc6 cA7 cc7 cA8 cc8, e = .returned (.tuple #[.agg #[.int .i64 0, .int .u64 1, .int .u64 4602678819172646912, .int .u64 4613937818241073152, .int .u64 0, .slice cA5 1 cc5, .slice cA6 0 cc6, .slice cA7 1 cc7, .slice cA8 0 cc8], .int .i64 0]) ∧ GI w' (.agg #[.int .i64 0, .int .u64 1, .int .u64 4602678819172646912, .int .u64 4613937818241073152, .int .u64 0, .slice cA5 1 cc5, .slice cA6 0 cc6, .slice cA7 1 cc7, .slice cA8 0 cc8]) canF ∧ Below w.heap.size w w' := by
  have := fcanon_c oneF oneF_wf w v hv
  rw [aw10_2] at this
  refine this.mono ?_
  rintro e w1 ⟨v0, rfl, h0, hb⟩
  obtain ⟨a5, c5, a6, c6, a7, c7, a8, c8, e, -⟩ := h0.now.open_
  have hi := h0.now
  subst e
  exact ⟨a5, c5, a6, c6, a7, c7, a8, c8, rfl, hi, hb⟩
theorem fmake_x (w : World) (v vp : Value) (hv : GI w v oneF) (hp : SI kPu w vp oneQ) : Calls Try.prog 88 #[v, vp, .slice none 0 0] w fun e w' => ∃ mA5 mc5 mA6 mc6 mA7 mc7 mA8 mc8, e = .returned (.tuple #[.agg #[.int .i64 0, .int .u64 1, .int .u64 4602678819172646912, .int .u64 4613937818241073152, .int .u64 0, .slice mA5 1 mc5, .slice mA6 0 mc6, .slice mA7 2 mc7, .slice mA8 0 mc8], .int .i64 0]) ∧ GI w' (.agg #[.int .i64 0, .int .u64 1, .int .u64 4602678819172646912, .int .u64 4613937818241073152, .int .u64 0, .slice mA5 1 mc5, .slice mA6 0 mc6, .slice mA7 2 mc7, .slice mA8 0 mc8]) oneF ∧ Below w.heap.size w w' := by
  have := fmake_c oneF oneF_wf oneQ [] oneQ_wf RowOKU.nil.wf w v vp _ hv hp (SI.nil _ _)
  rw [aw10_4] at this
  refine this.mono ?_
  rintro e w1 ⟨v0, rfl, h0, hb⟩
  obtain ⟨a5, c5, a6, c6, a7, c7, a8, c8, e, -⟩ := h0.now.open_
  have hi := h0.now
  subst e
  exact ⟨a5, c5, a6, c6, a7, c7, a8, c8, rfl, hi, hb⟩
theorem fover_x (w : World) (v vp : Value) (hv : GI w v canF) (hp : SI kSp w vp oneF.f5) : Calls Try.prog 89 #[v, vp, .slice none 0 0] w fun e w' => ∃ rA5 rc5 rA6 rc6 rA7 rc7 rA8 rc8, e = .returned (.tuple #[.agg #[.int .i64 0, .int .u64 1, .int .u64 4602678819172646912, .int .u64 4613937818241073152, .int .u64 0, .slice rA5 1 rc5, .slice rA6 0 rc6, .slice rA7 2 rc7, .slice rA8 0 rc8], .int .i64 0]) ∧ GF w.heap.size w' (.agg #[.int .i64 0, .int .u64 1, .int .u64 4602678819172646912, .int .u64 4613937818241073152, .int .u64 0, .slice rA5 1 rc5, .slice rA6 0 rc6, .slice rA7 2 rc7, .slice rA8 0 rc8]) oneF ∧ Below w.heap.size w w' := by
  have := fover_c canF canF_wf oneF.f5 [] oneF_wf.2.2.2.2.2.1 (fun s hs => by simp at hs) w v vp _ hv hp (SI.nil _ _)
  rw [aw10_5] at this
  refine this.mono ?_
  rintro e w1 ⟨v0, rfl, h0, hb⟩
  obtain ⟨a5, c5, a6, c6, a7, c7, a8, c8, e, -⟩ := h0.now.open_
  subst e
  exact ⟨a5, c5, a6, c6, a7, c7, a8, c8, rfl, h0, hb⟩
theorem fequal_x (a b : Fh) (ha : wfF a) (hb : wfF b) (r : Bool) (he : equalF a b = r) (w : World) (u v : Value) (hu : GI w u a) (hv : GI w v b) : Calls Try.prog 90 #[u, v] w fun e w' => e = .returned (.bool r) ∧ Below w.heap.size w w' := he ▸ fequal_c a b ha hb w u v hu hv
theorem fcheck_x (a : Fh) (ha : wfF a) (r : Int) (he : checkF a = r) (w : World) (u : Value) (hu : GI w u a) : Calls Try.prog 87 #[u] w fun e w' => e = .returned (.int .i64 r) ∧ Below w.heap.size w w' := he ▸ fcheck_c a ha w u hu
theorem GI.spans {w : World} {h : Fh} {A5 A6 A7 A8 : Option Addr} {n5 n6 n7 n8 c5 c6 c7 c8 : Nat} {x0 x1 x2 x3 x4 : Value} (hv : GI w (.agg #[x0, x1, x2, x3, x4, .slice A5 n5 c5, .slice A6 n6 c6, .slice A7 n7 c7, .slice A8 n8 c8]) h) : SI kSp w (.slice A5 n5 c5) h.f5 := by
  obtain ⟨v5, v6, v7, v8, e, h5, -⟩ := hv
  injection e with e
  have e5 := congrArg (fun a : Array Value => a.getD 5 undef) e
  simp at e5
  rw [e5]; exact h5
theorem GI.bad {w : World} {A5 A6 A7 A8 : Option Addr} {n5 n6 n7 n8 c5 c6 c7 c8 : Nat} (hv : GI w (.agg #[.int .i64 0, .int .u64 1, .int .u64 4602678819172646912, .int .u64 4613937818241073152, .int .u64 0, .slice A5 n5 c5, .slice A6 n6 c6, .slice A7 n7 c7, .slice A8 n8 c8]) oneF) : GI w (.agg #[.int .i64 0, .int .u64 1, .int .u64 4602678819172646912, .int .u64 9223372036854775808, .int .u64 0, .slice A5 n5 c5, .slice A6 n6 c6, .slice A7 n7 c7, .slice A8 n8 c8]) badF := by
  obtain ⟨v5, v6, v7, v8, e, h5, h6, h7, h8⟩ := hv
  injection e with e
  have e5 := congrArg (fun a : Array Value => a.getD 5 undef) e
  have e6 := congrArg (fun a : Array Value => a.getD 6 undef) e
  have e7 := congrArg (fun a : Array Value => a.getD 7 undef) e
  have e8 := congrArg (fun a : Array Value => a.getD 8 undef) e
  simp at e5 e6 e7 e8
  subst e5; subst e6; subst e7; subst e8
  exact ⟨_, _, _, _, rfl, h5, h6, h7, h8⟩
theorem ffield5_x (a5 a6 a7 a8 : Option Addr) (n5 c5 n6 c6 n7 c7 n8 c8 : Nat) (x0 x1 x2 x3 x4 : Int) (W : World) : (Instr.field 31 (.agg #[.int .i64 x0, .int .u64 x1, .int .u64 x2, .int .u64 x3, .int .u64 x4, .slice a5 n5 c5, .slice a6 n6 c6, .slice a7 n7 c7, .slice a8 n8 c8]) 5).run Try.prog W = .ok (.slice a5 n5 c5) W := by
  kernel_rfl
set_option maxHeartbeats 16000000 in
set_option maxRecDepth 100000 in
theorem awake10_c (w : World) : Calls Try.prog 33 #[] w fun e w' => e = .returned (.bool true) ∧ Below w.heap.size w w' := by
  have hu := Try.underlying31
  have hpu := Try.underlying137
  have huh := Try.underlying26
  have hfd := ffield5_x
  go_enter Try.func33, Try.ntmps33
  go_wp2_with fail
  refine (fone_x w).mono ?_
  rintro e w1 ⟨oA5, oc5, oA6, oc6, oA7, oc7, oA8, oc8, rfl, hh, hb⟩
  have B := Aside0.mk hb
  have O := Aside0.mk hh
  clear hb hh
  go_wp2_with fail
  refine (fpairs_x _ _ O.out).mono ?_
  rintro e w2 ⟨pA, pc, rfl, hh, hb⟩
  replace B := Aside0.mk (below_then B.out B.out.size hb)
  replace O := Aside0.mk (O.out.below hb)
  have P := Aside0.mk hh
  clear hb hh
  go_wp2_with fail
  refine (fone_x _).mono ?_
  rintro e w3 ⟨qA5, qc5, qA6, qc6, qA7, qc7, qA8, qc8, rfl, hh, hb⟩
  replace B := Aside0.mk (below_then B.out B.out.size hb)
  replace O := Aside0.mk (O.out.below hb)
  replace P := Aside0.mk (P.out.below hb)
  have Q := Aside0.mk hh
  clear hb hh
  go_wp2_with fail
  refine (fcanon_x _ _ Q.out).mono ?_
  rintro e w4 ⟨cA5, cc5, cA6, cc6, cA7, cc7, cA8, cc8, rfl, hh, hb⟩
  replace B := Aside0.mk (below_then B.out B.out.size hb)
  replace O := Aside0.mk (O.out.below hb)
  replace P := Aside0.mk (P.out.below hb)
  replace Q := Aside0.mk (Q.out.below hb)
  have C := Aside0.mk hh
  clear hb hh
  go_wp2_with fail
  refine (fone_x _).mono ?_
  rintro e W5 ⟨bA5, bc5, bA6, bc6, bA7, bc7, bA8, bc8, rfl, hh, hb⟩
  have hb0 := hb
  have hb := below_then (below_alloc (Below.refl w4.heap.size w4) (.cells #[.int .i64 0, .int .u64 1, .int .u64 4602678819172646912, .int .u64 4613937818241073152, .int .u64 0, .slice cA5 1 cc5, .slice cA6 0 cc6, .slice cA7 1 cc7, .slice cA8 0 cc8] 31)) ((below_alloc (Below.refl w4.heap.size w4) (.cells #[.int .i64 0, .int .u64 1, .int .u64 4602678819172646912, .int .u64 4613937818241073152, .int .u64 0, .slice cA5 1 cc5, .slice cA6 0 cc6, .slice cA7 1 cc7, .slice cA8 0 cc8] 31))).size hb
  replace B := Aside0.mk (below_then B.out B.out.size hb)
  replace O := Aside0.mk (O.out.below hb)
  replace P := Aside0.mk (P.out.below hb)
  replace Q := Aside0.mk (Q.out.below hb)
  replace C := Aside0.mk (C.out.below hb)
  have T3 := Aside0.mk (show Blk W5 w4.heap.size #[.int .i64 0, .int .u64 1, .int .u64 4602678819172646912, .int .u64 4613937818241073152, .int .u64 0, .slice cA5 1 cc5, .slice cA6 0 cc6, .slice cA7 1 cc7, .slice cA8 0 cc8] 31 from (Blk.new w4 #[.int .i64 0, .int .u64 1, .int .u64 4602678819172646912, .int .u64 4613937818241073152, .int .u64 0, .slice cA5 1 cc5, .slice cA6 0 cc6, .slice cA7 1 cc7, .slice cA8 0 cc8] 31).below hb0)
  have ht3 := fun i => T3.out.cell i
  have D := Aside0.mk hh
  clear hb hb0 hh
  have hbw := below_alloc (Below.refl W5.heap.size W5) (.cells #[.int .i64 0, .int .u64 1, .int .u64 4602678819172646912, .int .u64 9223372036854775808, .int .u64 0, .slice bA5 1 bc5, .slice bA6 0 bc6, .slice bA7 2 bc7, .slice bA8 0 bc8] 31)
  have hP := P.out.below hbw
  obtain ⟨_, _, eP, _, hPC⟩ := hP
  cases eP
  obtain ⟨ad, e1, hx0, hx1⟩ := at_T137 hPC 0 (by decide) (by decide)
  obtain ⟨ad', e1', hy0, hy1⟩ := at_T137 hPC 1 (by decide) (by decide)
  subst e1
  cases e1'
  have hx1' : (W5.alloc (.cells #[.int .i64 0, .int .u64 1, .int .u64 4602678819172646912, .int .u64 9223372036854775808, .int .u64 0, .slice bA5 1 bc5, .slice bA6 0 bc6, .slice bA7 2 bc7, .slice bA8 0 bc8] 31)).cell? ⟨ad.block, ad.off + 1, none⟩ = some (.int .u64 4613937818241073152) := hx1
  have hy0' : (W5.alloc (.cells #[.int .i64 0, .int .u64 1, .int .u64 4602678819172646912, .int .u64 9223372036854775808, .int .u64 0, .slice bA5 1 bc5, .slice bA6 0 bc6, .slice bA7 2 bc7, .slice bA8 0 bc8] 31)).cell? ⟨ad.block, ad.off + 2, none⟩ = some (.int .i64 4) := hy0
  clear hx0 hx1 hy0 hy1 hPC hbw
  replace ht3 := fun i => (T3.out.alloc (.cells #[.int .i64 0, .int .u64 1, .int .u64 4602678819172646912, .int .u64 9223372036854775808, .int .u64 0, .slice bA5 1 bc5, .slice bA6 0 bc6, .slice bA7 2 bc7, .slice bA8 0 bc8] 31)).cell i
  go_wp2_with fail
  refine (fcheck_x badF badF_wf 22 aw10_3 _ _ (D.out.bad.below (below_alloc (Below.refl W5.heap.size W5) (.cells #[.int .i64 0, .int .u64 1, .int .u64 4602678819172646912, .int .u64 9223372036854775808, .int .u64 0, .slice bA5 1 bc5, .slice bA6 0 bc6, .slice bA7 2 bc7, .slice bA8 0 bc8] 31)))).mono ?_
  rintro e W6 ⟨rfl, hb⟩
  have hb0 := hb
  have hb := below_then (below_alloc (Below.refl W5.heap.size W5) (.cells #[.int .i64 0, .int .u64 1, .int .u64 4602678819172646912, .int .u64 9223372036854775808, .int .u64 0, .slice bA5 1 bc5, .slice bA6 0 bc6, .slice bA7 2 bc7, .slice bA8 0 bc8] 31)) ((below_alloc (Below.refl W5.heap.size W5) (.cells #[.int .i64 0, .int .u64 1, .int .u64 4602678819172646912, .int .u64 9223372036854775808, .int .u64 0, .slice bA5 1 bc5, .slice bA6 0 bc6, .slice bA7 2 bc7, .slice bA8 0 bc8] 31))).size hb
  replace B := Aside0.mk (below_then B.out B.out.size hb)
  replace O := Aside0.mk (O.out.below hb)
  replace P := Aside0.mk (P.out.below hb)
  replace Q := Aside0.mk (Q.out.below hb)
  replace C := Aside0.mk (C.out.below hb)
  replace D := Aside0.mk (D.out.below hb)
  replace T3 := Aside0.mk (T3.out.below hb)
  replace ht3 := fun i => T3.out.cell i
  have T5 := Aside0.mk (show Blk W6 W5.heap.size #[.int .i64 0, .int .u64 1, .int .u64 4602678819172646912, .int .u64 9223372036854775808, .int .u64 0, .slice bA5 1 bc5, .slice bA6 0 bc6, .slice bA7 2 bc7, .slice bA8 0 bc8] 31 from (Blk.new W5 #[.int .i64 0, .int .u64 1, .int .u64 4602678819172646912, .int .u64 9223372036854775808, .int .u64 0, .slice bA5 1 bc5, .slice bA6 0 bc6, .slice bA7 2 bc7, .slice bA8 0 bc8] 31).below hb0)
  have ht5 := fun i => T5.out.cell i
  have Bd := Aside0.mk (D.out.bad)
  clear hb hb0
  go_wp2_with fail
  refine (fone_x _).mono ?_
  rintro e W7 ⟨eA5, ec5, eA6, ec6, eA7, ec7, eA8, ec8, rfl, hh, hb⟩
  replace B := Aside0.mk (below_then B.out B.out.size hb)
  replace O := Aside0.mk (O.out.below hb)
  replace P := Aside0.mk (P.out.below hb)
  replace Q := Aside0.mk (Q.out.below hb)
  replace C := Aside0.mk (C.out.below hb)
  replace D := Aside0.mk (D.out.below hb)
  replace Bd := Aside0.mk (Bd.out.below hb)
  replace T3 := Aside0.mk (T3.out.below hb)
  replace ht3 := fun i => T3.out.cell i
  replace T5 := Aside0.mk (T5.out.below hb)
  replace ht5 := fun i => T5.out.cell i
  have E := Aside0.mk hh
  clear hb hh
  go_wp2_with fail
  refine (fmake_x _ _ _ E.out P.out).mono ?_
  rintro e W8 ⟨mA5, mc5, mA6, mc6, mA7, mc7, mA8, mc8, rfl, hh, hb⟩
  replace B := Aside0.mk (below_then B.out B.out.size hb)
  replace O := Aside0.mk (O.out.below hb)
  replace P := Aside0.mk (P.out.below hb)
  replace Q := Aside0.mk (Q.out.below hb)
  replace C := Aside0.mk (C.out.below hb)
  replace D := Aside0.mk (D.out.below hb)
  replace Bd := Aside0.mk (Bd.out.below hb)
  replace E := Aside0.mk (E.out.below hb)
  replace T3 := Aside0.mk (T3.out.below hb)
  replace ht3 := fun i => T3.out.cell i
  replace T5 := Aside0.mk (T5.out.below hb)
  replace ht5 := fun i => T5.out.cell i
  have M := Aside0.mk hh
  clear hb hh
  have hw := below_alloc (Below.refl W8.heap.size W8) (.cells #[.int .i64 0, .int .u64 1, .int .u64 4602678819172646912, .int .u64 4613937818241073152, .int .u64 0, .slice mA5 1 mc5, .slice mA6 0 mc6, .slice mA7 2 mc7, .slice mA8 0 mc8] 31)
  replace B := Aside0.mk (below_then B.out B.out.size hw)
  replace C := Aside0.mk (C.out.below hw)
  replace Bd := Aside0.mk (Bd.out.below hw)
  replace M := Aside0.mk (M.out.below hw)
  replace T3 := Aside0.mk (T3.out.below hw)
  replace T5 := Aside0.mk (T5.out.below hw)
  have T6 := Aside0.mk (Blk.new W8 #[.int .i64 0, .int .u64 1, .int .u64 4602678819172646912, .int .u64 4613937818241073152, .int .u64 0, .slice mA5 1 mc5, .slice mA6 0 mc6, .slice mA7 2 mc7, .slice mA8 0 mc8] 31)
  replace ht3 := fun i => T3.out.cell i
  clear hw ht5 hx1' hy0'
  go_upto_region 8 with fail
  go_cut [8, 9] (fun s8 s9 wx => s9 = .int .i64 0 ∧ ∃ g : Nat, s8 = .pointer (some ⟨g, 0, none⟩) ∧ Aside0 ((W8.alloc (.cells #[.int .i64 0, .int .u64 1, .int .u64 4602678819172646912, .int .u64 4613937818241073152, .int .u64 0, .slice mA5 1 mc5, .slice mA6 0 mc6, .slice mA7 2 mc7, .slice mA8 0 mc8] 31)).heap.size ≤ g ∧ Below (W8.alloc (.cells #[.int .i64 0, .int .u64 1, .int .u64 4602678819172646912, .int .u64 4613937818241073152, .int .u64 0, .slice mA5 1 mc5, .slice mA6 0 mc6, .slice mA7 2 mc7, .slice mA8 0 mc8] 31)).heap.size (W8.alloc (.cells #[.int .i64 0, .int .u64 1, .int .u64 4602678819172646912, .int .u64 4613937818241073152, .int .u64 0, .slice mA5 1 mc5, .slice mA6 0 mc6, .slice mA7 2 mc7, .slice mA8 0 mc8] 31)) wx ∧ ∃ rA5 rc5 rA6 rc6 rA7 rc7 rA8 rc8, Blk wx g #[.int .i64 0, .int .u64 1, .int .u64 4602678819172646912, .int .u64 4613937818241073152, .int .u64 0, .slice rA5 1 rc5, .slice rA6 0 rc6, .slice rA7 2 rc7, .slice rA8 0 rc8] 31 ∧ GI wx (.agg #[.int .i64 0, .int .u64 1, .int .u64 4602678819172646912, .int .u64 4613937818241073152, .int .u64 0, .slice rA5 1 rc5, .slice rA6 0 rc6, .slice rA7 2 rc7, .slice rA8 0 rc8]) oneF))
  case first =>
    have ht3a := fun i => (T3.out.alloc (.cells #[.int .i64 0, .int .u64 0, .int .u64 0, .int .u64 0, .int .u64 0, .slice none 0 0, .slice none 0 0, .slice none 0 0, .slice none 0 0] 31)).cell i
    go_region_with (first | (go_at_call 85; (with_reducible refine (fone_x (W8.alloc (.cells #[.int .i64 0, .int .u64 1, .int .u64 4602678819172646912, .int .u64 4613937818241073152, .int .u64 0, .slice mA5 1 mc5, .slice mA6 0 mc6, .slice mA7 2 mc7, .slice mA8 0 mc8] 31)).drew).mono ?_); rintro e W9 ⟨fA5, fc5, fA6, fc6, fA7, fc7, fA8, fc8, rfl, hh, hb⟩; have F := Aside0.mk hh; have B9 := Aside0.mk (below_then (below_drew (Below.refl (W8.alloc (.cells #[.int .i64 0, .int .u64 1, .int .u64 4602678819172646912, .int .u64 4613937818241073152, .int .u64 0, .slice mA5 1 mc5, .slice mA6 0 mc6, .slice mA7 2 mc7, .slice mA8 0 mc8] 31)).heap.size (W8.alloc (.cells #[.int .i64 0, .int .u64 1, .int .u64 4602678819172646912, .int .u64 4613937818241073152, .int .u64 0, .slice mA5 1 mc5, .slice mA6 0 mc6, .slice mA7 2 mc7, .slice mA8 0 mc8] 31)))) (Nat.le_refl _) hb); replace ht3 := fun i => (T3.out.below B9.out).cell i; have ht3b := fun i => ((T3.out.below B9.out).alloc (.cells #[.int .i64 0, .int .u64 0, .int .u64 0, .int .u64 0, .int .u64 0, .slice none 0 0, .slice none 0 0, .slice none 0 0, .slice none 0 0] 31)).cell i; clear hh hb) | (go_at_call 85; (with_reducible refine (fone_x ((W8.alloc (.cells #[.int .i64 0, .int .u64 1, .int .u64 4602678819172646912, .int .u64 4613937818241073152, .int .u64 0, .slice mA5 1 mc5, .slice mA6 0 mc6, .slice mA7 2 mc7, .slice mA8 0 mc8] 31)).alloc (.cells #[.int .i64 0, .int .u64 0, .int .u64 0, .int .u64 0, .int .u64 0, .slice none 0 0, .slice none 0 0, .slice none 0 0, .slice none 0 0] 31)).drew).mono ?_); rintro e W9 ⟨fA5, fc5, fA6, fc6, fA7, fc7, fA8, fc8, rfl, hh, hb⟩; have F := Aside0.mk hh; have B9 := Aside0.mk (below_then (below_drew (below_alloc (Below.refl (W8.alloc (.cells #[.int .i64 0, .int .u64 1, .int .u64 4602678819172646912, .int .u64 4613937818241073152, .int .u64 0, .slice mA5 1 mc5, .slice mA6 0 mc6, .slice mA7 2 mc7, .slice mA8 0 mc8] 31)).heap.size (W8.alloc (.cells #[.int .i64 0, .int .u64 1, .int .u64 4602678819172646912, .int .u64 4613937818241073152, .int .u64 0, .slice mA5 1 mc5, .slice mA6 0 mc6, .slice mA7 2 mc7, .slice mA8 0 mc8] 31))) (.cells #[.int .i64 0, .int .u64 0, .int .u64 0, .int .u64 0, .int .u64 0, .slice none 0 0, .slice none 0 0, .slice none 0 0, .slice none 0 0] 31))) (by simp) hb); have Z9 := Aside0.mk (show Blk W9 (W8.heap.size + 1) #[.int .i64 0, .int .u64 0, .int .u64 0, .int .u64 0, .int .u64 0, .slice none 0 0, .slice none 0 0, .slice none 0 0, .slice none 0 0] 31 from (show Blk ((W8.alloc (.cells #[.int .i64 0, .int .u64 1, .int .u64 4602678819172646912, .int .u64 4613937818241073152, .int .u64 0, .slice mA5 1 mc5, .slice mA6 0 mc6, .slice mA7 2 mc7, .slice mA8 0 mc8] 31)).alloc (.cells #[.int .i64 0, .int .u64 0, .int .u64 0, .int .u64 0, .int .u64 0, .slice none 0 0, .slice none 0 0, .slice none 0 0, .slice none 0 0] 31)) (W8.heap.size + 1) #[.int .i64 0, .int .u64 0, .int .u64 0, .int .u64 0, .int .u64 0, .slice none 0 0, .slice none 0 0, .slice none 0 0, .slice none 0 0] 31 from Blk.at1 (w := W8) (.cells #[.int .i64 0, .int .u64 1, .int .u64 4602678819172646912, .int .u64 4613937818241073152, .int .u64 0, .slice mA5 1 mc5, .slice mA6 0 mc6, .slice mA7 2 mc7, .slice mA8 0 mc8] 31) #[.int .i64 0, .int .u64 0, .int .u64 0, .int .u64 0, .int .u64 0, .slice none 0 0, .slice none 0 0, .slice none 0 0, .slice none 0 0] 31).below (below_then (below_drew (Below.refl _ _)) (Nat.le_refl _) hb)); have HL9 := Aside0.mk (blk_lt Z9.out); replace ht3 := fun i => (T3.out.below B9.out).cell i; clear hh hb) | (go_at_call 89; (with_reducible refine (fover_x W9 _ _ (C.out.below B9.out) F.out.spans).mono ?_); rintro e W10 ⟨rA5, rc5, rA6, rc6, rA7, rc7, rA8, rc8, rfl, hh, hb⟩; have R := Aside0.mk hh; have B10 := Aside0.mk (below_then B9.out B9.out.size hb); (try (replace Z9 := Aside0.mk (Z9.out.below hb); have hz := fun i => Z9.out.cell i; have hzf := fun i => blk_frozen Z9.out i)); replace ht3 := fun i => (T3.out.below B10.out).cell i; clear hh hb) | (go_at_call 89; (with_reducible refine (fover_x (W9.alloc (.cells #[.int .i64 0, .int .u64 0, .int .u64 0, .int .u64 0, .int .u64 0, .slice none 0 0, .slice none 0 0, .slice none 0 0, .slice none 0 0] 31)) _ _ (C.out.below (below_then B9.out B9.out.size (below_alloc (Below.refl _ _) _))) (F.out.below (below_alloc (Below.refl _ _) _)).spans).mono ?_); rintro e W10 ⟨rA5, rc5, rA6, rc6, rA7, rc7, rA8, rc8, rfl, hh, hb⟩; have R := Aside0.mk hh; have B10 := Aside0.mk (below_then (below_then B9.out B9.out.size (below_alloc (Below.refl _ _) _)) (below_then B9.out B9.out.size (below_alloc (Below.refl _ _) _)).size hb); have Z9 := Aside0.mk (show Blk W10 W9.heap.size #[.int .i64 0, .int .u64 0, .int .u64 0, .int .u64 0, .int .u64 0, .slice none 0 0, .slice none 0 0, .slice none 0 0, .slice none 0 0] 31 from (Blk.new W9 #[.int .i64 0, .int .u64 0, .int .u64 0, .int .u64 0, .int .u64 0, .slice none 0 0, .slice none 0 0, .slice none 0 0, .slice none 0 0] 31).below hb); have hz := fun i => Z9.out.cell i; have hzf := fun i => blk_frozen Z9.out i; replace ht3 := fun i => (T3.out.below B10.out).cell i; clear hh hb))
    all_goals go_wp2_with fail
    all_goals go_meet
    all_goals (first | exact ⟨rfl, _, rfl, ⟨B10.out.size, B10.out.alloc B10.out.size _, _, _, _, _, _, _, _, _, Blk.new W10 _ _, R.out.now.below (below_alloc (Below.refl _ _) _)⟩⟩ | exact ⟨rfl, _, rfl, ⟨B9.out.size, nine_below B10.out B9.out.size _ _ _ _ _ _ _ _ _, _, _, _, _, _, _, _, _, nine Z9.out _ _ _ _ _ _ _ _ _, (R.out.step (nine_ka (KA.refl _ _) (by simp) _ _ _ _ _ _ _ _ _)).now⟩⟩ | exact ⟨rfl, _, rfl, ⟨by simp, nine_below B10.out (by simp) _ _ _ _ _ _ _ _ _, _, _, _, _, _, _, _, _, nine Z9.out _ _ _ _ _ _ _ _ _, (R.out.step (nine_ka (KA.refl _ _) HL9.out _ _ _ _ _ _ _ _ _)).now⟩⟩)
  case rest =>
    obtain ⟨rfl, g, rfl, HG⟩ := hcut
    obtain ⟨hg, hbb, rA5, rc5, rA6, rc6, rA7, rc7, rA8, rc8, t8, hr⟩ := HG.out
    replace B := Aside0.mk (below_then B.out B.out.size hbb)
    replace C := Aside0.mk (C.out.below hbb)
    replace Bd := Aside0.mk (Bd.out.below hbb)
    replace M := Aside0.mk (M.out.below hbb)
    have R := Aside0.mk hr
    replace T3 := Aside0.mk (T3.out.below hbb)
    replace T5 := Aside0.mk (T5.out.below hbb)
    replace T6 := Aside0.mk (T6.out.below hbb)
    have T8 := Aside0.mk t8
    replace ht3 := fun i => T3.out.cell i
    have ht5 := fun i => T5.out.cell i
    have ht6 := fun i => T6.out.cell i
    have ht8 := fun i => T8.out.cell i
    clear hg hbb t8 hr HG
    go_wp2_with fail
    refine (whole_three wc).mono ?_
    rintro e U1 ⟨rfl, hb⟩
    replace B := Aside0.mk (below_then B.out B.out.size hb)
    replace C := Aside0.mk (C.out.below hb)
    replace Bd := Aside0.mk (Bd.out.below hb)
    replace M := Aside0.mk (M.out.below hb)
    replace R := Aside0.mk (R.out.below hb)
    replace T3 := Aside0.mk (T3.out.below hb)
    replace ht3 := fun i => T3.out.cell i
    replace T5 := Aside0.mk (T5.out.below hb)
    replace ht5 := fun i => T5.out.cell i
    replace T6 := Aside0.mk (T6.out.below hb)
    replace ht6 := fun i => T6.out.cell i
    replace T8 := Aside0.mk (T8.out.below hb)
    replace ht8 := fun i => T8.out.cell i
    clear hb
    go_wp2_with fail
    refine (whole_half U1).mono ?_
    rintro e U2 ⟨rfl, hb⟩
    replace B := Aside0.mk (below_then B.out B.out.size hb)
    replace C := Aside0.mk (C.out.below hb)
    replace Bd := Aside0.mk (Bd.out.below hb)
    replace M := Aside0.mk (M.out.below hb)
    replace R := Aside0.mk (R.out.below hb)
    replace T3 := Aside0.mk (T3.out.below hb)
    replace ht3 := fun i => T3.out.cell i
    replace T5 := Aside0.mk (T5.out.below hb)
    replace ht5 := fun i => T5.out.cell i
    replace T6 := Aside0.mk (T6.out.below hb)
    replace ht6 := fun i => T6.out.cell i
    replace T8 := Aside0.mk (T8.out.below hb)
    replace ht8 := fun i => T8.out.cell i
    clear hb
    go_wp2_with fail
    refine (fone_x U2).mono ?_
    rintro e U3 ⟨zA5, zc5, zA6, zc6, zA7, zc7, zA8, zc8, rfl, hh, hb⟩
    replace B := Aside0.mk (below_then B.out B.out.size hb)
    replace C := Aside0.mk (C.out.below hb)
    replace Bd := Aside0.mk (Bd.out.below hb)
    replace M := Aside0.mk (M.out.below hb)
    replace R := Aside0.mk (R.out.below hb)
    replace T3 := Aside0.mk (T3.out.below hb)
    replace ht3 := fun i => T3.out.cell i
    replace T5 := Aside0.mk (T5.out.below hb)
    replace ht5 := fun i => T5.out.cell i
    replace T6 := Aside0.mk (T6.out.below hb)
    replace ht6 := fun i => T6.out.cell i
    replace T8 := Aside0.mk (T8.out.below hb)
    replace ht8 := fun i => T8.out.cell i
    have Z := Aside0.mk hh
    clear hb hh
    go_wp2_with fail
    refine (back10 U3 _ Z.out).mono ?_
    rintro e U4 ⟨rfl, hb⟩
    replace B := Aside0.mk (below_then B.out B.out.size hb)
    replace C := Aside0.mk (C.out.below hb)
    replace Bd := Aside0.mk (Bd.out.below hb)
    replace M := Aside0.mk (M.out.below hb)
    replace R := Aside0.mk (R.out.below hb)
    replace Z := Aside0.mk (Z.out.below hb)
    replace T3 := Aside0.mk (T3.out.below hb)
    replace ht3 := fun i => T3.out.cell i
    replace T5 := Aside0.mk (T5.out.below hb)
    replace ht5 := fun i => T5.out.cell i
    replace T6 := Aside0.mk (T6.out.below hb)
    replace ht6 := fun i => T6.out.cell i
    replace T8 := Aside0.mk (T8.out.below hb)
    replace ht8 := fun i => T8.out.cell i
    clear hb
    clear Z
    have hbw := below_alloc (Below.refl U4.heap.size U4) (.cells #[.int .i64 0, .int .u64 0, .int .u64 0, .int .u64 0, .int .u64 0, .slice none 0 0, .slice none 0 0, .slice none 0 0, .slice none 0 0] 26)
    replace B := Aside0.mk (below_then B.out B.out.size hbw)
    replace C := Aside0.mk (C.out.below hbw)
    replace Bd := Aside0.mk (Bd.out.below hbw)
    replace M := Aside0.mk (M.out.below hbw)
    replace R := Aside0.mk (R.out.below hbw)
    replace T3 := Aside0.mk (T3.out.below hbw)
    replace T5 := Aside0.mk (T5.out.below hbw)
    replace T6 := Aside0.mk (T6.out.below hbw)
    replace T8 := Aside0.mk (T8.out.below hbw)
    replace ht3 := fun i => T3.out.cell i
    replace ht5 := fun i => T5.out.cell i
    replace ht6 := fun i => T6.out.cell i
    replace ht8 := fun i => T8.out.cell i
    clear hbw
    go_wp2_with fail
    go_region_held3 (fun W => (∀ i, W.cell? ⟨w4.heap.size, i, none⟩ = (#[.int .i64 0, .int .u64 1, .int .u64 4602678819172646912, .int .u64 4613937818241073152, .int .u64 0, .slice cA5 1 cc5, .slice cA6 0 cc6, .slice cA7 1 cc7, .slice cA8 0 cc8] : Array Value)[i]?) ∧ (∀ i, W.cell? ⟨W5.heap.size, i, none⟩ = (#[.int .i64 0, .int .u64 1, .int .u64 4602678819172646912, .int .u64 9223372036854775808, .int .u64 0, .slice bA5 1 bc5, .slice bA6 0 bc6, .slice bA7 2 bc7, .slice bA8 0 bc8] : Array Value)[i]?) ∧ (∀ i, W.cell? ⟨W8.heap.size, i, none⟩ = (#[.int .i64 0, .int .u64 1, .int .u64 4602678819172646912, .int .u64 4613937818241073152, .int .u64 0, .slice mA5 1 mc5, .slice mA6 0 mc6, .slice mA7 2 mc7, .slice mA8 0 mc8] : Array Value)[i]?) ∧ (∀ i, W.cell? ⟨g, i, none⟩ = (#[.int .i64 0, .int .u64 1, .int .u64 4602678819172646912, .int .u64 4613937818241073152, .int .u64 0, .slice rA5 1 rc5, .slice rA6 0 rc6, .slice rA7 2 rc7, .slice rA8 0 rc8] : Array Value)[i]?)) (exact ⟨fun i => T3.out.cell i, fun i => T5.out.cell i, fun i => T6.out.cell i, fun i => T8.out.cell i⟩) (first | (go_at_call 85; (with_reducible refine (fone_x (U4.alloc (.cells #[.int .i64 0, .int .u64 0, .int .u64 0, .int .u64 0, .int .u64 0, .slice none 0 0, .slice none 0 0, .slice none 0 0, .slice none 0 0] 26)).drew).mono ?_); rintro e V1 ⟨xA5, xc5, xA6, xc6, xA7, xc7, xA8, xc8, rfl, hh, hb⟩; have hb0 := hb; have hb := below_then (below_drew (Below.refl (U4.alloc (.cells #[.int .i64 0, .int .u64 0, .int .u64 0, .int .u64 0, .int .u64 0, .slice none 0 0, .slice none 0 0, .slice none 0 0, .slice none 0 0] 26)).heap.size (U4.alloc (.cells #[.int .i64 0, .int .u64 0, .int .u64 0, .int .u64 0, .int .u64 0, .slice none 0 0, .slice none 0 0, .slice none 0 0, .slice none 0 0] 26)))) ((below_drew (Below.refl (U4.alloc (.cells #[.int .i64 0, .int .u64 0, .int .u64 0, .int .u64 0, .int .u64 0, .slice none 0 0, .slice none 0 0, .slice none 0 0, .slice none 0 0] 26)).heap.size (U4.alloc (.cells #[.int .i64 0, .int .u64 0, .int .u64 0, .int .u64 0, .int .u64 0, .slice none 0 0, .slice none 0 0, .slice none 0 0, .slice none 0 0] 26))))).size hb; replace B := Aside0.mk (below_then B.out B.out.size hb); replace C := Aside0.mk (C.out.below hb); replace Bd := Aside0.mk (Bd.out.below hb); replace M := Aside0.mk (M.out.below hb); replace R := Aside0.mk (R.out.below hb); replace T3 := Aside0.mk (T3.out.below hb); replace ht3 := fun i => T3.out.cell i; replace T5 := Aside0.mk (T5.out.below hb); replace ht5 := fun i => T5.out.cell i; replace T6 := Aside0.mk (T6.out.below hb); replace ht6 := fun i => T6.out.cell i; replace T8 := Aside0.mk (T8.out.below hb); replace ht8 := fun i => T8.out.cell i; have X1 := Aside0.mk hh; clear hb hb0 hh) | (go_at_call 90; (with_reducible refine (fequal_x oneF oneF oneF_wf oneF_wf true aw10_6 V1 _ _ M.out X1.out).mono ?_); rintro e V2 ⟨rfl, hb⟩; replace B := Aside0.mk (below_then B.out B.out.size hb); replace C := Aside0.mk (C.out.below hb); replace Bd := Aside0.mk (Bd.out.below hb); replace M := Aside0.mk (M.out.below hb); replace R := Aside0.mk (R.out.below hb); replace X1 := Aside0.mk (X1.out.below hb); replace T3 := Aside0.mk (T3.out.below hb); replace ht3 := fun i => T3.out.cell i; replace T5 := Aside0.mk (T5.out.below hb); replace ht5 := fun i => T5.out.cell i; replace T6 := Aside0.mk (T6.out.below hb); replace ht6 := fun i => T6.out.cell i; replace T8 := Aside0.mk (T8.out.below hb); replace ht8 := fun i => T8.out.cell i; clear hb) | (go_at_call 90; (with_reducible refine (fequal_x oneF canF oneF_wf canF_wf true aw10_7 V2 _ _ R.out C.out).mono ?_); rintro e V3 ⟨rfl, hb⟩; replace B := Aside0.mk (below_then B.out B.out.size hb); replace C := Aside0.mk (C.out.below hb); replace Bd := Aside0.mk (Bd.out.below hb); replace M := Aside0.mk (M.out.below hb); replace R := Aside0.mk (R.out.below hb); replace T3 := Aside0.mk (T3.out.below hb); replace ht3 := fun i => T3.out.cell i; replace T5 := Aside0.mk (T5.out.below hb); replace ht5 := fun i => T5.out.cell i; replace T6 := Aside0.mk (T6.out.below hb); replace ht6 := fun i => T6.out.cell i; replace T8 := Aside0.mk (T8.out.below hb); replace ht8 := fun i => T8.out.cell i; clear hb) | (go_at_call 85; (with_reducible refine (fone_x V3).mono ?_); rintro e V4 ⟨yA5, yc5, yA6, yc6, yA7, yc7, yA8, yc8, rfl, hh, hb⟩; replace B := Aside0.mk (below_then B.out B.out.size hb); replace C := Aside0.mk (C.out.below hb); replace Bd := Aside0.mk (Bd.out.below hb); replace M := Aside0.mk (M.out.below hb); replace R := Aside0.mk (R.out.below hb); replace T3 := Aside0.mk (T3.out.below hb); replace ht3 := fun i => T3.out.cell i; replace T5 := Aside0.mk (T5.out.below hb); replace ht5 := fun i => T5.out.cell i; replace T6 := Aside0.mk (T6.out.below hb); replace ht6 := fun i => T6.out.cell i; replace T8 := Aside0.mk (T8.out.below hb); replace ht8 := fun i => T8.out.cell i; have X4 := Aside0.mk hh; clear hb hh) | (go_at_call 90; (with_reducible refine (fequal_x oneF badF oneF_wf badF_wf false aw10_8 V4 _ _ X4.out Bd.out).mono ?_); rintro e V5 ⟨rfl, hb⟩; replace B := Aside0.mk (below_then B.out B.out.size hb); replace C := Aside0.mk (C.out.below hb); replace Bd := Aside0.mk (Bd.out.below hb); replace M := Aside0.mk (M.out.below hb); replace R := Aside0.mk (R.out.below hb); replace X4 := Aside0.mk (X4.out.below hb); replace T3 := Aside0.mk (T3.out.below hb); replace ht3 := fun i => T3.out.cell i; replace T5 := Aside0.mk (T5.out.below hb); replace ht5 := fun i => T5.out.cell i; replace T6 := Aside0.mk (T6.out.below hb); replace ht6 := fun i => T6.out.cell i; replace T8 := Aside0.mk (T8.out.below hb); replace ht8 := fun i => T8.out.cell i; clear hb) | (go_at_call 31; (with_reducible refine (float_three V5).mono ?_); rintro e V6 ⟨rfl, hb⟩; replace B := Aside0.mk (below_then B.out B.out.size hb); replace C := Aside0.mk (C.out.below hb); replace Bd := Aside0.mk (Bd.out.below hb); replace M := Aside0.mk (M.out.below hb); replace R := Aside0.mk (R.out.below hb); replace T3 := Aside0.mk (T3.out.below hb); replace ht3 := fun i => T3.out.cell i; replace T5 := Aside0.mk (T5.out.below hb); replace ht5 := fun i => T5.out.cell i; replace T6 := Aside0.mk (T6.out.below hb); replace ht6 := fun i => T6.out.cell i; replace T8 := Aside0.mk (T8.out.below hb); replace ht8 := fun i => T8.out.cell i; clear hb) | (go_at_call 82; (with_reducible refine (right10 V6).mono ?_); rintro e V7 ⟨rfl, hb⟩; replace B := Aside0.mk (below_then B.out B.out.size hb); replace C := Aside0.mk (C.out.below hb); replace Bd := Aside0.mk (Bd.out.below hb); replace M := Aside0.mk (M.out.below hb); replace R := Aside0.mk (R.out.below hb); replace T3 := Aside0.mk (T3.out.below hb); replace ht3 := fun i => T3.out.cell i; replace T5 := Aside0.mk (T5.out.below hb); replace ht5 := fun i => T5.out.cell i; replace T6 := Aside0.mk (T6.out.below hb); replace ht6 := fun i => T6.out.cell i; replace T8 := Aside0.mk (T8.out.below hb); replace ht8 := fun i => T8.out.cell i; clear hb))
    all_goals go_wp2
    all_goals go_ret
    all_goals exact ⟨rfl, B.out⟩
end Go.Proofs.Ytfbjjbbhnmoolaa.P
namespace Go.Proofs.Ytfbjjbbhnmoolaa.P
open Go.RowKit Go.Shelf Go.Proofs.YtfbjjbbhnmoolaaW.PrintWords Go.Proofs.YtfbjjbbhnmoolaaW.PrintLast Go.Proofs.YtfbjjbbhnmoolaaW.PrintMore
def wfG (h : Fh) : Prop := i64 h.f0 ∧ u64 h.f1 ∧ u64 h.f2 ∧ u64 h.f3 ∧ u64 h.f4 ∧ wfSps h.f5 ∧ wfSps h.f6 ∧ u64s h.f7 ∧ u64s h.f8
instance (h : Fh) : Decidable (wfG h) := by unfold wfG; exact inferInstance
end Go.Proofs.Ytfbjjbbhnmoolaa.P
namespace Go.Proofs.Ytfbjjbbhnmoolaa.P
open Go.RowKit Go.Shelf Go.Proofs.YtfbjjbbhnmoolaaW.PrintWords Go.Proofs.YtfbjjbbhnmoolaaW.PrintLast Go.Proofs.YtfbjjbbhnmoolaaW.PrintMore
theorem alike10_eq (l : List Sp) (hm : l.length < 17592186044416) (k : Nat) (hk : l.length < k) : tidepolelaw10_alike.f k l l = some true := by
  unfold tidepolelaw10_alike.f
  rw [if_pos rfl]
  have : ∀ (d k i : Nat), l.length - i = d → d < k → i ≤ l.length → tidepolelaw10_alike.l0 k l l (l.length : Int) (i : Int) = some true := by
    intro d
    induction d with
    | zero =>
      intro k i hd hk hi
      obtain ⟨k, rfl⟩ : ∃ m, k = m + 1 := ⟨k - 1, by omega⟩
      rw [tidepolelaw10_alike.l0, if_neg (by omega)]
    | succ d ih =>
      intro k i hd hk hi
      obtain ⟨k, rfl⟩ : ∃ m, k = m + 1 := ⟨k - 1, by omega⟩
      rw [tidepolelaw10_alike.l0, if_pos (by omega), if_pos (by omega), if_pos (by omega), if_pos (by omega), if_neg (by simp), wrap_succ (by omega)]
      exact ih k (i + 1) (by omega) (by omega) (by omega)
  exact this l.length k 0 (by omega) (by omega) (by omega)
theorem alike10_c (l : List Sp) (hl : l.length ≤ 4096) (w : World) (u v : Value) (hu : SI kSp w u l) (hv : SI kSp w v l) : Calls Try.prog 40 #[u, v] w fun e w' => e = .returned (.bool true) ∧ Below w.heap.size w w' := by
  obtain ⟨A, c, rfl, hcc, hr⟩ := hu
  obtain ⟨A1, c1, rfl, hcc1, hr1⟩ := hv
  exact (tidepolelaw10_alike.calls (l.length + 1) A c l A1 c1 l true w hr hcc hr1 hcc1 (alike10_eq l (by omega) _ (by omega))).mono fun e w1 h => ⟨h.1, h.2.below⟩
theorem empty10_x (a5 a6 a7 a8 : Option Addr) (c5 c6 c7 c8 : Nat) (w : World) :
    Calls Try.prog 43 #[.agg #[.int .i64 0, .int .u64 0, .int .u64 0, .int .u64 0, .int .u64 0, .slice a5 0 c5, .slice a6 0 c6, .slice a7 0 c7, .slice a8 0 c8]] w fun e w' => e = .returned (.bool true) ∧ Below w.heap.size w w' := by
  have hu := Try.underlying31
  go_enter Try.func43, Try.ntmps43
  go_wp2
  go_ret
  exact ⟨rfl, below_alloc (Below.refl _ _) _⟩
end Go.Proofs.Ytfbjjbbhnmoolaa.P
namespace Go.Proofs.Ytfbjjbbhnmoolaa.P
open Go.RowKit Go.Proofs.YtfbjjbbhnmoolaaW.PrintWords Go.Proofs.YtfbjjbbhnmoolaaW.PrintLast Go.Proofs.YtfbjjbbhnmoolaaW.PrintMore
attribute [local go_sem] max2_int min2_int max_two min_two max_three min_three max_four min_four
def tidepolelaw10_whole.f (k : Nat) (a0_0 : Int) (a0_1 : Int) (a0_2 : Int) (a0_3 : Int) (a0_4 : Int) (l0_5 : List (S86)) (l0_6 : List (S86)) (l0_7 : List Int) (l0_8 : List Int) : Option (Int × Int × Int × Int × Int × (List (S117)) × (List (S117)) × List Int × List Int) := (tidepolelaw10_spans.f k l0_5).bind fun t103 => ((tidepolelaw10_spans.f k l0_6).bind fun t106 => (some (a0_0, a0_1, a0_2, a0_3, a0_4, t103, t106, l0_7, l0_8)))
def tidepolelaw10_whole.T1 : Bool × List (List Nat × List Nat) := (true, [([], []), ([0], [0]), ([], []), ([2], [2]), ([], []), ([4], [4]), ([], []), ([6], [6]), ([], []), ([8], [8]), ([], []), ([10], [10]), ([11], [11]), ([], []), ([13], [13]), ([14, 12], [14]), ([], []), ([16], [16]), ([], []), ([18], [18]), ([1, 3, 5, 7, 9, 12, 15, 17, 19], [1, 3, 5, 7, 9, 12, 15, 17, 19]), ([20, 15, 0, 1, 2, 3, 4, 5, 6, 7, 8, 9, 10, 11, 12, 13, 14, 15, 16, 17, 18, 19, 20], [20])])
def tidepolelaw10_whole.B1 : List Nat := [0, 1, 0, 4, 0, 16, 0, 64, 0, 256, 0, 1024, 3072, 0, 8192, 31744, 0, 65536, 0, 262144, 1048575, 2097151]
theorem tidepolelaw10_whole.tab1 : rtab .any (opsOf Try.f42 1) = tidepolelaw10_whole.T1 := by kernel_rfl
theorem tidepolelaw10_whole.bits1 : waitsOk tidepolelaw10_whole.T1.2 tidepolelaw10_whole.B1 = true := by kernel_rfl
set_option maxHeartbeats 8000000 in
set_option maxRecDepth 100000 in
theorem tidepolelaw10_whole.calls (k : Nat) (a0_0 : Int) (a0_1 : Int) (a0_2 : Int) (a0_3 : Int) (a0_4 : Int) (A0_5 : Option Addr) (c0_5 : Nat) (l0_5 : List (S86)) (A0_6 : Option Addr) (c0_6 : Nat) (l0_6 : List (S86)) (P0_7_ : Nat → Prop) (A0_7 : Option Addr) (c0_7 : Nat) (l0_7 : List Int) (P0_8_ : Nat → Prop) (A0_8 : Option Addr) (c0_8 : Nat) (l0_8 : List Int) (r1 : Int) (r2 : Int) (r3 : Int) (r4 : Int) (r5 : Int) (r6 : List (S117)) (r7 : List (S117)) (r8 : List Int) (r9 : List Int) (w : World) (hr0_5 : Kd.C k86 w A0_5 l0_5.length l0_5) (hc0_5 : l0_5.length ≤ c0_5) (hr0_6 : Kd.C k86 w A0_6 l0_6.length l0_6) (hc0_6 : l0_6.length ≤ c0_6) (hs0_7 : Kd.V (Kd.int .i64) 2 w w.heap.size (fun k_ => P0_7_ k_) (.slice A0_7 l0_7.length c0_7) l0_7) (hs0_8 : Kd.V (Kd.int .i64) 2 w w.heap.size (fun k_ => P0_8_ k_) (.slice A0_8 l0_8.length c0_8) l0_8) (h : tidepolelaw10_whole.f k a0_0 a0_1 a0_2 a0_3 a0_4 l0_5 l0_6 l0_7 l0_8 = some (r1, r2, r3, r4, r5, r6, r7, r8, r9)) :
  Calls Try.prog 42 #[.agg #[.int .i64 a0_0, .int .u64 a0_1, .int .u64 a0_2, .int .u64 a0_3, .int .u64 a0_4, .slice A0_5 l0_5.length c0_5, .slice A0_6 l0_6.length c0_6, .slice A0_7 l0_7.length c0_7, .slice A0_8 l0_8.length c0_8]] w fun e w' => ∃ v5_ v6_ v7_ v8_ : Value, e = .returned (.agg #[.int .i64 r1, .int .u64 r2, .int .u64 r3, .int .u64 r4, .int .u64 r5, v5_, v6_, v7_, v8_]) ∧ Kd.R k117 117 w' w.heap.size (fun k_ => (w.heap.size ≤ k_) ∧ some k_ ≠ (v6_ : Value).ownBlock) v5_ r6 ∧ Kd.R k117 117 w' w.heap.size (fun k_ => (w.heap.size ≤ k_) ∧ some k_ ≠ (v5_ : Value).ownBlock) v6_ r7 ∧ Kd.V (Kd.int .i64) 2 w' w.heap.size (fun k_ => ((P0_7_ k_ ∨ P0_8_ k_) ∨ w.heap.size ≤ k_) ∧ some k_ ≠ (v5_ : Value).ownBlock ∧ some k_ ≠ (v6_ : Value).ownBlock) v7_ r8 ∧ Kd.V (Kd.int .i64) 2 w' w.heap.size (fun k_ => ((P0_7_ k_ ∨ P0_8_ k_) ∨ w.heap.size ≤ k_) ∧ some k_ ≠ (v5_ : Value).ownBlock ∧ some k_ ≠ (v6_ : Value).ownBlock) v8_ r9 ∧ Below w.heap.size w w' := by
 have hu26 := Try.underlying26
 have hu45 := Try.underlying45
 have HR0_5 := Aside0.mk hr0_5
 have HC0_5 := Aside0.mk hc0_5
 clear hr0_5 hc0_5
 have HR0_6 := Aside0.mk hr0_6
 have HC0_6 := Aside0.mk hc0_6
 clear hr0_6 hc0_6
 have HO0_7 := Aside0.mk (show Kd.V (Kd.int .i64) 2 w w.heap.size (fun k_ => ((P0_7_ k_ ∨ P0_8_ k_) ∨ w.heap.size ≤ k_)) (.slice A0_7 l0_7.length c0_7) l0_7 from Kd.V_mono hs0_7 (fun k_ hk => .inl (.inl hk)))
 have HO0_8 := Aside0.mk (show Kd.V (Kd.int .i64) 2 w w.heap.size (fun k_ => ((P0_7_ k_ ∨ P0_8_ k_) ∨ w.heap.size ≤ k_)) (.slice A0_8 l0_8.length c0_8) l0_8 from Kd.V_mono hs0_8 (fun k_ hk => .inl (.inr hk)))
 have HB := Aside0.mk (Below.refl w.heap.size w)
 have H : ((tidepolelaw10_spans.f k l0_5).bind fun t103 => ((tidepolelaw10_spans.f k l0_6).bind fun t106 => (some (a0_0, a0_1, a0_2, a0_3, a0_4, t103, t106, l0_7, l0_8)))) = some (r1, r2, r3, r4, r5, r6, r7, r8, r9) := h
 clear h
 replace H := Option.bind_eq_some_iff.mp H
 obtain ⟨t103, A20, H⟩ := H
 replace H : ((tidepolelaw10_spans.f k l0_6).bind fun t106 => (some (a0_0, a0_1, a0_2, a0_3, a0_4, t103, t106, l0_7, l0_8))) = some (r1, r2, r3, r4, r5, r6, r7, r8, r9) := H
 have A2 := Aside0.mk A20
 clear A20
 replace H := Option.bind_eq_some_iff.mp H
 obtain ⟨t106, A30, H⟩ := H
 replace H : (some (a0_0, a0_1, a0_2, a0_3, a0_4, t103, t106, l0_7, l0_8)) = some (r1, r2, r3, r4, r5, r6, r7, r8, r9) := H
 have A3 := Aside0.mk A30
 clear A30
 simp only [Option.some.injEq, Prod.mk.injEq] at H
 obtain ⟨rfl, rfl, rfl, rfl, rfl, rfl, rfl, rfl, rfl⟩ := H
 go_enter Try.func42, Try.ntmps42
 try go_wp2_with (first | ((with_reducible refine gate_dst (N := 1) rfl ?_); refine box_event ?hg (N := 1) ?hd (cs := #[.int .i64 a0_0, .int .u64 a0_1, .int .u64 a0_2, .int .u64 a0_3, .int .u64 a0_4, .slice A0_5 l0_5.length c0_5, .slice A0_6 l0_6.length c0_6, .slice A0_7 l0_7.length c0_7, .slice A0_8 l0_8.length c0_8]) (t := 26) ?hr ?_; (case hd => rfl); (case hg => rfl); (case hr => first | (go_simp; done) | (go_simp; rfl)); intro gb101 hg w4 hbox hb; have BK101 := Aside0.mk (hbox); have GW101 := Aside0.mk ((by rw [hg]; exact (below_size (below_u HB.out)) : w.heap.size ≤ gb101)); have GE101 := Aside0.mk ((by rw [hg]; exact (below_size (below_u HB.out)) : w.heap.size ≤ gb101)); replace HO0_7 := Aside0.mk (Kd.V_below (Kd.V_elderB (by (with_reducible repeat (first | apply Kd.V_alloc | apply Kd.V_drewN | apply Kd.V_drew)); exact HO0_7.out) gb101 (Nat.le_of_eq hg.symm)) hb); replace HO0_8 := Aside0.mk (Kd.V_below (Kd.V_elderB (by (with_reducible repeat (first | apply Kd.V_alloc | apply Kd.V_drewN | apply Kd.V_drew)); exact HO0_8.out) gb101 (Nat.le_of_eq hg.symm)) hb); replace HB := Aside0.mk (below_step (below_u HB.out) hb); clear hb hbox hg) | ((with_reducible refine gate_dst (N := 2) rfl ?_); refine box_event ?hg (N := 2) ?hd (cs := #[.int .i64 0, .int .u64 0, .int .u64 0, .int .u64 0, .int .u64 0, .slice none 0 0, .slice none 0 0, .slice none 0 0, .slice none 0 0]) (t := 45) ?hr ?_; (case hd => rfl); (case hg => rfl); (case hr => first | (go_simp; done) | (go_simp; rfl)); intro gb102 hg w5 hbox hb; have BK102 := Aside0.mk (hbox); have GW102 := Aside0.mk ((by rw [hg]; exact (below_size (by repeat (first | (with_reducible first | exact HB.out | refine below_q ?_ | refine below_set ?_ GE101.out) | exact HB.out))) : w.heap.size ≤ gb102)); have GE102 := Aside0.mk ((by rw [hg]; exact (below_size (by repeat (first | (with_reducible first | exact HB.out | refine below_q ?_ | refine below_set ?_ GE101.out) | exact HB.out))) : w.heap.size ≤ gb102)); have NB101_102 := Aside0.mk ((by rw [hg]; exact Nat.ne_of_lt (blk_lt (g := gb101) (o := .cells #[.int .i64 a0_0, .int .u64 a0_1, .int .u64 a0_2, .int .u64 a0_3, .int .u64 a0_4, .slice A0_5 l0_5.length c0_5, .slice A0_6 l0_6.length c0_6, .slice A0_7 l0_7.length c0_7, .slice A0_8 l0_8.length c0_8] 26 (0, 0)) (blk_u BK101.out)) : gb101 ≠ gb102)); have NB102_101 := Aside0.mk ((by rw [hg]; exact Nat.ne_of_gt (blk_lt (g := gb101) (o := .cells #[.int .i64 a0_0, .int .u64 a0_1, .int .u64 a0_2, .int .u64 a0_3, .int .u64 a0_4, .slice A0_5 l0_5.length c0_5, .slice A0_6 l0_6.length c0_6, .slice A0_7 l0_7.length c0_7, .slice A0_8 l0_8.length c0_8] 26 (0, 0)) (blk_u BK101.out)) : gb102 ≠ gb101)); replace HO0_7 := Aside0.mk (Kd.V_below (Kd.V_elderB (by (with_reducible repeat (first | apply Kd.V_alloc | apply Kd.V_drewN | apply Kd.V_drew)); exact HO0_7.out) gb102 (Nat.le_of_eq hg.symm)) hb); replace HO0_8 := Aside0.mk (Kd.V_below (Kd.V_elderB (by (with_reducible repeat (first | apply Kd.V_alloc | apply Kd.V_drewN | apply Kd.V_drew)); exact HO0_8.out) gb102 (Nat.le_of_eq hg.symm)) hb); replace BK101 := Aside0.mk (blk_ub BK101.out hb); replace HB := Aside0.mk (below_step (by repeat (first | (with_reducible first | exact HB.out | refine below_q ?_ | refine below_set ?_ GE101.out) | exact HB.out)) hb); clear hb hbox hg))
 have n0_ := Aside0.mk (Kd.V_drew HO0_7.out)
 have n1_ := Aside0.mk (Kd.V_drew HO0_8.out)
 have n2_ := Aside0.mk (blk_drew BK101.out)
 have n3_ := Aside0.mk (blk_drew BK102.out)
 have n4_ := Aside0.mk (below_drew1 HB.out)
 clear HO0_7
 clear HO0_8
 clear BK101
 clear BK102
 clear HB
 have HO0_7 := n0_
 have HO0_8 := n1_
 have BK101 := n2_
 have BK102 := n3_
 have HB := n4_
 clear n0_ n1_ n2_ n3_ n4_
 refine start_ (n := 22) (S := fun w' => w'.cell? ⟨gb101, 0, none⟩ = some (.int .i64 a0_0) ∧ w'.cell? ⟨gb101, 1, none⟩ = some (.int .u64 a0_1) ∧ w'.cell? ⟨gb101, 2, none⟩ = some (.int .u64 a0_2) ∧ w'.cell? ⟨gb101, 3, none⟩ = some (.int .u64 a0_3) ∧ w'.cell? ⟨gb101, 4, none⟩ = some (.int .u64 a0_4) ∧ w'.cell? ⟨gb101, 5, none⟩ = some (.slice A0_5 l0_5.length c0_5) ∧ w'.cell? ⟨gb101, 6, none⟩ = some (.slice A0_6 l0_6.length c0_6) ∧ w'.cell? ⟨gb101, 7, none⟩ = some (.slice A0_7 l0_7.length c0_7) ∧ w'.cell? ⟨gb101, 8, none⟩ = some (.slice A0_8 l0_8.length c0_8)) (ds := []) #[false, false, false, false, false, false, false, false, false, false, false, false, false, false, false, false, false, false, false, false, false, false] (by kernel_rfl) rfl rfl ⟨(blk_cell BK101.out 0).trans rfl, (blk_cell BK101.out 1).trans rfl, (blk_cell BK101.out 2).trans rfl, (blk_cell BK101.out 3).trans rfl, (blk_cell BK101.out 4).trans rfl, (blk_cell BK101.out 5).trans rfl, (blk_cell BK101.out 6).trans rfl, (blk_cell BK101.out 7).trans rfl, (blk_cell BK101.out 8).trans rfl⟩ (fun hHeld => ?_); refine with_tabW tidepolelaw10_whole.tab1 tidepolelaw10_whole.bits1 (fun HT_ HW_ => ?_)
 generalize w5.drew = w6 at HO0_7 HO0_8 BK101 BK102 HB hHeld ⊢
 refine pure_ (i := 0) (N := some 3) (v := ?_) (a' := ?_) #[true, false, false, false, false, false, false, false, false, false, false, false, false, false, false, false, false, false, false, false, false, false] rfl rfl (any_of HT_.out (by kernel_rfl)) (fun _ _ _ h => h) (Or.inl ⟨by rfl, ?_⟩) ?_ ?_
 rotate_left
 ·intro w'
  go_simp
  with_reducible rfl
 rotate_left
 ·simp only [Act.put, List.setIfInBounds_toArray, List.set_cons_zero, List.set_cons_succ, i64_w, i32_w]
  rfl
 refine pure_ (i := 2) (N := some 5) (v := ?_) (a' := ?_) #[true, false, true, false, false, false, false, false, false, false, false, false, false, false, false, false, false, false, false, false, false, false] rfl rfl (any_of HT_.out (by kernel_rfl)) (fun _ _ _ h => h) (Or.inl ⟨by rfl, ?_⟩) ?_ ?_
 rotate_left
 ·intro w'
  go_simp
  with_reducible rfl
 rotate_left
 ·simp only [Act.put, List.setIfInBounds_toArray, List.set_cons_zero, List.set_cons_succ, i64_w, i32_w]
  rfl
 refine pure_ (i := 4) (N := some 7) (v := ?_) (a' := ?_) #[true, false, true, false, true, false, false, false, false, false, false, false, false, false, false, false, false, false, false, false, false, false] rfl rfl (any_of HT_.out (by kernel_rfl)) (fun _ _ _ h => h) (Or.inl ⟨by rfl, ?_⟩) ?_ ?_
 rotate_left
 ·intro w'
  go_simp
  with_reducible rfl
 rotate_left
 ·simp only [Act.put, List.setIfInBounds_toArray, List.set_cons_zero, List.set_cons_succ, i64_w, i32_w]
  rfl
 refine pure_ (i := 6) (N := some 9) (v := ?_) (a' := ?_) #[true, false, true, false, true, false, true, false, false, false, false, false, false, false, false, false, false, false, false, false, false, false] rfl rfl (any_of HT_.out (by kernel_rfl)) (fun _ _ _ h => h) (Or.inl ⟨by rfl, ?_⟩) ?_ ?_
 rotate_left
 ·intro w'
  go_simp
  with_reducible rfl
 rotate_left
 ·simp only [Act.put, List.setIfInBounds_toArray, List.set_cons_zero, List.set_cons_succ, i64_w, i32_w]
  rfl
 refine pure_ (i := 8) (N := some 11) (v := ?_) (a' := ?_) #[true, false, true, false, true, false, true, false, true, false, false, false, false, false, false, false, false, false, false, false, false, false] rfl rfl (any_of HT_.out (by kernel_rfl)) (fun _ _ _ h => h) (Or.inl ⟨by rfl, ?_⟩) ?_ ?_
 rotate_left
 ·intro w'
  go_simp
  with_reducible rfl
 rotate_left
 ·simp only [Act.put, List.setIfInBounds_toArray, List.set_cons_zero, List.set_cons_succ, i64_w, i32_w]
  rfl
 refine pure_ (i := 10) (N := some 13) (v := ?_) (a' := ?_) #[true, false, true, false, true, false, true, false, true, false, true, false, false, false, false, false, false, false, false, false, false, false] rfl rfl (any_of HT_.out (by kernel_rfl)) (fun _ _ _ h => h) (Or.inl ⟨by rfl, ?_⟩) ?_ ?_
 rotate_left
 ·intro w'
  go_simp
  with_reducible rfl
 rotate_left
 ·simp only [Act.put, List.setIfInBounds_toArray, List.set_cons_zero, List.set_cons_succ, i64_w, i32_w]
  rfl
 refine pure_ (i := 13) (N := some 16) (v := ?_) (a' := ?_) #[true, false, true, false, true, false, true, false, true, false, true, false, false, true, false, false, false, false, false, false, false, false] rfl rfl (any_of HT_.out (by kernel_rfl)) (fun _ _ _ h => h) (Or.inl ⟨by rfl, ?_⟩) ?_ ?_
 rotate_left
 ·intro w'
  go_simp
  with_reducible rfl
 rotate_left
 ·simp only [Act.put, List.setIfInBounds_toArray, List.set_cons_zero, List.set_cons_succ, i64_w, i32_w]
  rfl
 refine pure_ (i := 16) (N := some 19) (v := ?_) (a' := ?_) #[true, false, true, false, true, false, true, false, true, false, true, false, false, true, false, false, true, false, false, false, false, false] rfl rfl (any_of HT_.out (by kernel_rfl)) (fun _ _ _ h => h) (Or.inl ⟨by rfl, ?_⟩) ?_ ?_
 rotate_left
 ·intro w'
  go_simp
  with_reducible rfl
 rotate_left
 ·simp only [Act.put, List.setIfInBounds_toArray, List.set_cons_zero, List.set_cons_succ, i64_w, i32_w]
  rfl
 refine pure_ (i := 18) (N := some 21) (v := ?_) (a' := ?_) #[true, false, true, false, true, false, true, false, true, false, true, false, false, true, false, false, true, false, true, false, false, false] rfl rfl (any_of HT_.out (by kernel_rfl)) (fun _ _ _ h => h) (Or.inl ⟨by rfl, ?_⟩) ?_ ?_
 rotate_left
 ·intro w'
  go_simp
  with_reducible rfl
 rotate_left
 ·simp only [Act.put, List.setIfInBounds_toArray, List.set_cons_zero, List.set_cons_succ, i64_w, i32_w]
  rfl
 refine take_ (i := 1) (N := some 4) (v := ?_) (a' := ?_) #[true, true, true, false, true, false, true, false, true, false, true, false, false, true, false, false, true, false, true, false, false, false] rfl rfl (take_ofW HT_.out HW_.out (by kernel_rfl)) (fun _ _ _ h => h) (Or.inl ⟨by rfl, ?_⟩) hHeld ?_ ?_
 rotate_left
 ·rintro w' ⟨s0, s1, s2, s3, s4, s5, s6, s7, s8⟩
  go_simp
  with_reducible rfl
 rotate_left
 ·simp only [Act.put, List.setIfInBounds_toArray, List.set_cons_zero, List.set_cons_succ, i64_w, i32_w]
  rfl
 refine take_ (i := 3) (N := some 6) (v := ?_) (a' := ?_) #[true, true, true, true, true, false, true, false, true, false, true, false, false, true, false, false, true, false, true, false, false, false] rfl rfl (take_ofW HT_.out HW_.out (by kernel_rfl)) (fun _ _ _ h => h) (Or.inl ⟨by rfl, ?_⟩) hHeld ?_ ?_
 rotate_left
 ·rintro w' ⟨s0, s1, s2, s3, s4, s5, s6, s7, s8⟩
  go_simp
  with_reducible rfl
 rotate_left
 ·simp only [Act.put, List.setIfInBounds_toArray, List.set_cons_zero, List.set_cons_succ, i64_w, i32_w]
  rfl
 refine take_ (i := 5) (N := some 8) (v := ?_) (a' := ?_) #[true, true, true, true, true, true, true, false, true, false, true, false, false, true, false, false, true, false, true, false, false, false] rfl rfl (take_ofW HT_.out HW_.out (by kernel_rfl)) (fun _ _ _ h => h) (Or.inl ⟨by rfl, ?_⟩) hHeld ?_ ?_
 rotate_left
 ·rintro w' ⟨s0, s1, s2, s3, s4, s5, s6, s7, s8⟩
  go_simp
  with_reducible rfl
 rotate_left
 ·simp only [Act.put, List.setIfInBounds_toArray, List.set_cons_zero, List.set_cons_succ, i64_w, i32_w]
  rfl
 refine take_ (i := 7) (N := some 10) (v := ?_) (a' := ?_) #[true, true, true, true, true, true, true, true, true, false, true, false, false, true, false, false, true, false, true, false, false, false] rfl rfl (take_ofW HT_.out HW_.out (by kernel_rfl)) (fun _ _ _ h => h) (Or.inl ⟨by rfl, ?_⟩) hHeld ?_ ?_
 rotate_left
 ·rintro w' ⟨s0, s1, s2, s3, s4, s5, s6, s7, s8⟩
  go_simp
  with_reducible rfl
 rotate_left
 ·simp only [Act.put, List.setIfInBounds_toArray, List.set_cons_zero, List.set_cons_succ, i64_w, i32_w]
  rfl
 refine take_ (i := 9) (N := some 12) (v := ?_) (a' := ?_) #[true, true, true, true, true, true, true, true, true, true, true, false, false, true, false, false, true, false, true, false, false, false] rfl rfl (take_ofW HT_.out HW_.out (by kernel_rfl)) (fun _ _ _ h => h) (Or.inl ⟨by rfl, ?_⟩) hHeld ?_ ?_
 rotate_left
 ·rintro w' ⟨s0, s1, s2, s3, s4, s5, s6, s7, s8⟩
  go_simp
  with_reducible rfl
 rotate_left
 ·simp only [Act.put, List.setIfInBounds_toArray, List.set_cons_zero, List.set_cons_succ, i64_w, i32_w]
  rfl
 refine take_ (i := 11) (N := some 14) (v := ?_) (a' := ?_) #[true, true, true, true, true, true, true, true, true, true, true, true, false, true, false, false, true, false, true, false, false, false] rfl rfl (take_ofW HT_.out HW_.out (by kernel_rfl)) (fun _ _ _ h => h) (Or.inl ⟨by rfl, ?_⟩) hHeld ?_ ?_
 rotate_left
 ·rintro w' ⟨s0, s1, s2, s3, s4, s5, s6, s7, s8⟩
  go_simp
  with_reducible rfl
 rotate_left
 ·simp only [Act.put, List.setIfInBounds_toArray, List.set_cons_zero, List.set_cons_succ, i64_w, i32_w]
  rfl
 refine take_ (i := 14) (N := some 17) (v := ?_) (a' := ?_) #[true, true, true, true, true, true, true, true, true, true, true, true, false, true, true, false, true, false, true, false, false, false] rfl rfl (take_ofW HT_.out HW_.out (by kernel_rfl)) (fun _ _ _ h => h) (Or.inl ⟨by rfl, ?_⟩) hHeld ?_ ?_
 rotate_left
 ·rintro w' ⟨s0, s1, s2, s3, s4, s5, s6, s7, s8⟩
  go_simp
  with_reducible rfl
 rotate_left
 ·simp only [Act.put, List.setIfInBounds_toArray, List.set_cons_zero, List.set_cons_succ, i64_w, i32_w]
  rfl
 refine take_ (i := 17) (N := some 20) (v := ?_) (a' := ?_) #[true, true, true, true, true, true, true, true, true, true, true, true, false, true, true, false, true, true, true, false, false, false] rfl rfl (take_ofW HT_.out HW_.out (by kernel_rfl)) (fun _ _ _ h => h) (Or.inl ⟨by rfl, ?_⟩) hHeld ?_ ?_
 rotate_left
 ·rintro w' ⟨s0, s1, s2, s3, s4, s5, s6, s7, s8⟩
  go_simp
  with_reducible rfl
 rotate_left
 ·simp only [Act.put, List.setIfInBounds_toArray, List.set_cons_zero, List.set_cons_succ, i64_w, i32_w]
  rfl
 refine take_ (i := 19) (N := some 22) (v := ?_) (a' := ?_) #[true, true, true, true, true, true, true, true, true, true, true, true, false, true, true, false, true, true, true, true, false, false] rfl rfl (take_ofW HT_.out HW_.out (by kernel_rfl)) (fun _ _ _ h => h) (Or.inl ⟨by rfl, ?_⟩) hHeld ?_ ?_
 rotate_left
 ·rintro w' ⟨s0, s1, s2, s3, s4, s5, s6, s7, s8⟩
  go_simp
  with_reducible rfl
 rotate_left
 ·simp only [Act.put, List.setIfInBounds_toArray, List.set_cons_zero, List.set_cons_succ, i64_w, i32_w]
  rfl
 refine one_ (i := 12) (N := some 15) #[true, true, true, true, true, true, true, true, true, true, true, true, true, true, true, false, true, true, true, true, false, false] rfl rfl (one_of HT_.out (by kernel_rfl)) (by decide) (fun K hK => ?_)
 refine goes_ Try.func95 (by kernel_rfl) rfl #[.slice A0_5 l0_5.length c0_5] (by rfl) rfl rfl (by (try simp only [List.map_toArray, List.map_cons, List.map_nil]); first | done | rfl | (simp only [List.length_drop, List.length_take]; rfl)) ?_
 with_reducible refine (tidepolelaw10_spans.calls k _ _ l0_5 t103 _ ?side1 ?side2 A2.out).mono ?_
 (case side1 => exact Kd.C_u (Kd.C_below HR0_5.out HB.out))
 (case side2 => exact HC0_5.out)
 rintro e w7 ⟨v104, rfl, ho0, hb⟩
 refine ⟨_, rfl, ?_⟩
 have n0_ := Aside0.mk (Kd.V_elder' (by (with_reducible repeat (first | apply Kd.V_alloc | apply Kd.V_drewN | apply Kd.V_drew)); exact HO0_7.out) (Kd.R_base ho0) hb)
 have n1_ := Aside0.mk (Kd.V_elder' (by (with_reducible repeat (first | apply Kd.V_alloc | apply Kd.V_drewN | apply Kd.V_drew)); exact HO0_8.out) (Kd.R_base ho0) hb)
 have n2_ := Aside0.mk (Kd.R_lower (Kd.R_newM (M := fun k_ => (w.heap.size ≤ k_)) ho0 (below_size (by repeat (first | (with_reducible first | exact HB.out | refine below_q ?_ | refine below_set ?_ GE101.out | refine below_set ?_ GE102.out) | exact HB.out))) (fun k_ h_ => h_)) (below_size (by repeat (first | (with_reducible first | exact HB.out | refine below_q ?_ | refine below_set ?_ GE101.out | refine below_set ?_ GE102.out) | exact HB.out))))
 have n3_ := Aside0.mk (blk_ub BK101.out hb)
 have n4_ := Aside0.mk (blk_ub BK102.out hb)
 have n5_ := Aside0.mk (below_step (by repeat (first | (with_reducible first | exact HB.out | refine below_q ?_ | refine below_set ?_ GE101.out | refine below_set ?_ GE102.out) | exact HB.out)) hb)
 clear HO0_7
 clear HO0_8
 clear BK101
 clear BK102
 clear HB
 have HO0_7 := n0_
 have HO0_8 := n1_
 have HO105 := n2_
 have BK101 := n3_
 have BK102 := n4_
 have HB := n5_
 clear n0_ n1_ n2_ n3_ n4_ n5_
 (try clear hb)
 (try clear hb2)
 (try clear hk)
 (try clear hi)
 (try clear ho0)
 refine hK.out _ _ ⟨(blk_cell BK101.out 0).trans rfl, (blk_cell BK101.out 1).trans rfl, (blk_cell BK101.out 2).trans rfl, (blk_cell BK101.out 3).trans rfl, (blk_cell BK101.out 4).trans rfl, (blk_cell BK101.out 5).trans rfl, (blk_cell BK101.out 6).trans rfl, (blk_cell BK101.out 7).trans rfl, (blk_cell BK101.out 8).trans rfl⟩ (fun hHeld => ?_)
 clear hK K
 refine norm_ (a' := ?_) ?_ ?_
 rotate_left
 ·show Act.put _ (some 15) _ = _
  simp only [Act.put, List.setIfInBounds_toArray, List.set_cons_zero, List.set_cons_succ, i64_w, i32_w]
  rfl
 refine one_ (i := 15) (N := some 18) #[true, true, true, true, true, true, true, true, true, true, true, true, true, true, true, true, true, true, true, true, false, false] rfl rfl (one_of HT_.out (by kernel_rfl)) (by decide) (fun K hK => ?_)
 refine goes_ Try.func95 (by kernel_rfl) rfl #[.slice A0_6 l0_6.length c0_6] (by rfl) rfl rfl (by (try simp only [List.map_toArray, List.map_cons, List.map_nil]); first | done | rfl | (simp only [List.length_drop, List.length_take]; rfl)) ?_
 with_reducible refine (tidepolelaw10_spans.calls k _ _ l0_6 t106 _ ?side1 ?side2 A3.out).mono ?_
 (case side1 => exact Kd.C_u (Kd.C_below HR0_6.out HB.out))
 (case side2 => exact HC0_6.out)
 rintro e w8 ⟨v107, rfl, ho0, hb⟩
 refine ⟨_, rfl, ?_⟩
 have n0_ := Aside0.mk (Kd.V_elder' (by (with_reducible repeat (first | apply Kd.V_alloc | apply Kd.V_drewN | apply Kd.V_drew)); exact HO0_7.out) (Kd.R_base ho0) hb)
 have n1_ := Aside0.mk (Kd.V_elder' (by (with_reducible repeat (first | apply Kd.V_alloc | apply Kd.V_drewN | apply Kd.V_drew)); exact HO0_8.out) (Kd.R_base ho0) hb)
 have n2_ := Aside0.mk (Kd.R_elder' (Kd.R_u HO105.out) (Kd.R_base ho0) hb)
 have n3_ := Aside0.mk (Kd.R_lower (Kd.R_new' (Kd.R_newM (M := fun k_ => (w.heap.size ≤ k_)) ho0 (below_size (by repeat (first | (with_reducible first | exact HB.out | refine below_q ?_ | refine below_set ?_ GE101.out | refine below_set ?_ GE102.out) | exact HB.out))) (fun k_ h_ => h_)) (Kd.R_lt (Kd.R_u HO105.out))) (below_size (by repeat (first | (with_reducible first | exact HB.out | refine below_q ?_ | refine below_set ?_ GE101.out | refine below_set ?_ GE102.out) | exact HB.out))))
 have n4_ := Aside0.mk (blk_ub BK101.out hb)
 have n5_ := Aside0.mk (blk_ub BK102.out hb)
 have n6_ := Aside0.mk (below_step (by repeat (first | (with_reducible first | exact HB.out | refine below_q ?_ | refine below_set ?_ GE101.out | refine below_set ?_ GE102.out) | exact HB.out)) hb)
 clear HO0_7
 clear HO0_8
 clear HO105
 clear BK101
 clear BK102
 clear HB
 have HO0_7 := n0_
 have HO0_8 := n1_
 have HO105 := n2_
 have HO108 := n3_
 have BK101 := n4_
 have BK102 := n5_
 have HB := n6_
 clear n0_ n1_ n2_ n3_ n4_ n5_ n6_
 (try clear hb)
 (try clear hb2)
 (try clear hk)
 (try clear hi)
 (try clear ho0)
 obtain ⟨Ao9, co9, eo9⟩ := Kd.R_slice HO108.out
 (first | subst eo9 | (injection eo9 with f1_ f2_ f3_; have f4_ := f1_.symm; have f5_ := f3_.symm; clear f1_ f2_ f3_; subst f4_; subst f5_))
 obtain ⟨Ao10, co10, eo10⟩ := Kd.R_slice HO105.out
 (first | subst eo10 | (injection eo10 with f1_ f2_ f3_; have f4_ := f1_.symm; have f5_ := f3_.symm; clear f1_ f2_ f3_; subst f4_; subst f5_))
 refine hK.out _ _ ⟨(blk_cell BK101.out 0).trans rfl, (blk_cell BK101.out 1).trans rfl, (blk_cell BK101.out 2).trans rfl, (blk_cell BK101.out 3).trans rfl, (blk_cell BK101.out 4).trans rfl, (blk_cell BK101.out 5).trans rfl, (blk_cell BK101.out 6).trans rfl, (blk_cell BK101.out 7).trans rfl, (blk_cell BK101.out 8).trans rfl⟩ (fun hHeld => ?_)
 clear hK K
 refine norm_ (a' := ?_) ?_ ?_
 rotate_left
 ·show Act.put _ (some 18) _ = _
  simp only [Act.put, List.setIfInBounds_toArray, List.set_cons_zero, List.set_cons_succ, i64_w, i32_w]
  rfl
 refine pure_ (i := 20) (N := some 23) (v := ?_) (a' := ?_) #[true, true, true, true, true, true, true, true, true, true, true, true, true, true, true, true, true, true, true, true, true, false] rfl rfl (any_of HT_.out (by kernel_rfl)) (fun _ _ _ h => h) (Or.inl ⟨by rfl, ?_⟩) ?_ ?_
 rotate_left
 ·intro w'
  go_simp
  with_reducible rfl
 rotate_left
 ·simp only [Act.put, List.setIfInBounds_toArray, List.set_cons_zero, List.set_cons_succ, i64_w, i32_w]
  rfl
 refine one_ (i := 21) (N := none) #[true, true, true, true, true, true, true, true, true, true, true, true, true, true, true, true, true, true, true, true, true, true] rfl rfl (one_of HT_.out (by kernel_rfl)) (by decide) (fun K hK => ?_)
 have hs11 : w8.cell? ⟨gb102, 0, none⟩ = some (.int .i64 0) := (blk_cell BK102.out 0).trans rfl
 have hfs11 := blk_frozen BK102.out 0
 have hns11_0 := NB101_102.out
 have hms11_0 := NB102_101.out
 have hs12 : w8.cell? ⟨gb102, 1, none⟩ = some (.int .u64 0) := (blk_cell BK102.out 1).trans rfl
 have hfs12 := blk_frozen BK102.out 1
 have hns12_0 := NB101_102.out
 have hms12_0 := NB102_101.out
 have hs13 : w8.cell? ⟨gb102, 2, none⟩ = some (.int .u64 0) := (blk_cell BK102.out 2).trans rfl
 have hfs13 := blk_frozen BK102.out 2
 have hns13_0 := NB101_102.out
 have hms13_0 := NB102_101.out
 have hs14 : w8.cell? ⟨gb102, 3, none⟩ = some (.int .u64 0) := (blk_cell BK102.out 3).trans rfl
 have hfs14 := blk_frozen BK102.out 3
 have hns14_0 := NB101_102.out
 have hms14_0 := NB102_101.out
 have hs15 : w8.cell? ⟨gb102, 4, none⟩ = some (.int .u64 0) := (blk_cell BK102.out 4).trans rfl
 have hfs15 := blk_frozen BK102.out 4
 have hns15_0 := NB101_102.out
 have hms15_0 := NB102_101.out
 have hs16 : w8.cell? ⟨gb102, 5, none⟩ = some (.slice none 0 0) := (blk_cell BK102.out 5).trans rfl
 have hfs16 := blk_frozen BK102.out 5
 have hns16_0 := NB101_102.out
 have hms16_0 := NB102_101.out
 have hs17 : w8.cell? ⟨gb102, 6, none⟩ = some (.slice none 0 0) := (blk_cell BK102.out 6).trans rfl
 have hfs17 := blk_frozen BK102.out 6
 have hns17_0 := NB101_102.out
 have hms17_0 := NB102_101.out
 have hs18 : w8.cell? ⟨gb102, 7, none⟩ = some (.slice none 0 0) := (blk_cell BK102.out 7).trans rfl
 have hfs18 := blk_frozen BK102.out 7
 have hns18_0 := NB101_102.out
 have hms18_0 := NB102_101.out
 have hs19 : w8.cell? ⟨gb102, 8, none⟩ = some (.slice none 0 0) := (blk_cell BK102.out 8).trans rfl
 have hfs19 := blk_frozen BK102.out 8
 have hns19_0 := NB101_102.out
 have hms19_0 := NB102_101.out
 refine skip_ (w1 := ?_) (by rfl) rfl ?_ ?_
 rotate_left
 ·go_simp
  rfl
 refine hK.out _ _ ⟨((cell_far (p := ⟨gb102, _, none⟩) NB101_102.out _).trans (((cell_far (p := ⟨gb102, _, none⟩) NB101_102.out _).trans (((cell_far (p := ⟨gb102, _, none⟩) NB101_102.out _).trans (((cell_far (p := ⟨gb102, _, none⟩) NB101_102.out _).trans (((cell_far (p := ⟨gb102, _, none⟩) NB101_102.out _).trans (((cell_far (p := ⟨gb102, _, none⟩) NB101_102.out _).trans (((cell_far (p := ⟨gb102, _, none⟩) NB101_102.out _).trans (((cell_far (p := ⟨gb102, _, none⟩) NB101_102.out _).trans (((cell_far (p := ⟨gb102, _, none⟩) NB101_102.out _).trans (hHeld.1)))))))))))))))))), ((cell_far (p := ⟨gb102, _, none⟩) NB101_102.out _).trans (((cell_far (p := ⟨gb102, _, none⟩) NB101_102.out _).trans (((cell_far (p := ⟨gb102, _, none⟩) NB101_102.out _).trans (((cell_far (p := ⟨gb102, _, none⟩) NB101_102.out _).trans (((cell_far (p := ⟨gb102, _, none⟩) NB101_102.out _).trans (((cell_far (p := ⟨gb102, _, none⟩) NB101_102.out _).trans (((cell_far (p := ⟨gb102, _, none⟩) NB101_102.out _).trans (((cell_far (p := ⟨gb102, _, none⟩) NB101_102.out _).trans (((cell_far (p := ⟨gb102, _, none⟩) NB101_102.out _).trans (hHeld.2.1)))))))))))))))))), ((cell_far (p := ⟨gb102, _, none⟩) NB101_102.out _).trans (((cell_far (p := ⟨gb102, _, none⟩) NB101_102.out _).trans (((cell_far (p := ⟨gb102, _, none⟩) NB101_102.out _).trans (((cell_far (p := ⟨gb102, _, none⟩) NB101_102.out _).trans (((cell_far (p := ⟨gb102, _, none⟩) NB101_102.out _).trans (((cell_far (p := ⟨gb102, _, none⟩) NB101_102.out _).trans (((cell_far (p := ⟨gb102, _, none⟩) NB101_102.out _).trans (((cell_far (p := ⟨gb102, _, none⟩) NB101_102.out _).trans (((cell_far (p := ⟨gb102, _, none⟩) NB101_102.out _).trans (hHeld.2.2.1)))))))))))))))))), ((cell_far (p := ⟨gb102, _, none⟩) NB101_102.out _).trans (((cell_far (p := ⟨gb102, _, none⟩) NB101_102.out _).trans (((cell_far (p := ⟨gb102, _, none⟩) NB101_102.out _).trans (((cell_far (p := ⟨gb102, _, none⟩) NB101_102.out _).trans (((cell_far (p := ⟨gb102, _, none⟩) NB101_102.out _).trans (((cell_far (p := ⟨gb102, _, none⟩) NB101_102.out _).trans (((cell_far (p := ⟨gb102, _, none⟩) NB101_102.out _).trans (((cell_far (p := ⟨gb102, _, none⟩) NB101_102.out _).trans (((cell_far (p := ⟨gb102, _, none⟩) NB101_102.out _).trans (hHeld.2.2.2.1)))))))))))))))))), ((cell_far (p := ⟨gb102, _, none⟩) NB101_102.out _).trans (((cell_far (p := ⟨gb102, _, none⟩) NB101_102.out _).trans (((cell_far (p := ⟨gb102, _, none⟩) NB101_102.out _).trans (((cell_far (p := ⟨gb102, _, none⟩) NB101_102.out _).trans (((cell_far (p := ⟨gb102, _, none⟩) NB101_102.out _).trans (((cell_far (p := ⟨gb102, _, none⟩) NB101_102.out _).trans (((cell_far (p := ⟨gb102, _, none⟩) NB101_102.out _).trans (((cell_far (p := ⟨gb102, _, none⟩) NB101_102.out _).trans (((cell_far (p := ⟨gb102, _, none⟩) NB101_102.out _).trans (hHeld.2.2.2.2.1)))))))))))))))))), ((cell_far (p := ⟨gb102, _, none⟩) NB101_102.out _).trans (((cell_far (p := ⟨gb102, _, none⟩) NB101_102.out _).trans (((cell_far (p := ⟨gb102, _, none⟩) NB101_102.out _).trans (((cell_far (p := ⟨gb102, _, none⟩) NB101_102.out _).trans (((cell_far (p := ⟨gb102, _, none⟩) NB101_102.out _).trans (((cell_far (p := ⟨gb102, _, none⟩) NB101_102.out _).trans (((cell_far (p := ⟨gb102, _, none⟩) NB101_102.out _).trans (((cell_far (p := ⟨gb102, _, none⟩) NB101_102.out _).trans (((cell_far (p := ⟨gb102, _, none⟩) NB101_102.out _).trans (hHeld.2.2.2.2.2.1)))))))))))))))))), ((cell_far (p := ⟨gb102, _, none⟩) NB101_102.out _).trans (((cell_far (p := ⟨gb102, _, none⟩) NB101_102.out _).trans (((cell_far (p := ⟨gb102, _, none⟩) NB101_102.out _).trans (((cell_far (p := ⟨gb102, _, none⟩) NB101_102.out _).trans (((cell_far (p := ⟨gb102, _, none⟩) NB101_102.out _).trans (((cell_far (p := ⟨gb102, _, none⟩) NB101_102.out _).trans (((cell_far (p := ⟨gb102, _, none⟩) NB101_102.out _).trans (((cell_far (p := ⟨gb102, _, none⟩) NB101_102.out _).trans (((cell_far (p := ⟨gb102, _, none⟩) NB101_102.out _).trans (hHeld.2.2.2.2.2.2.1)))))))))))))))))), ((cell_far (p := ⟨gb102, _, none⟩) NB101_102.out _).trans (((cell_far (p := ⟨gb102, _, none⟩) NB101_102.out _).trans (((cell_far (p := ⟨gb102, _, none⟩) NB101_102.out _).trans (((cell_far (p := ⟨gb102, _, none⟩) NB101_102.out _).trans (((cell_far (p := ⟨gb102, _, none⟩) NB101_102.out _).trans (((cell_far (p := ⟨gb102, _, none⟩) NB101_102.out _).trans (((cell_far (p := ⟨gb102, _, none⟩) NB101_102.out _).trans (((cell_far (p := ⟨gb102, _, none⟩) NB101_102.out _).trans (((cell_far (p := ⟨gb102, _, none⟩) NB101_102.out _).trans (hHeld.2.2.2.2.2.2.2.1)))))))))))))))))), ((cell_far (p := ⟨gb102, _, none⟩) NB101_102.out _).trans (((cell_far (p := ⟨gb102, _, none⟩) NB101_102.out _).trans (((cell_far (p := ⟨gb102, _, none⟩) NB101_102.out _).trans (((cell_far (p := ⟨gb102, _, none⟩) NB101_102.out _).trans (((cell_far (p := ⟨gb102, _, none⟩) NB101_102.out _).trans (((cell_far (p := ⟨gb102, _, none⟩) NB101_102.out _).trans (((cell_far (p := ⟨gb102, _, none⟩) NB101_102.out _).trans (((cell_far (p := ⟨gb102, _, none⟩) NB101_102.out _).trans (((cell_far (p := ⟨gb102, _, none⟩) NB101_102.out _).trans (hHeld.2.2.2.2.2.2.2.2))))))))))))))))))⟩ (fun hHeld => ?_)
 clear hK K
 refine done_ (done_of HT_.out (by kernel_rfl)) ?_
 try go_wp2
 refine bodyPost_ret (results_cell_row rfl _ _ gb102 45 #[.int .i64 a0_0, .int .u64 a0_1, .int .u64 a0_2, .int .u64 a0_3, .int .u64 a0_4, .slice Ao10 t103.length co10, .slice Ao9 t106.length co9, .slice A0_7 l0_7.length c0_7, .slice A0_8 l0_8.length c0_8] (0, 0) _ rfl (by (repeat with_reducible refine blk_q ?_); refine blk_put (cs := #[.int .i64 a0_0, .int .u64 a0_1, .int .u64 a0_2, .int .u64 a0_3, .int .u64 a0_4, .slice Ao10 t103.length co10, .slice Ao9 t106.length co9, .slice A0_7 l0_7.length c0_7, .slice none 0 0]) ?_ 8 _ rfl; (repeat with_reducible refine blk_q ?_); refine blk_put (cs := #[.int .i64 a0_0, .int .u64 a0_1, .int .u64 a0_2, .int .u64 a0_3, .int .u64 a0_4, .slice Ao10 t103.length co10, .slice Ao9 t106.length co9, .slice none 0 0, .slice none 0 0]) ?_ 7 _ rfl; (repeat with_reducible refine blk_q ?_); refine blk_put (cs := #[.int .i64 a0_0, .int .u64 a0_1, .int .u64 a0_2, .int .u64 a0_3, .int .u64 a0_4, .slice Ao10 t103.length co10, .slice none 0 0, .slice none 0 0, .slice none 0 0]) ?_ 6 _ rfl; (repeat with_reducible refine blk_q ?_); refine blk_put (cs := #[.int .i64 a0_0, .int .u64 a0_1, .int .u64 a0_2, .int .u64 a0_3, .int .u64 a0_4, .slice none 0 0, .slice none 0 0, .slice none 0 0, .slice none 0 0]) ?_ 5 _ rfl; (repeat with_reducible refine blk_q ?_); refine blk_put (cs := #[.int .i64 a0_0, .int .u64 a0_1, .int .u64 a0_2, .int .u64 a0_3, .int .u64 0, .slice none 0 0, .slice none 0 0, .slice none 0 0, .slice none 0 0]) ?_ 4 _ rfl; (repeat with_reducible refine blk_q ?_); refine blk_put (cs := #[.int .i64 a0_0, .int .u64 a0_1, .int .u64 a0_2, .int .u64 0, .int .u64 0, .slice none 0 0, .slice none 0 0, .slice none 0 0, .slice none 0 0]) ?_ 3 _ rfl; (repeat with_reducible refine blk_q ?_); refine blk_put (cs := #[.int .i64 a0_0, .int .u64 a0_1, .int .u64 0, .int .u64 0, .int .u64 0, .slice none 0 0, .slice none 0 0, .slice none 0 0, .slice none 0 0]) ?_ 2 _ rfl; (repeat with_reducible refine blk_q ?_); refine blk_put (cs := #[.int .i64 a0_0, .int .u64 0, .int .u64 0, .int .u64 0, .int .u64 0, .slice none 0 0, .slice none 0 0, .slice none 0 0, .slice none 0 0]) ?_ 1 _ rfl; (repeat with_reducible refine blk_q ?_); refine blk_put (cs := #[.int .i64 0, .int .u64 0, .int .u64 0, .int .u64 0, .int .u64 0, .slice none 0 0, .slice none 0 0, .slice none 0 0, .slice none 0 0]) ?_ 0 _ rfl; (repeat with_reducible refine blk_q ?_); exact BK102.out) Try.underlying45 rfl (by kernel_rfl)) rfl ?_
 exact ⟨_, _, _, _, by first | rfl | (simp [errW_none, errW_some] <;> rfl) | (simp [*, errW_none, errW_some] <;> rfl), by (repeat with_reducible refine Kd.R_q ?_); exact Kd.R_mono (Kd.R_far (p := ⟨gb102, 8, none⟩) (Kd.R_far (p := ⟨gb102, 7, none⟩) (Kd.R_far (p := ⟨gb102, 6, none⟩) (Kd.R_far (p := ⟨gb102, 5, none⟩) (Kd.R_far (p := ⟨gb102, 4, none⟩) (Kd.R_far (p := ⟨gb102, 3, none⟩) (Kd.R_far (p := ⟨gb102, 2, none⟩) (Kd.R_far (p := ⟨gb102, 1, none⟩) (Kd.R_far (p := ⟨gb102, 0, none⟩) (Kd.R_types HO105.out BK102.out (by decide)) (fun _ hk => hk.2) (.int .i64 a0_0)) (fun _ hk => hk.2) (.int .u64 a0_1)) (fun _ hk => hk.2) (.int .u64 a0_2)) (fun _ hk => hk.2) (.int .u64 a0_3)) (fun _ hk => hk.2) (.int .u64 a0_4)) (fun _ hk => hk.2) (.slice Ao10 t103.length co10)) (fun _ hk => hk.2) (.slice Ao9 t106.length co9)) (fun _ hk => hk.2) (.slice A0_7 l0_7.length c0_7)) (fun _ hk => hk.2) (.slice A0_8 l0_8.length c0_8)) (fun _ hk => ⟨hk.1.1.1, hk.1.2⟩), by (repeat with_reducible refine Kd.R_q ?_); exact Kd.R_mono (Kd.R_far (p := ⟨gb102, 8, none⟩) (Kd.R_far (p := ⟨gb102, 7, none⟩) (Kd.R_far (p := ⟨gb102, 6, none⟩) (Kd.R_far (p := ⟨gb102, 5, none⟩) (Kd.R_far (p := ⟨gb102, 4, none⟩) (Kd.R_far (p := ⟨gb102, 3, none⟩) (Kd.R_far (p := ⟨gb102, 2, none⟩) (Kd.R_far (p := ⟨gb102, 1, none⟩) (Kd.R_far (p := ⟨gb102, 0, none⟩) (Kd.R_types HO108.out BK102.out (by decide)) (fun _ hk => hk.2) (.int .i64 a0_0)) (fun _ hk => hk.2) (.int .u64 a0_1)) (fun _ hk => hk.2) (.int .u64 a0_2)) (fun _ hk => hk.2) (.int .u64 a0_3)) (fun _ hk => hk.2) (.int .u64 a0_4)) (fun _ hk => hk.2) (.slice Ao10 t103.length co10)) (fun _ hk => hk.2) (.slice Ao9 t106.length co9)) (fun _ hk => hk.2) (.slice A0_7 l0_7.length c0_7)) (fun _ hk => hk.2) (.slice A0_8 l0_8.length c0_8)) (fun _ hk => ⟨hk.1.1.1, hk.1.2⟩), by (with_reducible repeat (first | apply Kd.V_alloc | apply Kd.V_drewN | apply Kd.V_drew)); exact Kd.V_mono (Kd.V_far (p := ⟨gb102, 8, none⟩) (Kd.V_far (p := ⟨gb102, 7, none⟩) (Kd.V_far (p := ⟨gb102, 6, none⟩) (Kd.V_far (p := ⟨gb102, 5, none⟩) (Kd.V_far (p := ⟨gb102, 4, none⟩) (Kd.V_far (p := ⟨gb102, 3, none⟩) (Kd.V_far (p := ⟨gb102, 2, none⟩) (Kd.V_far (p := ⟨gb102, 1, none⟩) (Kd.V_far (p := ⟨gb102, 0, none⟩) (Kd.V_mono HO0_7.out (fun k_ hk => (⟨hk, hk.1.1.2⟩ : _ ∧ k_ ≠ gb102))) (fun _ hk => hk.2) (.int .i64 a0_0)) (fun _ hk => hk.2) (.int .u64 a0_1)) (fun _ hk => hk.2) (.int .u64 a0_2)) (fun _ hk => hk.2) (.int .u64 a0_3)) (fun _ hk => hk.2) (.int .u64 a0_4)) (fun _ hk => hk.2) (.slice Ao10 t103.length co10)) (fun _ hk => hk.2) (.slice Ao9 t106.length co9)) (fun _ hk => hk.2) (.slice A0_7 l0_7.length c0_7)) (fun _ hk => hk.2) (.slice A0_8 l0_8.length c0_8)) (fun _ hk => ⟨hk.1.1.1.1.1, ⟨hk.1.1.2, hk.1.2⟩⟩), by (with_reducible repeat (first | apply Kd.V_alloc | apply Kd.V_drewN | apply Kd.V_drew)); exact Kd.V_mono (Kd.V_far (p := ⟨gb102, 8, none⟩) (Kd.V_far (p := ⟨gb102, 7, none⟩) (Kd.V_far (p := ⟨gb102, 6, none⟩) (Kd.V_far (p := ⟨gb102, 5, none⟩) (Kd.V_far (p := ⟨gb102, 4, none⟩) (Kd.V_far (p := ⟨gb102, 3, none⟩) (Kd.V_far (p := ⟨gb102, 2, none⟩) (Kd.V_far (p := ⟨gb102, 1, none⟩) (Kd.V_far (p := ⟨gb102, 0, none⟩) (Kd.V_mono HO0_8.out (fun k_ hk => (⟨hk, hk.1.1.2⟩ : _ ∧ k_ ≠ gb102))) (fun _ hk => hk.2) (.int .i64 a0_0)) (fun _ hk => hk.2) (.int .u64 a0_1)) (fun _ hk => hk.2) (.int .u64 a0_2)) (fun _ hk => hk.2) (.int .u64 a0_3)) (fun _ hk => hk.2) (.int .u64 a0_4)) (fun _ hk => hk.2) (.slice Ao10 t103.length co10)) (fun _ hk => hk.2) (.slice Ao9 t106.length co9)) (fun _ hk => hk.2) (.slice A0_7 l0_7.length c0_7)) (fun _ hk => hk.2) (.slice A0_8 l0_8.length c0_8)) (fun _ hk => ⟨hk.1.1.1.1.1, ⟨hk.1.1.2, hk.1.2⟩⟩), by repeat (first | (with_reducible first | exact HB.out | apply below_alloc | apply pw_below_drewN | apply below_drew1 | refine below_set ?_ GE101.out | refine below_set ?_ GE102.out) | exact HB.out)⟩
def tidepolelaw10_floats.l0 : Nat → List Int → List Int → Int → Int → Option (List Int)
 | 0, _, _, _, _ => none
 | k + 1, x3, x6, x7, x8 => if x8 < x7 then (if 0 ≤ x8 then (if x8 < (x6.length : Int) then ((tidepoleref10_Float.f k (IntKind.u64.wrap (rd x6 x8))).bind fun t102 => (if x3.length < 17592186044416 then (tidepolelaw10_floats.l0 k (x3 ++ [t102]) x6 x7 (wrap64 (x8 + 1))) else (none))) else (none)) else (none)) else (some x3)
def tidepolelaw10_floats.f (k : Nat) (l0 : List Int) : Option (List Int) := tidepolelaw10_floats.l0 k ([] : List Int) l0 (l0.length : Int) 0
set_option maxHeartbeats 8000000 in
set_option maxRecDepth 100000 in
theorem tidepolelaw10_floats.calls (k : Nat) (A0 : Option Addr) (c0 : Nat) (l0 : List Int) (r : List Int) (w : World) (hr0 : Kd.C (Kd.int .i64) w A0 l0.length l0) (hc0 : l0.length ≤ c0) (h : tidepolelaw10_floats.f k l0 = some r) :
  Calls Try.prog 45 #[.slice A0 l0.length c0] w fun e w' => ∃ v0_ : Value, e = .returned (v0_) ∧ Kd.R (Kd.int .u64) 22 w' w.heap.size (fun _ => True) v0_ r ∧ Below w.heap.size w w' := by
 have HR0 := Aside0.mk hr0
 have HC0 := Aside0.mk hc0
 clear hr0 hc0
 have HB := Aside0.mk (Below.refl w.heap.size w)
 have H : (tidepolelaw10_floats.l0 k ([] : List Int) l0 (l0.length : Int) 0) = some r := h
 clear h
 have H' := Aside0.mk H
 clear H
 go_enter Try.func45, Try.ntmps45
 go_wp2
 go_loopg [3, 8] k (fun kq v3 v8 w' => ∃ (x3_1 : List Int) (x8_1 : Int), v8 = .int .i64 x8_1 ∧ Aside0 (tidepolelaw10_floats.l0 kq x3_1 l0 (l0.length : Int) x8_1 = some r) ∧ Aside0 (kq ≤ k) ∧ Aside0 (Kd.R (Kd.int .u64) 22 w' w.heap.size (fun _ => True) v3 x3_1) ∧ Aside0 (Below w.heap.size w w'))
 case atStart => exact ⟨(([] : List Int)), (0), (by first | rfl | (simp; done) | (simp [*]; done)), H', ⟨Nat.le_refl _⟩, ⟨by first | exact Kd.R_nil _ _ _ _ _ | exact Kd.N_nil _ _ _ _ _ | exact Kd.V_nil _ _ _ _ _ | exact Kd.Q_nil _ _ _ _ _ | exact Kd.S_nil _ _ _ _ _⟩, ⟨by repeat (first | (with_reducible first | exact HB.out | apply below_alloc | apply pw_below_drewN | apply below_drew1) | exact HB.out)⟩⟩
 case round =>
  clear H'
  obtain ⟨x3_1, x8_1, rfl, HA, HK1, HO_3, HB⟩ := hrel
  cases gk with
  | zero => exact absurd HA.out (by simp [tidepolelaw10_floats.l0])
  | succ k1 =>
   have H := HA.out
   clear HA
   simp only [tidepolelaw10_floats.l0] at H
   by_cases c2 : x8_1 < (l0.length : Int)
   ·rw [if_pos c2] at H
    have c2b0 : decide (x8_1 < (l0.length : Int)) = true := decide_eq_true c2
    clear c2
    by_cases c3 : 0 ≤ x8_1
    ·rw [if_pos c3] at H
     have c3b0 : decide (0 ≤ x8_1) = true := decide_eq_true c3
     clear c3
     by_cases c4 : x8_1 < (l0.length : Int)
     ·rw [if_pos c4] at H
      have c4b0 : decide (x8_1 < (l0.length : Int)) = true := decide_eq_true c4
      clear c4
      replace H := Option.bind_eq_some_iff.mp H
      obtain ⟨t102, A50, H⟩ := H
      replace H : (if x3_1.length < 17592186044416 then (tidepolelaw10_floats.l0 k1 (x3_1 ++ [t102]) l0 (l0.length : Int) (wrap64 (x8_1 + 1))) else (none)) = some r := H
      have A5 := Aside0.mk A50
      clear A50
      by_cases c6 : x3_1.length < 17592186044416
      ·rw [if_pos c6] at H
       have LMc6 := Aside0.mk c6
       clear c6
       obtain ⟨y103, hy103⟩ : ∃ y_ : List Int, y_ = (x3_1 ++ [t102]) := ⟨_, rfl⟩
       replace H : (tidepolelaw10_floats.l0 k1 y103 l0 (l0.length : Int) (wrap64 (x8_1 + 1))) = some r := by first | (rw [hy103]; with_reducible exact H) | (have H2_ := (Option.bind_some _ _).symm.trans H; rw [hy103]; with_reducible exact H2_) | (have H2_ := (Option.bind_some _ _).symm.trans H; with_reducible exact H2_) | with_reducible exact H | (rw [hy103]; exact H) | exact H
       have Ny103 := Aside0.mk hy103
       clear hy103
       have H' := Aside0.mk H
       clear H
       have p101 : 0 ≤ (x8_1 : Int) := of_decide_eq_true (by assumption)
       have q101 : x8_1 < (l0.length : Int) := of_decide_eq_true (by assumption)
       obtain ⟨ad101, e101, hx101_0⟩ := Kd.at_int HR0.out x8_1 p101 q101
       cases e101
       replace hx101_0 := (HB.out.cell (World.block_lt_of_cell? w _ hx101_0)).trans hx101_0
       replace p101 := eq_true p101
       replace q101 := eq_true q101
       go_wp2_with (first | ((with_reducible refine gate_callee (f := 32) rfl ?_); refine goesL_ (some 15) rfl rfl Try.func32 (by kernel_rfl) rfl #[.int .u64 (IntKind.u64.wrap (rd l0 x8_1))] rfl (by (try simp only [List.map_toArray, List.map_cons, List.map_nil]); first | done | rfl | (simp only [List.length_drop, List.length_take]; rfl)) ?_; (with_reducible refine (tidepoleref10_Float.calls k1 (IntKind.u64.wrap (rd l0 x8_1)) t102 _ A5.out).mono ?_); rintro e w' ⟨rfl, ⟨nd, rfl⟩⟩; refine ⟨_, rfl, ?_⟩; clear A5) | ((with_reducible refine gate_builtin (b := .append) (xs := #[.tmp 12, .tmp 16]) rfl ?_); at_builtin; refine Kd.R_append (Kd.int .u64) (w0 := w) w.heap.size rfl (.tmp 12) (.tmp 16) 29 22 (.int .u64 0) 8 rfl Try.underlying29 info22 rfl (by decide) (by omega) u3 x3_1 t102 [.int .u64 t102] (fun _ => True) (fun _ => False) rfl rfl ?aP (fun _ hk => hk.elim) ?aF ?aO ?aB ?aS ?aL ?_; (case aP => exact rfl); (case aB => exact (below_u HB.out)); (case aF => exact (fun _ _ => trivial)); (case aO => exact (Kd.R_u HO_3.out)); (case aS => exact (below_size (below_u HB.out))); (case aL => have := LMc6.out; omega); intro v104 w7 ho hb hg hat; rw [← Ny103.out] at ho; have HO105 := Aside0.mk (ho); replace HB := Aside0.mk (hb); clear HO_3; clear ho hb hg hat))
       go_roundg k1
       case measure => have := HK1.out; omega
       case rel => exact ⟨(y103), (wrap64 (x8_1 + 1)), (by first | rfl | (simp; done) | (simp [*]; done)), H', ⟨by have := HK1.out; omega⟩, ⟨by (repeat with_reducible refine Kd.R_q ?_); exact HO105.out⟩, ⟨by repeat (first | (with_reducible first | exact HB.out | apply below_alloc | apply pw_below_drewN | apply below_drew1) | exact HB.out)⟩⟩
      rw [if_neg c6] at H
      exact absurd H (by simp)
     rw [if_neg c4] at H
     exact absurd H (by simp)
    rw [if_neg c3] at H
    exact absurd H (by simp)
   rw [if_neg c2] at H
   have c2b0 : decide (x8_1 < (l0.length : Int)) = false := decide_eq_false c2
   clear c2
   obtain rfl := Option.some.inj H
   go_wp2
   go_ret
   exact ⟨_, by first | rfl | (simp [errW_none, errW_some] <;> rfl) | (simp [*, errW_none, errW_some] <;> rfl), by (repeat with_reducible refine Kd.R_q ?_); exact HO_3.out, by repeat (first | (with_reducible first | exact HB.out | apply below_alloc | apply pw_below_drewN | apply below_drew1) | exact HB.out)⟩
end Go.Proofs.Ytfbjjbbhnmoolaa.P
namespace Go.Proofs.Ytfbjjbbhnmoolaa.P
open Go.RowKit Go.Shelf Go.Proofs.YtfbjjbbhnmoolaaW.PrintWords Go.Proofs.YtfbjjbbhnmoolaaW.PrintLast Go.Proofs.YtfbjjbbhnmoolaaW.PrintMore
theorem nearU_eq (v : Int) (h : u64 v) : nearI v = ((fltR v.toNat : Nat) : Int) := float_near v h
theorem refFloat_c (v : Int) (h : u64 v) (w : World) : Calls Try.prog 32 #[.int .u64 v] w fun e w' => e = .returned (.int .u64 (nearI v)) ∧ Below w.heap.size w w' := by
  rw [nearU_eq v h]
  exact (tidepoleref10_Float.calls 70 v _ w (refFloat_eq v h 70 (Nat.le_refl _))).mono fun e w1 h => ⟨h.1, h.2.below⟩
theorem floats10_eq (l : List Int) (hn : ∀ x ∈ l, 0 ≤ x ∧ x ≤ 9223372036854775807) (hm : l.length ≤ 4096) (k : Nat) (hk : 5000 ≤ k) : tidepolelaw10_floats.f k l = some (l.map nearI) := by
  have : ∀ (d k i : Nat) (o : List Int), l.length - i = d → d + 71 ≤ k → i ≤ l.length → o = (l.take i).map nearI → tidepolelaw10_floats.l0 k o l (l.length : Int) (i : Int) = some (l.map nearI) := by
    intro d
    induction d with
    | zero =>
      intro k i o hd hk hi ho
      obtain ⟨k, rfl⟩ : ∃ m, k = m + 1 := ⟨k - 1, by omega⟩
      rw [tidepolelaw10_floats.l0, if_neg (by omega), ho, List.take_of_length_le (by omega)]
    | succ d ih =>
      intro k i o hd hk hi ho
      obtain ⟨k, rfl⟩ : ∃ m, k = m + 1 := ⟨k - 1, by omega⟩
      have hlt : i < l.length := by omega
      obtain ⟨x0, x1⟩ := hn l[i] (List.getElem_mem hlt)
      have hol : o.length = i := by rw [ho]; simp; omega
      rw [tidepolelaw10_floats.l0, if_pos (by omega), if_pos (by omega), if_pos (by omega), rd_at hlt, uwrap (x := l[i]) (by omega) (by omega), refFloat_eq l[i] ⟨by omega, by omega⟩ _ (by omega), Option.bind_some, if_pos (by omega), wrap_succ (by omega)]
      refine ih k (i + 1) _ (by omega) (by omega) (by omega) ?_
      rw [take_at hlt, ho, List.map_append, List.map_cons, List.map_nil, nearU_eq l[i] ⟨by omega, by omega⟩]
  exact this l.length k 0 [] (by omega) (by omega) (by omega) rfl
theorem floats10_c (l : List Int) (hn : ∀ x ∈ l, 0 ≤ x ∧ x ≤ 9223372036854775807) (hm : l.length ≤ 4096) (w : World) (v : Value) (hv : SI (Kd.int .i64) w v l) : Calls Try.prog 45 #[v] w fun e w' => ∃ v0, e = .returned v0 ∧ SI (Kd.int .u64) w' v0 (l.map nearI) ∧ Below w.heap.size w w' := by
  obtain ⟨A, c, rfl, hc, hr⟩ := hv
  refine (tidepolelaw10_floats.calls 5000 A c l _ w hr hc (floats10_eq l hn hm 5000 (Nat.le_refl _))).mono ?_
  rintro e w1 ⟨v0, rfl, h0, hb⟩
  exact ⟨v0, rfl, .of_R h0, hb⟩
theorem refAbs_c (l c : List Int) (hw : ∀ x ∈ l, i64 x) (hl : l.length ≤ 4096) (hs : sumsFrom 0 l = some c) (w : World) (v : Value) (hv : SI (Kd.int .i64) w v l) : Calls Try.prog 44 #[v] w fun e w' => ∃ v0, e = .returned (.tuple #[v0, .int .i64 0]) ∧ SI (Kd.int .i64) w' v0 c ∧ Below w.heap.size w w' := by
  obtain ⟨A, cc, rfl, hc, hr⟩ := hv
  have := refAbsolute_eq l hw (by omega) 5000 (by omega)
  rw [hs] at this
  refine (tidepoleref07_Absolute.calls 5000 A cc l c 0 w hr hc this).mono ?_
  rintro e w1 ⟨v0, rfl, h0, hb⟩
  exact ⟨v0, rfl, .of_R h0, hb⟩
theorem whole10_eq (h : Hi) (h5 : h.f5.length ≤ 400) (h6 : h.f6.length ≤ 400) (k : Nat) (hk : 402 ≤ k) : tidepolelaw10_whole.f k h.f0 h.f1 h.f2 h.f3 h.f4 h.f5 h.f6 h.f7 h.f8 = some (h.f0, h.f1, h.f2, h.f3, h.f4, h.f5.map toR, h.f6.map toR, h.f7, h.f8) := by
  unfold tidepolelaw10_whole.f
  rw [spans10_eq _ (by omega) k (by omega)]
  simp only [Option.bind_some]
  rw [spans10_eq _ (by omega) k (by omega)]
  rfl
theorem whole10_c (h : Hi) (h5 : h.f5.length ≤ 400) (h6 : h.f6.length ≤ 400) (w : World) (v : Value) (hv : HI w v h) : Calls Try.prog 42 #[v] w fun e w' => ∃ v', e = .returned v' ∧ HR w' v' h ∧ Below w.heap.size w w' := by
  obtain ⟨A5, c5, A6, c6, A7, c7, A8, c8, rfl, ⟨_, _, e5, h51, h52⟩, ⟨_, _, e6, h61, h62⟩, ⟨_, _, e7, h71, h72⟩, ⟨_, _, e8, h81, h82⟩⟩ := hv.open_
  cases e5; cases e6; cases e7; cases e8
  refine (tidepolelaw10_whole.calls 402 h.f0 h.f1 h.f2 h.f3 h.f4 A5 c5 h.f5 A6 c6 h.f6 _ A7 c7 h.f7 _ A8 c8 h.f8 h.f0 h.f1 h.f2 h.f3 h.f4 (h.f5.map toR) (h.f6.map toR) h.f7 h.f8 w h52 h51 h62 h61 (SI.V h71 h72) (SI.V h81 h82) (whole10_eq h h5 h6 402 (Nat.le_refl _))).mono ?_
  rintro e w1 ⟨v5, v6, v7, v8, rfl, i5, i6, i7, i8, hb⟩
  exact ⟨_, rfl, ⟨v5, v6, v7, v8, rfl, .of_R i5, .of_R i6, .of_V i7, .of_V i8⟩, hb⟩
theorem same10b_eq (l : List Int) (hm : l.length < 17592186044416) (k : Nat) (hk : l.length < k) : tidepolelaw10_same.f k l l = some true := by
  unfold tidepolelaw10_same.f
  rw [if_pos rfl]
  have : ∀ (d k i : Nat), l.length - i = d → d < k → i ≤ l.length → tidepolelaw10_same.l0 k l l (l.length : Int) (i : Int) = some true := by
    intro d
    induction d with
    | zero =>
      intro k i hd hk hi
      obtain ⟨k, rfl⟩ : ∃ m, k = m + 1 := ⟨k - 1, by omega⟩
      rw [tidepolelaw10_same.l0, if_neg (by omega)]
    | succ d ih =>
      intro k i hd hk hi
      obtain ⟨k, rfl⟩ : ∃ m, k = m + 1 := ⟨k - 1, by omega⟩
      rw [tidepolelaw10_same.l0, if_pos (by omega), if_pos (by omega), if_pos (by omega), if_pos (by omega), if_pos rfl, wrap_succ (by omega)]
      exact ih k (i + 1) (by omega) (by omega) (by omega)
  exact this l.length k 0 (by omega) (by omega) (by omega)
theorem same10b_c (l : List Int) (hl : l.length ≤ 4096) (w : World) (u v : Value) (hu : SI (Kd.int .u64) w u l) (hv : SI (Kd.int .u64) w v l) : Calls Try.prog 39 #[u, v] w fun e w' => e = .returned (.bool true) ∧ Below w.heap.size w w' := by
  obtain ⟨A, c, rfl, hcc, hr⟩ := hu
  obtain ⟨A1, c1, rfl, hcc1, hr1⟩ := hv
  exact (tidepolelaw10_same.calls (l.length + 1) A c l A1 c1 l true w hr hcc hr1 hcc1 (same10b_eq l (by omega) _ (by omega))).mono fun e w1 h => ⟨h.1, h.2.below⟩
theorem diffsW_sums : ∀ (d : List Int) (a : Int) (c : List Int), sumsFrom a d = some c → diffsW a c = d
  | [], a, c, h => by cases h; rfl
  | x :: d, a, c, h => by
    simp only [sumsFrom] at h
    split at h
    · cases hq : sumsFrom (a + x) d with
      | none => rw [hq] at h; simp at h
      | some o =>
        rw [hq] at h
        simp at h
        subst h
        rw [diffsW, diffsW_sums d (a + x) o hq]
        congr 1
        omega
    · cases h
theorem side_sums {l : List Sp} {d : List Int} (h : (sideRes l d).2 = 0) : ∃ c, sumsFrom 0 d = some c ∧ c = (sideRes l d).1.map (·.f1) ∧ (∀ x ∈ c, 0 ≤ x) ∧ c.length = d.length := by
  unfold sideRes at h ⊢
  by_cases c1 : spCheck l = 0
  rotate_left
  · rw [if_neg c1] at h; exact absurd h c1
  rw [if_pos c1] at h ⊢
  by_cases c2 : cntN l = d.length
  rotate_left
  · rw [if_neg c2] at h; cases h
  rw [if_pos c2] at h ⊢
  cases hs : sumsFrom 0 d with
  | none => rw [hs] at h; cases h
  | some c =>
    rw [hs] at h
    simp only at h ⊢
    by_cases c3 : c.any (fun x => decide (x < 0)) = true
    · rw [if_pos c3] at h; cases h
    rw [if_neg c3]
    have hpl := plN_length l 0 (fun s hs => (spRight_pos l _ _ _ (spCheck_zero c1).2 s hs).1)
    have hc := sumsFrom_length d 0 c hs
    have hz := zipL (plN 0 l) c (by omega)
    refine ⟨c, rfl, hz.2.symm, fun x hx => ?_, hc⟩
    rw [Bool.not_eq_true, List.any_eq_false] at c3
    have := c3 x hx
    simp at this
    exact this
theorem whole_near {n : Int} (h0 : 0 ≤ n) (h1 : n ≤ 9007199254740992) : wholeI (nearI n) = (n, true) := by
  rw [nearU_eq n ⟨h0, by omega⟩]
  unfold wholeI
  rw [Int.toNat_natCast, wholeN_of (by omega)]
  simp only
  congr 1
  omega
end Go.Proofs.Ytfbjjbbhnmoolaa.P
namespace Go.Proofs.Ytfbjjbbhnmoolaa.P
open Go.RowKit Go.Shelf Go.Proofs.YtfbjjbbhnmoolaaW.PrintWords Go.Proofs.YtfbjjbbhnmoolaaW.PrintLast Go.Proofs.YtfbjjbbhnmoolaaW.PrintMore
theorem wholesOf_near {c : List Int} (h : ∀ x ∈ c, 0 ≤ x ∧ x ≤ 9007199254740992) : wholesOf (c.map nearI) = c ∧ allWhole (c.map nearI) = true ∧ noneBig c = true := by
  refine ⟨?_, ?_, ?_⟩
  · unfold wholesOf
    rw [List.map_map]
    refine (List.map_congr_left (g := id) fun x hx => ?_).trans (List.map_id c)
    obtain ⟨x0, x1⟩ := h x hx
    simp only [Function.comp, whole_near x0 x1, id]
  · unfold allWhole
    rw [List.all_eq_true]
    intro v hv
    obtain ⟨x, hx, rfl⟩ := List.mem_map.1 hv
    obtain ⟨x0, x1⟩ := h x hx
    rw [whole_near x0 x1]
  · unfold noneBig
    rw [List.all_eq_true]
    intro x hx
    have := (h x hx).2
    simp; omega
theorem back_from {a : Hi} (hw : wfH a) (hc : checkR a = 0) (h3 : a.f3 ≤ 9007199254740992) : backR (fromF a) = (a, 0) := by
  obtain ⟨z1, z2, z3, z4⟩ := checkR_zero hc
  obtain ⟨f1, -, -, -, -⟩ := from_open hw hc
  obtain ⟨c7, s7, e7, n7, -⟩ := side_sums z2
  obtain ⟨c8, s8, e8, n8, -⟩ := side_sums z3
  obtain ⟨b2, bp, bn⟩ := bucket_le hw hc
  have ho := openR_right hc
  have k7 : ∀ x ∈ c7, 0 ≤ x ∧ x ≤ 9007199254740992 := fun x hx => by
    have hx' := hx
    rw [e7] at hx
    obtain ⟨p, hp, rfl⟩ := List.mem_map.1 hx
    have := bp p (by rw [ho]; exact hp)
    exact ⟨n7 _ hx', by omega⟩
  have k8 : ∀ x ∈ c8, 0 ≤ x ∧ x ≤ 9007199254740992 := fun x hx => by
    have hx' := hx
    rw [e8] at hx
    obtain ⟨p, hp, rfl⟩ := List.mem_map.1 hx
    have := bn p (by rw [ho]; exact hp)
    exact ⟨n8 _ hx', by omega⟩
  have fl7 : floatsCR a.f7 = c7.map nearI := by unfold floatsCR; rw [s7]; rfl
  have fl8 : floatsCR a.f8 = c8.map nearI := by unfold floatsCR; rw [s8]; rfl
  obtain ⟨w7, a7, g7⟩ := wholesOf_near k7
  obtain ⟨w8, a8, g8⟩ := wholesOf_near k8
  have z0 := hw.2.2.1.1
  have w2 := whole_near z0 (show a.f2 ≤ 9007199254740992 by omega)
  have w3 := whole_near (show 0 ≤ a.f3 by omega) h3
  have hb : backH (fromF a) = a := by
    unfold backH fromF
    simp only [fl7, fl8, w7, w8, w2, w3, diffsW_sums _ _ _ s7, diffsW_sums _ _ _ s8]
  unfold backR
  rw [if_neg (show ¬ checkF (fromF a) ≠ 0 from fun q => q f1)]
  have q7 : (fromF a).f7 = c7.map nearI := fl7
  have q8 : (fromF a).f8 = c8.map nearI := fl8
  have q2 : (fromF a).f2 = nearI a.f2 := rfl
  have q3 : (fromF a).f3 = nearI a.f3 := rfl
  have hall : allWhole [nearI a.f2, nearI a.f3] = true := by unfold allWhole; simp [w2, w3]
  rw [hb, q7, q8, q2, q3, a7, a8, w7, w8, g7, g8, hall, if_neg (by decide), if_neg (by decide), if_neg (show ¬ checkR a ≠ 0 from fun q => q hc)]
end Go.Proofs.Ytfbjjbbhnmoolaa.P
