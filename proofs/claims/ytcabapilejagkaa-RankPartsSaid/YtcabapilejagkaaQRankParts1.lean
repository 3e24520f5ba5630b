/- RankParts: the part that this text bears of the proof that the statement answers true for every input. No condition. -/
import Derived.Test.YtcabapilejagkaaProg
import Derived.Below
import Derived.Deep.Draws
import Derived.Deep.AppendLies
import Derived.Maps.AppendAt
import Derived.OwnWalk
import Derived.Laws.BytesArg
import Derived.Laws.MakeOwn
import Derived.Laws.OwnMore
import Derived.Deep.OwnRows
import Derived.Tactics
import Derived.Lib.ConvBytes
import Derived.Laws.Slices
import Derived.WalkKit
import Derived.KernelRfl
import Derived.RowKit3
import Derived.Deep.LoopGhost
import Derived.Deep.QuietTactic
import Derived.BigQuiet
import Derived.WideLaws
import Derived.Deep.DeepCutAuto
import Derived.Deep.CutBlock
import Derived.Deep.RegionHeld3
import Derived.Laws.Rows
import Derived.Lib.AppendStr
import Derived.ArgAppend
import Derived.Laws.IdiomCopy
import Derived.OrdersHeld
import Derived.Laws.BitsLemmas
import Derived.RowKit
import Derived.Deep.Slices
import Derived.ChangeArms
import Derived.ProofKit
import Derived.JoinedOf
import Derived.Shelf.Abstract
import Derived.WalkSpells
import Derived.RangeFuncNested
import Derived.RangeFuncBound
import Derived.RangeFuncCalls
import Derived.RangeFuncLeaves
import Derived.RangeFuncBox
import Derived.OwnWalkIn
import Derived.TacticsInMore
import Derived.LoopNIn
import Derived.LoopIn
import Derived.Laws.Externs
import Derived.Shelf.Spec.BitsCarry
import Derived.RegionIn
import Derived.Sort.QuietTacIn
import Derived.Deep.RegionWith
import Derived.Laws.BitsAllLaws
import Derived.Shelf.Lays
import Derived.Shelf.Strings.Builder1
import Derived.Shelf.Small.Bits
import Derived.Shelf.Bits.Mul64
import Derived.OpenShut
import Derived.ShutString
import Derived.ChangeOld
import Derived.SizedLaws
import Derived.Test.YtcabapilejagkaaQRankPartsWWords
import Derived.Test.YtcabapilejagkaaQRankPartsWLast
import Derived.Test.YtcabapilejagkaaQRankPartsWTab
import Derived.Test.YtcabapilejagkaaQRankPartsWFour
import Derived.Test.YtcabapilejagkaaQRankPartsWQPut
import Derived.Test.YtcabapilejagkaaQRankPartsWApart
import Derived.Test.YtcabapilejagkaaQRankPartsWArr
import Derived.Test.YtcabapilejagkaaQRankPartsWZeros
import Derived.Test.YtcabapilejagkaaQRankPartsWFoot
import Derived.Test.YtcabapilejagkaaQRankPartsWKept
import Derived.Test.YtcabapilejagkaaQRankPartsWShare
import Derived.Test.YtcabapilejagkaaQRankPartsWN
import Derived.Test.YtcabapilejagkaaQRankPartsWFootNe
import Derived.Test.YtcabapilejagkaaQRankPartsWAt
import Derived.Test.YtcabapilejagkaaQRankPartsWEqStruct
import Derived.Test.YtcabapilejagkaaQRankPartsWRepsOne
import Derived.Test.YtcabapilejagkaaQRankPartsWInv
import Derived.Test.YtcabapilejagkaaQRankPartsWInvWords
import Derived.Test.YtcabapilejagkaaQRankPartsWGuard
import Derived.Test.YtcabapilejagkaaQRankPartsWNEv
import Derived.Test.YtcabapilejagkaaQRankPartsWMore
import Derived.Test.YtcabapilejagkaaRows
import Derived.Test.YtcabapilejagkaaQRankParts0
namespace Go.Proofs.Ytcabapilejagkaa.P
open Go.RowKit Go.Shelf Go.Proofs.YtcabapilejagkaaW.PrintWords Go.Proofs.YtcabapilejagkaaW.PrintLast Go.Proofs.YtcabapilejagkaaW.PrintMore
set_option linter.unusedVariables false
set_option linter.unusedSimpArgs false
attribute [local go_sem] Oper.semAt_some
def findK : List Bk → Int → Option Bk
  | [], _ => none
  | b :: l, k => if k ≤ b.n then some b else findK l (k - b.n)
def leftK : List Bk → Int → Int
  | [], k => k
  | b :: l, k => leftK l (k - b.n)
theorem leftK_sum : ∀ (l : List Bk) (k : Int), leftK l k = k - sumB l
  | [], k => by simp [leftK, sumB]
  | b :: l, k => by rw [leftK, leftK_sum l]; simp only [sumB]; omega
theorem findK_app : ∀ (l m : List Bk) (k : Int), findK (l ++ m) k = match findK l k with | some b => some b | none => findK m (leftK l k)
  | [], m, k => rfl
  | b :: l, m, k => by
    simp only [List.cons_append, findK, leftK]
    by_cases c : k ≤ b.n
    · rw [if_pos c, if_pos c]
    · rw [if_neg c, if_neg c, findK_app l m]
theorem findK_left : ∀ (l : List Bk) (k : Int), (∀ b ∈ l, 0 ≤ b.n) → 0 < k → findK l k = none → 0 < leftK l k ∧ leftK l k ≤ k
  | [], k, _, h, _ => ⟨h, Int.le_refl _⟩
  | b :: l, k, hp, h, hn => by
    simp only [findK] at hn
    simp only [leftK]
    by_cases c : k ≤ b.n
    · rw [if_pos c] at hn; cases hn
    · rw [if_neg c] at hn
      have h1 := findK_left l (k - b.n) (fun x hx => hp x (List.mem_cons_of_mem _ hx)) (by omega) hn
      have h2 := hp b (List.mem_cons_self ..)
      omega
def atR (h : Hi) (k : Int) : Bk × Int := if checkR h = 0 then (if 0 < k then (match findK (toldW h) k with | some b => (b, 0) | none => (⟨0, 0, 0⟩, 11)) else (⟨0, 0, 0⟩, 11)) else (⟨0, 0, 0⟩, checkR h)
theorem at3 (w : World) (a b : Obj) (c : Array Value) (tc : TypeId) : Blk (((w.alloc a).alloc b).alloc (.cells c tc)) (w.heap.size + 1 + 1) c tc := by have := Blk.at1 (w := w.alloc a) b c tc; simpa using this
theorem at4 (w : World) (a b c : Obj) (d : Array Value) (td : TypeId) : Blk ((((w.alloc a).alloc b).alloc c).alloc (.cells d td)) (w.heap.size + 1 + 1 + 1) d td := by have := at3 (w.alloc a) b c d td; simpa using this
theorem three {W : World} {g : Nat} {t : TypeId} {a0 a1 a2 : Value} (h : W.heap[g]? = some (.cells #[a0, a1, a2] t (0, 0))) (v0 v1 v2 : Value) :
    (((W.setCell ⟨g, 0, none⟩ v0).setCell ⟨g, 1, none⟩ v1).setCell ⟨g, 2, none⟩ v2).heap[g]? = some (.cells #[v0, v1, v2] t (0, 0)) := by
  refine blk_put (cs := #[v0, v1, a2]) ?_ 2 _ rfl
  refine blk_put (cs := #[v0, a1, a2]) ?_ 1 _ rfl
  exact blk_put (cs := #[a0, a1, a2]) h 0 _ rfl
theorem Blk.grown {A B : World} {g : Nat} {cs : Array Value} {t : TypeId} {row : Option Nat} {n0 : Nat} (h : Blk A g cs t) (hg : A.grownBy B row) (hr : ∀ r, row = some r → n0 ≤ r ∧ ∃ o : Obj, A.heap[r]? = some o ∧ o.isCells = false) : Blk B g cs t :=
  (hg.block g (blk_lt h) (fun e => by obtain ⟨-, o, h1, h2⟩ := hr g e.symm; rw [show A.heap[g]? = _ from h] at h1; injection h1 with h1; subst h1; cases h2)).trans h
theorem blk_put_ne {W : World} {g g' j : Nat} {o : Obj} (h : W.heap[g]? = some o) (hne : g ≠ g') (u : Value) : (W.setCell ⟨g', j, none⟩ u).heap[g]? = some o := (Below.heap_setCell W ⟨g', j, none⟩ u g hne).trans h
theorem cell_put1 {W : World} {g g' : Nat} {a : Value} {t : TypeId} (h : Blk W g' #[a] t) (hne : g' ≠ g) (v0 v1 v2 u : Value) : ((((W.setCell ⟨g, 0, none⟩ v0).setCell ⟨g, 1, none⟩ v1).setCell ⟨g, 2, none⟩ v2).setCell ⟨g', 0, none⟩ u).cell? ⟨g', 0, none⟩ = some u := by
  have h3 := blk_put_ne (j := 2) (blk_put_ne (j := 1) (blk_put_ne (j := 0) h hne v0) hne v1) hne v2
  exact (Boxed.set u h3).cell
theorem blk_putObj_ne {W : World} {g D : Nat} {o : Obj} (h : W.heap[g]? = some o) (hne : g ≠ D) (o' : Obj) : (W.putObj D o').heap[g]? = some o := (World.putObj_heap_other hne).trans h
theorem cell_putObj_ne {W : World} {g D : Nat} {i : Nat} {v : Value} (h : W.cell? ⟨g, i, none⟩ = some v) (hne : g ≠ D) (o' : Obj) : (W.putObj D o').cell? ⟨g, i, none⟩ = some v := by
  have e : (W.putObj D o').heap[g]? = W.heap[g]? := World.putObj_heap_other hne
  simp only [World.cell?, e] at h ⊢
  exact h
theorem below_putObj_hi {n0 D : Nat} (W : World) (o : Obj) (_ : True) (h : n0 ≤ D) : Below n0 W (W.putObj D o) := by
  exact ⟨rfl, rfl, rfl, by simp [World.putObj], fun k hk => World.putObj_heap_other (by omega)⟩
theorem results_ci {P : Program} {fn : Func} {p p' : Tmp} {ty ty' : TypeId} (h : fn.results = #[.cell p ty, .cell p' ty']) (tmps : Array Value) (w : World) (g g' : Nat) (t : TypeId) (cs : Array Value) (fr : Nat × Nat) (d : TypeDesc) (kk : IntKind) (v' : Value)
    (hp : tmps.getD p undef = .pointer (some ⟨g, 0, none⟩)) (hg : w.heap[g]? = some (.cells cs t fr))
    (hu : P.underlying ty = some d) (hd : (match d with | .struct _ | .array _ _ => true | _ => false) = true) (hi : (P.info? ty).map (·.size) = some cs.size)
    (hp' : tmps.getD p' undef = .pointer (some ⟨g', 0, none⟩)) (hc : w.cell? ⟨g', 0, none⟩ = some v') (hu' : P.underlying ty' = some (.int kk)) :
    (results fn tmps).run P w = .ok (.tuple #[.agg cs, v']) w := by
  have h1 : tmps[p]?.getD undef = .pointer (some ⟨g, 0, none⟩) := by simpa using hp
  have h2 : tmps[p']?.getD undef = .pointer (some ⟨g', 0, none⟩) := by simpa using hp'
  have hagg : (isAgg ty').run P w = .ok false w := by
    unfold isAgg
    rw [Sem.run_bind, run_underlying hu' w]
    simp
  have hl : (loadVar ty' ⟨g', 0, none⟩).run P w = .ok v' w := by
    simp [loadVar, Sem.run_bind, hagg, hc, go_sem]
  simp [results, h, h1, h2, asAddr, run_loadVar_row w g t ty cs fr d hg hu hd hi, hl]
set_option maxHeartbeats 8000000 in
set_option maxRecDepth 100000 in
theorem at_c (h : Hi) (hw : wfH h) (k : Int) (hk : u64 k) (w : World) (v : Value) (hv : HI w v h) : Calls Try.prog 36 #[v, .int .u64 k] w fun e w' =>
    e = .returned (.tuple #[.agg (encB1 (atR h k).1), .int .i64 (atR h k).2]) ∧ Below w.heap.size w w' := by
  have hud := Try.underlying37
  have hub := Try.underlying62
  obtain ⟨A5, c5, A6, c6, A7, c7, A8, c8, e, -⟩ := hv.open_
  subst e
  have hal0 := below_alloc (below_alloc (below_alloc (below_alloc (Below.refl w.heap.size w) (.cells #[.int .i64 h.f0, .int .u64 h.f1, .int .u64 h.f2, .int .u64 h.f3, .int .u64 h.f4, .slice A5 h.f5.length c5, .slice A6 h.f6.length c6, .slice A7 h.f7.length c7, .slice A8 h.f8.length c8] 37)) (.cells #[.int .u64 k] 33)) (.cells #[.int .i64 0, .int .i64 0, .int .u64 0] 62)) (.cells #[.int .i64 0] 42)
  have HV := Aside0.mk (hv.below hal0)
  have X := Aside0.mk (((((Blk.new w #[.int .i64 h.f0, .int .u64 h.f1, .int .u64 h.f2, .int .u64 h.f3, .int .u64 h.f4, .slice A5 h.f5.length c5, .slice A6 h.f6.length c6, .slice A7 h.f7.length c7, .slice A8 h.f8.length c8] 37).alloc (.cells #[.int .u64 k] 33)).alloc (.cells #[.int .i64 0, .int .i64 0, .int .u64 0] 62)).alloc (.cells #[.int .i64 0] 42)))
  have hx := fun i => X.out.cell i
  have Y := Aside0.mk ((((Blk.at1 (w := w) (.cells #[.int .i64 h.f0, .int .u64 h.f1, .int .u64 h.f2, .int .u64 h.f3, .int .u64 h.f4, .slice A5 h.f5.length c5, .slice A6 h.f6.length c6, .slice A7 h.f7.length c7, .slice A8 h.f8.length c8] 37) #[.int .u64 k] 33).alloc (.cells #[.int .i64 0, .int .i64 0, .int .u64 0] 62)).alloc (.cells #[.int .i64 0] 42)))
  have hy := fun i => Y.out.cell i
  have R := Aside0.mk ((at3 w (.cells #[.int .i64 h.f0, .int .u64 h.f1, .int .u64 h.f2, .int .u64 h.f3, .int .u64 h.f4, .slice A5 h.f5.length c5, .slice A6 h.f6.length c6, .slice A7 h.f7.length c7, .slice A8 h.f8.length c8] 37) (.cells #[.int .u64 k] 33) #[.int .i64 0, .int .i64 0, .int .u64 0] 62).alloc (.cells #[.int .i64 0] 42))
  have hr := fun i => R.out.cell i
  have hrf := fun i => blk_frozen R.out i
  have S := Aside0.mk (at4 w (.cells #[.int .i64 h.f0, .int .u64 h.f1, .int .u64 h.f2, .int .u64 h.f3, .int .u64 h.f4, .slice A5 h.f5.length c5, .slice A6 h.f6.length c6, .slice A7 h.f7.length c7, .slice A8 h.f8.length c8] 37) (.cells #[.int .u64 k] 33) (.cells #[.int .i64 0, .int .i64 0, .int .u64 0] 62) #[.int .i64 0] 42)
  have hs := fun i => S.out.cell i
  have hsf := fun i => blk_frozen S.out i
  have B := Aside0.mk hal0
  have CK := Aside0.mk (check_c h hw)
  have WK := Aside0.mk (walk_c h hw)
  have HW := Aside0.mk hw
  clear hv hal0 hw
  unfold atR
  by_cases c1 : checkR h = 0
  rotate_left
  · rw [if_neg c1]
    generalize checkR h = ec at *
    have d1 : (ec != 0) = true := bne_iff_ne.2 c1
    clear c1 WK
    go_enter Try.func36, Try.ntmps36
    go_wp2_with (first | (go_at_call 72; (with_reducible refine (CK.out _ _ HV.out).mono ?_); rintro e W1 ⟨rfl, hb⟩; replace B := Aside0.mk (below_then B.out B.out.size hb); replace HV := Aside0.mk (HV.out.below hb); replace X := Aside0.mk (X.out.below hb); replace hx := fun i => X.out.cell i; replace Y := Aside0.mk (Y.out.below hb); replace hy := fun i => Y.out.cell i; replace R := Aside0.mk (R.out.below hb); replace hr := fun i => R.out.cell i; replace S := Aside0.mk (S.out.below hb); replace hs := fun i => S.out.cell i; replace hrf := fun i => blk_frozen R.out i; replace hsf := fun i => blk_frozen S.out i; have LOWA := Aside0.mk hb.size; clear hb))
    refine bodyPost_ret (results_ci rfl _ _ (w.heap.size + 1 + 1) (w.heap.size + 1 + 1 + 1) 62 #[_, _, _] (0, 0) _ .i64 (.int .i64 ec) rfl (blk_put_ne (three R.out _ _ _) (by omega) _) Try.underlying62 rfl (by kernel_rfl) rfl (cell_put1 S.out (by omega) _ _ _ _) Try.underlying42) rfl ?_
    exact ⟨rfl, (((B.out.setCell (by simp; omega) _).setCell (by simp; omega) _).setCell (by simp; omega) _).setCell (by simp; omega) _⟩
  rw [if_pos c1]
  rw [c1] at CK
  have HC := Aside0.mk c1
  clear c1
  by_cases c2 : 0 < k
  rotate_left
  · rw [if_neg c2]
    have d2 : decide (0 < k) = false := decide_eq_false c2
    go_enter Try.func36, Try.ntmps36
    go_wp2_with (first | (go_at_call 72; (with_reducible refine (CK.out _ _ HV.out).mono ?_); rintro e W1 ⟨rfl, hb⟩; replace B := Aside0.mk (below_then B.out B.out.size hb); replace HV := Aside0.mk (HV.out.below hb); replace X := Aside0.mk (X.out.below hb); replace hx := fun i => X.out.cell i; replace Y := Aside0.mk (Y.out.below hb); replace hy := fun i => Y.out.cell i; replace R := Aside0.mk (R.out.below hb); replace hr := fun i => R.out.cell i; replace S := Aside0.mk (S.out.below hb); replace hs := fun i => S.out.cell i; replace hrf := fun i => blk_frozen R.out i; replace hsf := fun i => blk_frozen S.out i; have LOWA := Aside0.mk hb.size; clear hb))
    refine bodyPost_ret (results_ci rfl _ _ (w.heap.size + 1 + 1) (w.heap.size + 1 + 1 + 1) 62 #[_, _, _] (0, 0) _ .i64 (.int .i64 11) rfl (blk_put_ne (three R.out _ _ _) (by omega) _) Try.underlying62 rfl (by kernel_rfl) rfl (cell_put1 S.out (by omega) _ _ _ _) Try.underlying42) rfl ?_
    exact ⟨rfl, (((B.out.setCell (by simp; omega) _).setCell (by simp; omega) _).setCell (by simp; omega) _).setCell (by simp; omega) _⟩
  rw [if_pos c2]
  generalize hans : (match findK (toldW h) k with | some b => ((b, 0) : Bk × Int) | none => (⟨0, 0, 0⟩, 11)) = ans
  have HANS := Aside0.mk hans
  clear hans
  have d2 : decide (0 < k) = true := decide_eq_true c2
  have C2 := Aside0.mk c2
  clear c2
  refine (callsIn_wide (n := 5)).1 ?_
  refine callsIn_of_wp_marks Try.func36 rfl trivial ?_ rfl
  simp only [Try.ntmps36, List.size_toArray, List.length_cons, List.length_nil, Nat.reduceAdd, Nat.reduceSub, Array.replicate_succ, Array.replicate_zero, List.push_toArray, List.append_toArray, List.nil_append, List.cons_append]
  refine wpIn_wide.2 ?_
  go_wp2_with (first | (go_at_call 72; (with_reducible refine (CK.out _ _ HV.out).mono ?_); rintro e W1 ⟨rfl, hb⟩; replace B := Aside0.mk (below_then B.out B.out.size hb); replace HV := Aside0.mk (HV.out.below hb); replace X := Aside0.mk (X.out.below hb); replace hx := fun i => X.out.cell i; replace Y := Aside0.mk (Y.out.below hb); replace hy := fun i => Y.out.cell i; replace R := Aside0.mk (R.out.below hb); replace hr := fun i => R.out.cell i; replace S := Aside0.mk (S.out.below hb); replace hs := fun i => S.out.cell i; replace hrf := fun i => blk_frozen R.out i; replace hsf := fun i => blk_frozen S.out i; have LOWA := Aside0.mk hb.size; clear hb) | (go_at_call 32; (with_reducible refine (WK.out _ _ HV.out).mono ?_); rintro e W2 ⟨bE, bN, bH, bP, rfl, hS, hb⟩; replace B := Aside0.mk (below_then B.out B.out.size hb); replace HV := Aside0.mk (HV.out.below hb); replace X := Aside0.mk (X.out.below hb); replace hx := fun i => X.out.cell i; replace Y := Aside0.mk (Y.out.below hb); replace hy := fun i => Y.out.cell i; replace R := Aside0.mk (R.out.below hb); replace hr := fun i => R.out.cell i; replace S := Aside0.mk (S.out.below hb); replace hs := fun i => S.out.cell i; replace hrf := fun i => blk_frozen R.out i; replace hsf := fun i => blk_frozen S.out i; have HS := Aside0.mk hS; have HB2 := Aside0.mk hb; clear hS hb))
  refine (wpIn_wide (n := 5)).1 ?_
  have hw1 : w.heap.size + 1 + 1 + 1 + 1 ≤ W1.heap.size := by have := LOWA.out; simpa using this
  have hw2 : W1.heap.size ≤ W2.heap.size := HB2.out.size
  have HR2 := Aside0.mk (R.out)
  have HY2 := Aside0.mk (Y.out)
  have HS2 := Aside0.mk (S.out)
  have HB0 := Aside0.mk B.out
  have HBA := Aside0.mk HS.out
  clear hx hy hr hs hrf hsf HB2 CK
  refine wpIn_rangeFunc_ownH rfl (by omega) (gf := 95) (lb := #[.pointer (some ⟨bE, 0, none⟩), .pointer (some ⟨bN, 0, none⟩), .pointer (some ⟨bH, 0, none⟩), .pointer (some ⟨bP, 0, none⟩)]) rfl trivial (enters_of Try.func95 (by kernel_rfl) rfl)
    (walk1_stops _ (by omega) W1.heap.size bE bN bH bP h HW.out W2 hw2 HS.out) KeepC.trans (fun W l o o' _ h hc _ => KeepC.put W l o o' h hc) (Below.refl _ _) (fun _ => rfl)
    (fun pre W => (findK (toldL h pre) k = none ∧ Blk W (w.heap.size + 1) #[.int .u64 (leftK (toldL h pre) k)] 33) ∧ (Blk W (w.heap.size + 1 + 1) #[.int .i64 0, .int .i64 0, .int .u64 0] 62 ∧ Blk W (w.heap.size + 1 + 1 + 1) #[.int .i64 0] 42) ∧ (Below w.heap.size w W ∧ W2.heap.size ≤ W.heap.size))
    (fun c pre W => c = .ret ∧ (∃ b, findK (toldL h pre) k = some b ∧ Blk W (w.heap.size + 1 + 1) (encB1 b) 62) ∧ Blk W (w.heap.size + 1 + 1 + 1) #[.int .i64 0] 42 ∧ (Below w.heap.size w W ∧ W2.heap.size ≤ W.heap.size))
    (fun s A B row ⟨⟨q1, q2⟩, ⟨q3, q4⟩, q5, q6⟩ hg hr => ⟨⟨q1, q2.grown hg hr⟩, ⟨q3.grown hg hr, q4.grown hg hr⟩, (ownFrom_below (Nat.le_refl _) (by omega)) s A B row q5 hg hr, Nat.le_trans q6 hg.size⟩)
    (fun c s A B row ⟨q0, ⟨b, q1, q2⟩, q4, q5, q6⟩ hg hr => ⟨q0, ⟨b, q1, q2.grown hg hr⟩, q4.grown hg hr, (ownFrom_below (Nat.le_refl _) (by omega)) s A B row q5 hg hr, Nat.le_trans q6 hg.size⟩)
    ⟨⟨rfl, HY2.out⟩, ⟨HR2.out, HS2.out⟩, HB0.out, Nat.le_refl _⟩
    (fun x a' W => ∃ b, a' = ({ tmps := #[.agg #[.int .i64 h.f0, .int .u64 h.f1, .int .u64 h.f2, .int .u64 h.f3, .int .u64 h.f4, .slice A5 h.f5.length c5, .slice A6 h.f6.length c6, .slice A7 h.f7.length c7, .slice A8 h.f8.length c8], .int .u64 k, .pointer (some ⟨w.heap.size, 0, none⟩), .pointer (some ⟨w.heap.size + 1, 0, none⟩), .pointer (some ⟨w.heap.size + 1 + 1, 0, none⟩), .pointer (some ⟨w.heap.size + 1 + 1 + 1, 0, none⟩), .int .i64 0, .pointer (some ⟨b, 0, none⟩), .agg #[.int .i64 h.f0, .int .u64 h.f1, .int .u64 h.f2, .int .u64 h.f3, .int .u64 h.f4, .slice A5 h.f5.length c5, .slice A6 h.f6.length c6, .slice A7 h.f7.length c7, .slice A8 h.f8.length c8], .int .i64 0, .int .i64 0, .bool false, undef, undef, .int .u64 k, .bool true, .agg #[.int .i64 h.f0, .int .u64 h.f1, .int .u64 h.f2, .int .u64 h.f3, .int .u64 h.f4, .slice A5 h.f5.length c5, .slice A6 h.f6.length c6, .slice A7 h.f7.length c7, .slice A8 h.f8.length c8], .func (.func 95) #[] #[.pointer (some ⟨bE, 0, none⟩), .pointer (some ⟨bN, 0, none⟩), .pointer (some ⟨bH, 0, none⟩), .pointer (some ⟨bP, 0, none⟩)], encB ((toldW h).get x), undef, undef, undef, undef, undef, undef, undef, undef, undef, undef], defers := [] } : Act) ∧ BlkF W b (encB1 ((toldW h).get x)) ∧ W2.heap.size ≤ b) (fun x a' s A B row ⟨b, e, hb, hge⟩ hg hr => ⟨b, e, hb.grown hg hr, hge⟩) ?assign ?body ?done ?stop
  case assign =>
    intro l pre x W K hI hK
    have HI_ := Aside0.mk hI
    have HK := Aside0.mk hK
    clear hI hK
    obtain ⟨y, hy⟩ : ∃ y, y = (toldW h).get x := ⟨_, rfl⟩
    have HY := Aside0.mk hy
    simp only [← hy]
    clear hy
    unfold encB
    gi_wp2
    have hbl := below_alloc (Below.refl W.heap.size W) (.cells (encB1 y) 62)
    obtain ⟨⟨q1, q2⟩, ⟨q3, q4⟩, q5, q6⟩ := HI_.out
    refine HK.out _ _ ((KeepsOthers.alloc W (.cells (encB1 y) 62)).from _) (KeepC.of_below hbl) ⟨⟨q1, q2.alloc _⟩, ⟨q3.alloc _, q4.alloc _⟩, below_then q5 q5.size hbl, Nat.le_trans q6 hbl.size⟩ ⟨W.heap.size, ?_, ?_, q6⟩
    · rw [← HY.out]; rfl
    · rw [← HY.out]; exact Blk.new W _ _
  case body =>
    rintro l pre x a' W hl hlr ⟨⟨q1, q2⟩, ⟨q3, q4⟩, q5, q6⟩ ⟨b, rfl, hb, hge⟩ hlt
    have hxin : (toldW h).get x ∈ toldW h := List.get_mem _ _
    obtain ⟨y, hy⟩ : ∃ y, y = (toldW h).get x := ⟨_, rfl⟩
    have HT := Aside0.mk (toldL_snoc h pre x)
    rw [← hy] at hb HT hxin
    simp only [← hy]
    clear hy
    have hfk := findK_app (toldL h pre) [y] k
    have hlk : leftK (toldL h pre ++ [y]) k = leftK (toldL h pre) k - y.n := by rw [leftK_sum, leftK_sum, sumB_snoc]; omega
    have hpos := findK_left (toldL h pre) k (fun b hb => by obtain ⟨i, _, rfl⟩ := List.mem_map.1 hb; exact (toldW_u64 HW.out _ (List.get_mem _ _)).1) C2.out q1
    rw [q1, ← HT.out] at hfk
    rw [← HT.out] at hlk
    simp only [findK] at hfk
    have hyu := toldW_u64 HW.out y hxin
    generalize leftK (toldL h pre) k = kl at *
    unfold encB
    have hc := fun i => Blk.cell q2 i
    have hcf := fun i => blk_frozen q2 i
    have hbc := fun i => Blk.cell hb i
    have hrc := fun i => Blk.cell q3 i
    have hrf := fun i => blk_frozen q3 i
    have hsc := fun i => Blk.cell q4 i
    have hsf := fun i => blk_frozen q4 i
    have K2 := Aside0.mk q2
    have K3 := Aside0.mk q3
    have K4 := Aside0.mk q4
    have K5 := Aside0.mk q5
    have K6 := Aside0.mk q6
    have HBB := Aside0.mk hb
    have HU := Aside0.mk hyu
    have HP := Aside0.mk hpos
    have HF := Aside0.mk hfk
    have HL := Aside0.mk hlk
    clear q1 q2 q3 q4 q5 q6 hb hl hlr hlt hyu hpos hfk hlk hxin
    unfold encB1 at hbc
    by_cases cc : kl ≤ y.n
    · have d3 : decide (kl ≤ y.n) = true := decide_eq_true cc
      have HC3 := Aside0.mk cc
      clear cc
      gi_wp2
      refine ⟨((((KeepsOthers.setCell _ _ _).trans (KeepsOthers.setCell _ _ _)).trans (KeepsOthers.setCell _ _ _)).trans (KeepsOthers.setCell _ _ _)).from _, rfl, ⟨y, ?_, blk_put_ne (three K3.out _ _ _) (by omega) _⟩, ?_, ?_, ?_⟩
      · rw [HF.out, if_pos HC3.out]
      · exact Boxed.set _ (blk_put_ne (j := 2) (blk_put_ne (j := 1) (blk_put_ne (j := 0) K4.out (by omega) _) (by omega) _) (by omega) _)
      · exact (((K5.out.setCell (by simp; omega) _).setCell (by simp; omega) _).setCell (by simp; omega) _).setCell (by simp; omega) _
      · have h6_ := K6.out; simpa [World.setCell] using h6_
    · have d3 : decide (kl ≤ y.n) = false := decide_eq_false cc
      have HC3 := Aside0.mk cc
      clear cc
      have hw_ : IntKind.u64.wrap (kl - y.n) = kl - y.n := by
        have h_ : IntKind.u64.wrap (kl - y.n) = (kl - y.n) % 18446744073709551616 := rfl
        have h1_ := HU.out; have h2_ := HP.out; have h3_ := HC3.out
        unfold u64 at hk h1_
        rw [h_]; omega
      gi_wp2
      refine ⟨(KeepsOthers.setCell _ _ _).from _, KeepC.setCell _ (by omega) _, ⟨?_, ?_⟩, ⟨blk_put_ne K3.out (by omega) _, blk_put_ne K4.out (by omega) _⟩, K5.out.setCell (by show w.heap.size ≤ w.heap.size + 1; omega) _, ?_⟩
      · rw [HF.out, if_neg (by have h3_ := HC3.out; omega)]
      · rw [HL.out]; exact Boxed.set _ K2.out
      · have h6_ := K6.out; simpa [World.setCell] using h6_
  case done =>
    rintro D xs W hD hS ⟨⟨q1, q2⟩, ⟨q3, q4⟩, q5, q6⟩ hK
    rw [toldL_all hS] at q1
    have hf : ans = (⟨0, 0, 0⟩, 11) := by rw [← HANS.out, q1]
    have HF := Aside0.mk hf
    clear hf
    have hrc := fun i => Blk.cell q3 i
    have hrf := fun i => blk_frozen q3 i
    have hsc := fun i => Blk.cell q4 i
    have hsf := fun i => blk_frozen q4 i
    have K3 := Aside0.mk q3
    have K4 := Aside0.mk q4
    have K5 := Aside0.mk q5
    have HK := Aside0.mk hK
    clear q1 q2 q3 q4 q5 q6 hK hS
    go_wp2
    refine ⟨by simp, .inl ⟨_, _, rfl, run_takeDeferred (blk_put_ne (blk_put_ne (j := 2) (blk_put_ne (j := 1) (blk_put_ne (j := 0) HK.out (by omega) _) (by omega) _) (by omega) _) (by omega) _), ?_⟩⟩
    refine ⟨_, results_ci rfl _ _ (w.heap.size + 1 + 1) (w.heap.size + 1 + 1 + 1) 62 #[_, _, _] (0, 0) _ .i64 (.int .i64 11) rfl (blk_putObj_ne (blk_put_ne (three K3.out _ _ _) (by omega) _) (by omega) _) Try.underlying62 rfl (by kernel_rfl) rfl (cell_putObj_ne (cell_put1 K4.out (by omega) _ _ _ _) (by omega) _) Try.underlying42, ?_, ?_⟩
    · rw [HF.out]; rfl
    · exact ((((K5.out.setCell (by simp; omega) _).setCell (by simp; omega) _).setCell (by simp; omega) _).setCell (by simp; omega) _).trans (below_putObj_hi _ _ trivial (by omega))
  case stop =>
    rintro D c pre W hD hS ⟨rfl, ⟨b, q1, q2⟩, q4, q5, q6⟩ hK
    have hf : findK (toldW h) k = some b := by
      rw [toldL_take hS] at q1
      rw [← List.take_append_drop pre.length (toldW h), findK_app, q1]
    have hf : ans = (b, 0) := by rw [← HANS.out, hf]
    have HF := Aside0.mk hf
    have K3 := Aside0.mk q2
    have K4 := Aside0.mk q4
    have K5 := Aside0.mk q5
    have HK := Aside0.mk hK
    clear q1 q2 q4 q5 q6 hK hS hf
    gi_wp2
    refine ⟨by simp, .inl ⟨_, _, rfl, run_takeDeferred HK.out, ?_⟩⟩
    refine ⟨_, results_ci rfl _ _ (w.heap.size + 1 + 1) (w.heap.size + 1 + 1 + 1) 62 (encB1 b) (0, 0) _ .i64 (.int .i64 0) rfl (blk_putObj_ne K3.out (by omega) _) Try.underlying62 rfl (by kernel_rfl) rfl (cell_putObj_ne ((Blk.cell K4.out 0).trans rfl) (by omega) _) Try.underlying42, ?_, ?_⟩
    · rw [HF.out]
    · exact K5.out.trans (below_putObj_hi _ _ trivial (by omega))
end Go.Proofs.Ytcabapilejagkaa.P
namespace Go.Proofs.Ytcabapilejagkaa.P
open Go.RowKit Go.Proofs.YtcabapilejagkaaW.PrintWords Go.Proofs.YtcabapilejagkaaW.PrintLast Go.Proofs.YtcabapilejagkaaW.PrintMore
attribute [local go_sem] max2_int min2_int max_two min_two max_three min_three max_four min_four
set_option linter.unusedVariables false
set_option linter.unusedSimpArgs false
def cmp_isNaN_int.f (a0 : Int) : Option (Bool) := some (a0 != a0)
set_option maxHeartbeats 8000000 in
set_option maxRecDepth 100000 in
theorem cmp_isNaN_int.calls (a0 : Int) (r : Bool) (w : World) (h : cmp_isNaN_int.f a0 = some r) :
  Calls Try.prog 158 #[.int .i64 a0] w fun e w' => e = .returned (.bool r) ∧ Drawn0 w w' := by
 have H : (some (a0 != a0)) = some r := h
 clear h
 obtain rfl := Option.some.inj H
 go_enter Try.func158, Try.ntmps158
 go_wp2
 go_ret
 exact ⟨by first | rfl | (simp; done) | (simp [*]; done), by repeat (first | exact Drawn0.refl _ | apply Drawn0.step)⟩
def cmp_Compare_int.f (a0 : Int) (a1 : Int) : Option (Int) := (cmp_isNaN_int.f a0).bind fun t101 => ((cmp_isNaN_int.f a1).bind fun t102 => (if t101 = true then (if t102 = true then (some 0) else (some (-1))) else (if t102 = true then (some 1) else (if a0 < a1 then (some (-1)) else (if a0 > a1 then (some 1) else (some 0))))))
set_option maxHeartbeats 8000000 in
set_option maxRecDepth 100000 in
theorem cmp_Compare_int.calls (a0 : Int) (a1 : Int) (r : Int) (w : World) (h : cmp_Compare_int.f a0 a1 = some r) :
  Calls Try.prog 137 #[.int .i64 a0, .int .i64 a1] w fun e w' => e = .returned (.int .i64 r) ∧ Drawn0 w w' := by
 have H : ((cmp_isNaN_int.f a0).bind fun t101 => ((cmp_isNaN_int.f a1).bind fun t102 => (if t101 = true then (if t102 = true then (some 0) else (some (-1))) else (if t102 = true then (some 1) else (if a0 < a1 then (some (-1)) else (if a0 > a1 then (some 1) else (some 0))))))) = some r := h
 clear h
 replace H := Option.bind_eq_some_iff.mp H
 obtain ⟨t101, A30, H⟩ := H
 replace H : ((cmp_isNaN_int.f a1).bind fun t102 => (if t101 = true then (if t102 = true then (some 0) else (some (-1))) else (if t102 = true then (some 1) else (if a0 < a1 then (some (-1)) else (if a0 > a1 then (some 1) else (some 0)))))) = some r := H
 have A3 := Aside0.mk A30
 clear A30
 replace H := Option.bind_eq_some_iff.mp H
 obtain ⟨t102, A40, H⟩ := H
 replace H : (if t101 = true then (if t102 = true then (some 0) else (some (-1))) else (if t102 = true then (some 1) else (if a0 < a1 then (some (-1)) else (if a0 > a1 then (some 1) else (some 0))))) = some r := H
 have A4 := Aside0.mk A40
 clear A40
 by_cases c5 : t101 = true
 ·subst c5
  have H1 : (if t102 = true then (some 0) else (some (-1))) = some r := by rw [if_pos rfl] at H; exact H
  clear H
  have H := H1
  clear H1
  by_cases c6 : t102 = true
  ·subst c6
   have H1 : (some 0) = some r := by rw [if_pos rfl] at H; exact H
   clear H
   have H := H1
   clear H1
   obtain rfl := Option.some.inj H
   go_enter Try.func137, Try.ntmps137
   go_wp2_with (first | ((with_reducible refine gate_callee (f := 158) rfl ?_); refine goesL_ (some 8) rfl rfl Try.func158 (by kernel_rfl) rfl #[.int .i64 a0] rfl (by (try simp only [List.map_toArray, List.map_cons, List.map_nil]); first | done | rfl | (simp only [List.length_drop, List.length_take]; rfl)) ?_; (with_reducible refine (cmp_isNaN_int.calls a0 true _ A3.out).mono ?_); rintro e w' ⟨rfl, ⟨nd, rfl⟩⟩; refine ⟨_, rfl, ?_⟩; clear A3) | ((with_reducible refine gate_callee (f := 158) rfl ?_); refine goesL_ (some 10) rfl rfl Try.func158 (by kernel_rfl) rfl #[.int .i64 a1] rfl (by (try simp only [List.map_toArray, List.map_cons, List.map_nil]); first | done | rfl | (simp only [List.length_drop, List.length_take]; rfl)) ?_; (with_reducible refine (cmp_isNaN_int.calls a1 true _ A4.out).mono ?_); rintro e w' ⟨rfl, ⟨nd, rfl⟩⟩; refine ⟨_, rfl, ?_⟩; clear A4))
   go_ret
   exact ⟨by first | rfl | (simp; done) | (simp [*]; done), by repeat (first | exact Drawn0.refl _ | apply Drawn0.step)⟩
  ·replace c6 := Bool.eq_false_iff.mpr c6
   subst c6
   have H1 : (some (-1)) = some r := by rw [if_neg (show ¬ (false = true) by decide)] at H; exact H
   clear H
   have H := H1
   clear H1
   obtain rfl := Option.some.inj H
   go_enter Try.func137, Try.ntmps137
   go_wp2_with (first | ((with_reducible refine gate_callee (f := 158) rfl ?_); refine goesL_ (some 8) rfl rfl Try.func158 (by kernel_rfl) rfl #[.int .i64 a0] rfl (by (try simp only [List.map_toArray, List.map_cons, List.map_nil]); first | done | rfl | (simp only [List.length_drop, List.length_take]; rfl)) ?_; (with_reducible refine (cmp_isNaN_int.calls a0 true _ A3.out).mono ?_); rintro e w' ⟨rfl, ⟨nd, rfl⟩⟩; refine ⟨_, rfl, ?_⟩; clear A3) | ((with_reducible refine gate_callee (f := 158) rfl ?_); refine goesL_ (some 10) rfl rfl Try.func158 (by kernel_rfl) rfl #[.int .i64 a1] rfl (by (try simp only [List.map_toArray, List.map_cons, List.map_nil]); first | done | rfl | (simp only [List.length_drop, List.length_take]; rfl)) ?_; (with_reducible refine (cmp_isNaN_int.calls a1 false _ A4.out).mono ?_); rintro e w' ⟨rfl, ⟨nd, rfl⟩⟩; refine ⟨_, rfl, ?_⟩; clear A4))
   go_ret
   exact ⟨by first | rfl | (simp; done) | (simp [*]; done), by repeat (first | exact Drawn0.refl _ | apply Drawn0.step)⟩
 ·replace c5 := Bool.eq_false_iff.mpr c5
  subst c5
  have H1 : (if t102 = true then (some 1) else (if a0 < a1 then (some (-1)) else (if a0 > a1 then (some 1) else (some 0)))) = some r := by rw [if_neg (show ¬ (false = true) by decide)] at H; exact H
  clear H
  have H := H1
  clear H1
  by_cases c7 : t102 = true
  ·subst c7
   have H1 : (some 1) = some r := by rw [if_pos rfl] at H; exact H
   clear H
   have H := H1
   clear H1
   obtain rfl := Option.some.inj H
   go_enter Try.func137, Try.ntmps137
   go_wp2_with (first | ((with_reducible refine gate_callee (f := 158) rfl ?_); refine goesL_ (some 8) rfl rfl Try.func158 (by kernel_rfl) rfl #[.int .i64 a0] rfl (by (try simp only [List.map_toArray, List.map_cons, List.map_nil]); first | done | rfl | (simp only [List.length_drop, List.length_take]; rfl)) ?_; (with_reducible refine (cmp_isNaN_int.calls a0 false _ A3.out).mono ?_); rintro e w' ⟨rfl, ⟨nd, rfl⟩⟩; refine ⟨_, rfl, ?_⟩; clear A3) | ((with_reducible refine gate_callee (f := 158) rfl ?_); refine goesL_ (some 10) rfl rfl Try.func158 (by kernel_rfl) rfl #[.int .i64 a1] rfl (by (try simp only [List.map_toArray, List.map_cons, List.map_nil]); first | done | rfl | (simp only [List.length_drop, List.length_take]; rfl)) ?_; (with_reducible refine (cmp_isNaN_int.calls a1 true _ A4.out).mono ?_); rintro e w' ⟨rfl, ⟨nd, rfl⟩⟩; refine ⟨_, rfl, ?_⟩; clear A4))
   go_ret
   exact ⟨by first | rfl | (simp; done) | (simp [*]; done), by repeat (first | exact Drawn0.refl _ | apply Drawn0.step)⟩
  ·replace c7 := Bool.eq_false_iff.mpr c7
   subst c7
   have H1 : (if a0 < a1 then (some (-1)) else (if a0 > a1 then (some 1) else (some 0))) = some r := by rw [if_neg (show ¬ (false = true) by decide)] at H; exact H
   clear H
   have H := H1
   clear H1
   by_cases c8 : a0 < a1
   ·rw [if_pos c8] at H
    have c8b0 : decide (a0 < a1) = true := decide_eq_true c8
    clear c8
    obtain rfl := Option.some.inj H
    go_enter Try.func137, Try.ntmps137
    go_wp2_with (first | ((with_reducible refine gate_callee (f := 158) rfl ?_); refine goesL_ (some 8) rfl rfl Try.func158 (by kernel_rfl) rfl #[.int .i64 a0] rfl (by (try simp only [List.map_toArray, List.map_cons, List.map_nil]); first | done | rfl | (simp only [List.length_drop, List.length_take]; rfl)) ?_; (with_reducible refine (cmp_isNaN_int.calls a0 false _ A3.out).mono ?_); rintro e w' ⟨rfl, ⟨nd, rfl⟩⟩; refine ⟨_, rfl, ?_⟩; clear A3) | ((with_reducible refine gate_callee (f := 158) rfl ?_); refine goesL_ (some 10) rfl rfl Try.func158 (by kernel_rfl) rfl #[.int .i64 a1] rfl (by (try simp only [List.map_toArray, List.map_cons, List.map_nil]); first | done | rfl | (simp only [List.length_drop, List.length_take]; rfl)) ?_; (with_reducible refine (cmp_isNaN_int.calls a1 false _ A4.out).mono ?_); rintro e w' ⟨rfl, ⟨nd, rfl⟩⟩; refine ⟨_, rfl, ?_⟩; clear A4))
    go_ret
    exact ⟨by first | rfl | (simp; done) | (simp [*]; done), by repeat (first | exact Drawn0.refl _ | apply Drawn0.step)⟩
   ·rw [if_neg c8] at H
    have c8b0 : decide (a0 < a1) = false := decide_eq_false c8
    clear c8
    by_cases c9 : a0 > a1
    ·rw [if_pos c9] at H
     have c9b0 : decide (a1 < a0) = true := decide_eq_true c9
     clear c9
     obtain rfl := Option.some.inj H
     go_enter Try.func137, Try.ntmps137
     go_wp2_with (first | ((with_reducible refine gate_callee (f := 158) rfl ?_); refine goesL_ (some 8) rfl rfl Try.func158 (by kernel_rfl) rfl #[.int .i64 a0] rfl (by (try simp only [List.map_toArray, List.map_cons, List.map_nil]); first | done | rfl | (simp only [List.length_drop, List.length_take]; rfl)) ?_; (with_reducible refine (cmp_isNaN_int.calls a0 false _ A3.out).mono ?_); rintro e w' ⟨rfl, ⟨nd, rfl⟩⟩; refine ⟨_, rfl, ?_⟩; clear A3) | ((with_reducible refine gate_callee (f := 158) rfl ?_); refine goesL_ (some 10) rfl rfl Try.func158 (by kernel_rfl) rfl #[.int .i64 a1] rfl (by (try simp only [List.map_toArray, List.map_cons, List.map_nil]); first | done | rfl | (simp only [List.length_drop, List.length_take]; rfl)) ?_; (with_reducible refine (cmp_isNaN_int.calls a1 false _ A4.out).mono ?_); rintro e w' ⟨rfl, ⟨nd, rfl⟩⟩; refine ⟨_, rfl, ?_⟩; clear A4))
     go_ret
     exact ⟨by first | rfl | (simp; done) | (simp [*]; done), by repeat (first | exact Drawn0.refl _ | apply Drawn0.step)⟩
    ·rw [if_neg c9] at H
     have c9b0 : decide (a1 < a0) = false := decide_eq_false c9
     clear c9
     obtain rfl := Option.some.inj H
     go_enter Try.func137, Try.ntmps137
     go_wp2_with (first | ((with_reducible refine gate_callee (f := 158) rfl ?_); refine goesL_ (some 8) rfl rfl Try.func158 (by kernel_rfl) rfl #[.int .i64 a0] rfl (by (try simp only [List.map_toArray, List.map_cons, List.map_nil]); first | done | rfl | (simp only [List.length_drop, List.length_take]; rfl)) ?_; (with_reducible refine (cmp_isNaN_int.calls a0 false _ A3.out).mono ?_); rintro e w' ⟨rfl, ⟨nd, rfl⟩⟩; refine ⟨_, rfl, ?_⟩; clear A3) | ((with_reducible refine gate_callee (f := 158) rfl ?_); refine goesL_ (some 10) rfl rfl Try.func158 (by kernel_rfl) rfl #[.int .i64 a1] rfl (by (try simp only [List.map_toArray, List.map_cons, List.map_nil]); first | done | rfl | (simp only [List.length_drop, List.length_take]; rfl)) ?_; (with_reducible refine (cmp_isNaN_int.calls a1 false _ A4.out).mono ?_); rintro e w' ⟨rfl, ⟨nd, rfl⟩⟩; refine ⟨_, rfl, ?_⟩; clear A4))
     go_ret
     exact ⟨by first | rfl | (simp; done) | (simp [*]; done), by repeat (first | exact Drawn0.refl _ | apply Drawn0.step)⟩
def rank_third.f (a0 : Int) : Option (Int) := if a0 = 1 then (some 0) else (if a0 = 2 then (some 1) else (some 2))
set_option maxHeartbeats 8000000 in
set_option maxRecDepth 100000 in
theorem rank_third.calls (a0 : Int) (r : Int) (w : World) (h : rank_third.f a0 = some r) :
  Calls Try.prog 138 #[.int .i64 a0] w fun e w' => e = .returned (.int .i64 r) ∧ Drawn0 w w' := by
 have H : (if a0 = 1 then (some 0) else (if a0 = 2 then (some 1) else (some 2))) = some r := h
 clear h
 by_cases c2 : a0 = 1
 ·rw [if_pos c2] at H
  have c2b0 : (a0 == 1) = true := beq_iff_eq.mpr c2
  have c2b1 : (a0 != 1) = false := bne_eq_false_iff_eq.mpr c2
  clear c2
  obtain rfl := Option.some.inj H
  go_enter Try.func138, Try.ntmps138
  go_wp2
  go_ret
  exact ⟨by first | rfl | (simp; done) | (simp [*]; done), by repeat (first | exact Drawn0.refl _ | apply Drawn0.step)⟩
 ·rw [if_neg c2] at H
  have c2b0 : (a0 == 1) = false := beq_eq_false_iff_ne.mpr c2
  have c2b1 : (a0 != 1) = true := bne_iff_ne.mpr c2
  by_cases c3 : a0 = 2
  ·rw [if_pos c3] at H
   have c3b0 : (a0 == 2) = true := beq_iff_eq.mpr c3
   have c3b1 : (a0 != 2) = false := bne_eq_false_iff_eq.mpr c3
   clear c3
   obtain rfl := Option.some.inj H
   go_enter Try.func138, Try.ntmps138
   go_wp2
   go_ret
   exact ⟨by first | rfl | (simp; done) | (simp [*]; done), by repeat (first | exact Drawn0.refl _ | apply Drawn0.step)⟩
  ·rw [if_neg c3] at H
   have c3b0 : (a0 == 2) = false := beq_eq_false_iff_ne.mpr c3
   have c3b1 : (a0 != 2) = true := bne_iff_ne.mpr c3
   obtain rfl := Option.some.inj H
   go_enter Try.func138, Try.ntmps138
   go_wp2
   go_ret
   exact ⟨by first | rfl | (simp; done) | (simp [*]; done), by repeat (first | exact Drawn0.refl _ | apply Drawn0.step)⟩
def rank_behind.f (a0_0 : Int) (a0_1 : Int) (a0_2 : Int) (a1 : Int) (a2 : Int) : Option (Bool) := (rank_third.f a0_0).bind fun t102 => ((rank_third.f a1).bind fun t103 => ((cmp_Compare_int.f t102 t103).bind fun t104 => (if t104 = 0 then (if a1 = 1 then (some (decide (a0_1 < a2))) else (if a1 = 0 then (some (decide (a0_1 > a2))) else (some false))) else (some (decide (t104 > 0))))))
set_option maxHeartbeats 8000000 in
set_option maxRecDepth 100000 in
theorem rank_behind.calls (a0_0 : Int) (a0_1 : Int) (a0_2 : Int) (a1 : Int) (a2 : Int) (r : Bool) (w : World) (h : rank_behind.f a0_0 a0_1 a0_2 a1 a2 = some r) :
  Calls Try.prog 100 #[.agg #[.int .i64 a0_0, .int .i64 a0_1, .int .u64 a0_2], .int .i64 a1, .int .i64 a2] w fun e w' => e = .returned (.bool r) ∧ Below w.heap.size w w' := by
 have hu62 := Try.underlying62
 have HB := Aside0.mk (Below.refl w.heap.size w)
 have H : ((rank_third.f a0_0).bind fun t102 => ((rank_third.f a1).bind fun t103 => ((cmp_Compare_int.f t102 t103).bind fun t104 => (if t104 = 0 then (if a1 = 1 then (some (decide (a0_1 < a2))) else (if a1 = 0 then (some (decide (a0_1 > a2))) else (some false))) else (some (decide (t104 > 0))))))) = some r := h
 clear h
 replace H := Option.bind_eq_some_iff.mp H
 obtain ⟨t102, A40, H⟩ := H
 replace H : ((rank_third.f a1).bind fun t103 => ((cmp_Compare_int.f t102 t103).bind fun t104 => (if t104 = 0 then (if a1 = 1 then (some (decide (a0_1 < a2))) else (if a1 = 0 then (some (decide (a0_1 > a2))) else (some false))) else (some (decide (t104 > 0)))))) = some r := H
 have A4 := Aside0.mk A40
 clear A40
 replace H := Option.bind_eq_some_iff.mp H
 obtain ⟨t103, A50, H⟩ := H
 replace H : ((cmp_Compare_int.f t102 t103).bind fun t104 => (if t104 = 0 then (if a1 = 1 then (some (decide (a0_1 < a2))) else (if a1 = 0 then (some (decide (a0_1 > a2))) else (some false))) else (some (decide (t104 > 0))))) = some r := H
 have A5 := Aside0.mk A50
 clear A50
 replace H := Option.bind_eq_some_iff.mp H
 obtain ⟨t104, A60, H⟩ := H
 replace H : (if t104 = 0 then (if a1 = 1 then (some (decide (a0_1 < a2))) else (if a1 = 0 then (some (decide (a0_1 > a2))) else (some false))) else (some (decide (t104 > 0)))) = some r := H
 have A6 := Aside0.mk A60
 clear A60
 by_cases c7 : t104 = 0
 ·rw [if_pos c7] at H
  have c7b0 : (t104 == 0) = true := beq_iff_eq.mpr c7
  have c7b1 : (t104 != 0) = false := bne_eq_false_iff_eq.mpr c7
  clear c7
  by_cases c8 : a1 = 1
  ·rw [if_pos c8] at H
   have c8b0 : (a1 == 1) = true := beq_iff_eq.mpr c8
   have c8b1 : (a1 != 1) = false := bne_eq_false_iff_eq.mpr c8
   clear c8
   obtain rfl := Option.some.inj H
   go_enter Try.func100, Try.ntmps100
   go_wp2_with (first | ((with_reducible refine gate_dst (N := 3) rfl ?_); refine box_event ?hg (N := 3) ?hd (cs := #[.int .i64 a0_0, .int .i64 a0_1, .int .u64 a0_2]) (t := 62) ?hr ?_; (case hd => rfl); (case hg => rfl); (case hr => first | (go_simp; done) | (go_simp; rfl)); intro gb101 hg w9 hbox hb; have n0_ := Aside0.mk (below_step (by repeat (first | (with_reducible first | exact HB.out | apply below_alloc | apply pw_below_drewN | apply below_drew1) | exact HB.out)) hb); have n1_ := Aside0.mk (hbox); have n2_ := Aside0.mk ((by rw [hg]; exact (below_size (by repeat (first | (with_reducible first | exact HB.out | apply below_alloc | apply pw_below_drewN | apply below_drew1) | exact HB.out))) : w.heap.size ≤ gb101)); have n3_ := Aside0.mk ((by rw [hg]; exact (below_size (by repeat (first | (with_reducible first | exact HB.out | apply below_alloc | apply pw_below_drewN | apply below_drew1) | exact HB.out))) : w.heap.size ≤ gb101)); clear HB; have HB := n0_; have BK101 := n1_; have GW101 := n2_; have GE101 := n3_; clear n0_ n1_ n2_ n3_; clear hb hbox hg; have hcz10_0 : w9.cell? ⟨gb101, 0, none⟩ = some (.int .i64 a0_0) := (blk_cell BK101.out 0).trans rfl; have hcz10_1 : w9.cell? ⟨gb101, 1, none⟩ = some (.int .i64 a0_1) := (blk_cell BK101.out 1).trans rfl; have hcz10_2 : w9.cell? ⟨gb101, 2, none⟩ = some (.int .u64 a0_2) := (blk_cell BK101.out 2).trans rfl; have hfz10_0 := blk_frozen BK101.out 0; have hfz10_1 := blk_frozen BK101.out 1; have hfz10_2 := blk_frozen BK101.out 2) | ((with_reducible refine gate_callee (f := 138) rfl ?_); refine goesL_ (some 10) rfl rfl Try.func138 (by kernel_rfl) rfl #[.int .i64 a0_0] rfl (by (try simp only [List.map_toArray, List.map_cons, List.map_nil]); first | done | rfl | (simp only [List.length_drop, List.length_take]; rfl)) ?_; (with_reducible refine (rank_third.calls a0_0 t102 _ A4.out).mono ?_); rintro e w' ⟨rfl, ⟨nd, rfl⟩⟩; refine ⟨_, rfl, ?_⟩; clear A4) | ((with_reducible refine gate_callee (f := 138) rfl ?_); refine goesL_ (some 12) rfl rfl Try.func138 (by kernel_rfl) rfl #[.int .i64 a1] rfl (by (try simp only [List.map_toArray, List.map_cons, List.map_nil]); first | done | rfl | (simp only [List.length_drop, List.length_take]; rfl)) ?_; (with_reducible refine (rank_third.calls a1 t103 _ A5.out).mono ?_); rintro e w' ⟨rfl, ⟨nd, rfl⟩⟩; refine ⟨_, rfl, ?_⟩; clear A5) | ((with_reducible refine gate_callee (f := 137) rfl ?_); refine goesL_ (some 13) rfl rfl Try.func137 (by kernel_rfl) rfl #[.int .i64 t102, .int .i64 t103] rfl (by (try simp only [List.map_toArray, List.map_cons, List.map_nil]); first | done | rfl | (simp only [List.length_drop, List.length_take]; rfl)) ?_; (with_reducible refine (cmp_Compare_int.calls t102 t103 t104 _ A6.out).mono ?_); rintro e w' ⟨rfl, ⟨nd, rfl⟩⟩; refine ⟨_, rfl, ?_⟩; clear A6))
   go_ret
   exact ⟨by first | rfl | (simp [errW_none, errW_some] <;> rfl) | (simp [*, errW_none, errW_some] <;> rfl), by repeat (first | (with_reducible first | exact HB.out | apply below_alloc | apply pw_below_drewN | apply below_drew1 | refine below_set ?_ GE101.out) | exact HB.out)⟩
  ·rw [if_neg c8] at H
   have c8b0 : (a1 == 1) = false := beq_eq_false_iff_ne.mpr c8
   have c8b1 : (a1 != 1) = true := bne_iff_ne.mpr c8
   by_cases c11 : a1 = 0
   ·rw [if_pos c11] at H
    have c11b0 : (a1 == 0) = true := beq_iff_eq.mpr c11
    have c11b1 : (a1 != 0) = false := bne_eq_false_iff_eq.mpr c11
    clear c11
    obtain rfl := Option.some.inj H
    go_enter Try.func100, Try.ntmps100
    go_wp2_with (first | ((with_reducible refine gate_dst (N := 3) rfl ?_); refine box_event ?hg (N := 3) ?hd (cs := #[.int .i64 a0_0, .int .i64 a0_1, .int .u64 a0_2]) (t := 62) ?hr ?_; (case hd => rfl); (case hg => rfl); (case hr => first | (go_simp; done) | (go_simp; rfl)); intro gb101 hg w12 hbox hb; have n0_ := Aside0.mk (below_step (by repeat (first | (with_reducible first | exact HB.out | apply below_alloc | apply pw_below_drewN | apply below_drew1) | exact HB.out)) hb); have n1_ := Aside0.mk (hbox); have n2_ := Aside0.mk ((by rw [hg]; exact (below_size (by repeat (first | (with_reducible first | exact HB.out | apply below_alloc | apply pw_below_drewN | apply below_drew1) | exact HB.out))) : w.heap.size ≤ gb101)); have n3_ := Aside0.mk ((by rw [hg]; exact (below_size (by repeat (first | (with_reducible first | exact HB.out | apply below_alloc | apply pw_below_drewN | apply below_drew1) | exact HB.out))) : w.heap.size ≤ gb101)); clear HB; have HB := n0_; have BK101 := n1_; have GW101 := n2_; have GE101 := n3_; clear n0_ n1_ n2_ n3_; clear hb hbox hg; have hcz13_0 : w12.cell? ⟨gb101, 0, none⟩ = some (.int .i64 a0_0) := (blk_cell BK101.out 0).trans rfl; have hcz13_1 : w12.cell? ⟨gb101, 1, none⟩ = some (.int .i64 a0_1) := (blk_cell BK101.out 1).trans rfl; have hcz13_2 : w12.cell? ⟨gb101, 2, none⟩ = some (.int .u64 a0_2) := (blk_cell BK101.out 2).trans rfl; have hfz13_0 := blk_frozen BK101.out 0; have hfz13_1 := blk_frozen BK101.out 1; have hfz13_2 := blk_frozen BK101.out 2) | ((with_reducible refine gate_callee (f := 138) rfl ?_); refine goesL_ (some 10) rfl rfl Try.func138 (by kernel_rfl) rfl #[.int .i64 a0_0] rfl (by (try simp only [List.map_toArray, List.map_cons, List.map_nil]); first | done | rfl | (simp only [List.length_drop, List.length_take]; rfl)) ?_; (with_reducible refine (rank_third.calls a0_0 t102 _ A4.out).mono ?_); rintro e w' ⟨rfl, ⟨nd, rfl⟩⟩; refine ⟨_, rfl, ?_⟩; clear A4) | ((with_reducible refine gate_callee (f := 138) rfl ?_); refine goesL_ (some 12) rfl rfl Try.func138 (by kernel_rfl) rfl #[.int .i64 a1] rfl (by (try simp only [List.map_toArray, List.map_cons, List.map_nil]); first | done | rfl | (simp only [List.length_drop, List.length_take]; rfl)) ?_; (with_reducible refine (rank_third.calls a1 t103 _ A5.out).mono ?_); rintro e w' ⟨rfl, ⟨nd, rfl⟩⟩; refine ⟨_, rfl, ?_⟩; clear A5) | ((with_reducible refine gate_callee (f := 137) rfl ?_); refine goesL_ (some 13) rfl rfl Try.func137 (by kernel_rfl) rfl #[.int .i64 t102, .int .i64 t103] rfl (by (try simp only [List.map_toArray, List.map_cons, List.map_nil]); first | done | rfl | (simp only [List.length_drop, List.length_take]; rfl)) ?_; (with_reducible refine (cmp_Compare_int.calls t102 t103 t104 _ A6.out).mono ?_); rintro e w' ⟨rfl, ⟨nd, rfl⟩⟩; refine ⟨_, rfl, ?_⟩; clear A6))
    go_ret
    exact ⟨by first | rfl | (simp [errW_none, errW_some] <;> rfl) | (simp [*, errW_none, errW_some] <;> rfl), by repeat (first | (with_reducible first | exact HB.out | apply below_alloc | apply pw_below_drewN | apply below_drew1 | refine below_set ?_ GE101.out) | exact HB.out)⟩
   ·rw [if_neg c11] at H
    have c11b0 : (a1 == 0) = false := beq_eq_false_iff_ne.mpr c11
    have c11b1 : (a1 != 0) = true := bne_iff_ne.mpr c11
    obtain rfl := Option.some.inj H
    go_enter Try.func100, Try.ntmps100
    go_wp2_with (first | ((with_reducible refine gate_dst (N := 3) rfl ?_); refine box_event ?hg (N := 3) ?hd (cs := #[.int .i64 a0_0, .int .i64 a0_1, .int .u64 a0_2]) (t := 62) ?hr ?_; (case hd => rfl); (case hg => rfl); (case hr => first | (go_simp; done) | (go_simp; rfl)); intro gb101 hg w14 hbox hb; have n0_ := Aside0.mk (below_step (by repeat (first | (with_reducible first | exact HB.out | apply below_alloc | apply pw_below_drewN | apply below_drew1) | exact HB.out)) hb); have n1_ := Aside0.mk (hbox); have n2_ := Aside0.mk ((by rw [hg]; exact (below_size (by repeat (first | (with_reducible first | exact HB.out | apply below_alloc | apply pw_below_drewN | apply below_drew1) | exact HB.out))) : w.heap.size ≤ gb101)); have n3_ := Aside0.mk ((by rw [hg]; exact (below_size (by repeat (first | (with_reducible first | exact HB.out | apply below_alloc | apply pw_below_drewN | apply below_drew1) | exact HB.out))) : w.heap.size ≤ gb101)); clear HB; have HB := n0_; have BK101 := n1_; have GW101 := n2_; have GE101 := n3_; clear n0_ n1_ n2_ n3_; clear hb hbox hg; have hcz15_0 : w14.cell? ⟨gb101, 0, none⟩ = some (.int .i64 a0_0) := (blk_cell BK101.out 0).trans rfl; have hcz15_1 : w14.cell? ⟨gb101, 1, none⟩ = some (.int .i64 a0_1) := (blk_cell BK101.out 1).trans rfl; have hcz15_2 : w14.cell? ⟨gb101, 2, none⟩ = some (.int .u64 a0_2) := (blk_cell BK101.out 2).trans rfl; have hfz15_0 := blk_frozen BK101.out 0; have hfz15_1 := blk_frozen BK101.out 1; have hfz15_2 := blk_frozen BK101.out 2) | ((with_reducible refine gate_callee (f := 138) rfl ?_); refine goesL_ (some 10) rfl rfl Try.func138 (by kernel_rfl) rfl #[.int .i64 a0_0] rfl (by (try simp only [List.map_toArray, List.map_cons, List.map_nil]); first | done | rfl | (simp only [List.length_drop, List.length_take]; rfl)) ?_; (with_reducible refine (rank_third.calls a0_0 t102 _ A4.out).mono ?_); rintro e w' ⟨rfl, ⟨nd, rfl⟩⟩; refine ⟨_, rfl, ?_⟩; clear A4) | ((with_reducible refine gate_callee (f := 138) rfl ?_); refine goesL_ (some 12) rfl rfl Try.func138 (by kernel_rfl) rfl #[.int .i64 a1] rfl (by (try simp only [List.map_toArray, List.map_cons, List.map_nil]); first | done | rfl | (simp only [List.length_drop, List.length_take]; rfl)) ?_; (with_reducible refine (rank_third.calls a1 t103 _ A5.out).mono ?_); rintro e w' ⟨rfl, ⟨nd, rfl⟩⟩; refine ⟨_, rfl, ?_⟩; clear A5) | ((with_reducible refine gate_callee (f := 137) rfl ?_); refine goesL_ (some 13) rfl rfl Try.func137 (by kernel_rfl) rfl #[.int .i64 t102, .int .i64 t103] rfl (by (try simp only [List.map_toArray, List.map_cons, List.map_nil]); first | done | rfl | (simp only [List.length_drop, List.length_take]; rfl)) ?_; (with_reducible refine (cmp_Compare_int.calls t102 t103 t104 _ A6.out).mono ?_); rintro e w' ⟨rfl, ⟨nd, rfl⟩⟩; refine ⟨_, rfl, ?_⟩; clear A6))
    go_ret
    exact ⟨by first | rfl | (simp [errW_none, errW_some] <;> rfl) | (simp [*, errW_none, errW_some] <;> rfl), by repeat (first | (with_reducible first | exact HB.out | apply below_alloc | apply pw_below_drewN | apply below_drew1 | refine below_set ?_ GE101.out) | exact HB.out)⟩
 ·rw [if_neg c7] at H
  have c7b0 : (t104 == 0) = false := beq_eq_false_iff_ne.mpr c7
  have c7b1 : (t104 != 0) = true := bne_iff_ne.mpr c7
  obtain rfl := Option.some.inj H
  go_enter Try.func100, Try.ntmps100
  go_wp2_with (first | ((with_reducible refine gate_dst (N := 3) rfl ?_); refine box_event ?hg (N := 3) ?hd (cs := #[.int .i64 a0_0, .int .i64 a0_1, .int .u64 a0_2]) (t := 62) ?hr ?_; (case hd => rfl); (case hg => rfl); (case hr => first | (go_simp; done) | (go_simp; rfl)); intro gb101 hg w16 hbox hb; have n0_ := Aside0.mk (below_step (by repeat (first | (with_reducible first | exact HB.out | apply below_alloc | apply pw_below_drewN | apply below_drew1) | exact HB.out)) hb); have n1_ := Aside0.mk (hbox); have n2_ := Aside0.mk ((by rw [hg]; exact (below_size (by repeat (first | (with_reducible first | exact HB.out | apply below_alloc | apply pw_below_drewN | apply below_drew1) | exact HB.out))) : w.heap.size ≤ gb101)); have n3_ := Aside0.mk ((by rw [hg]; exact (below_size (by repeat (first | (with_reducible first | exact HB.out | apply below_alloc | apply pw_below_drewN | apply below_drew1) | exact HB.out))) : w.heap.size ≤ gb101)); clear HB; have HB := n0_; have BK101 := n1_; have GW101 := n2_; have GE101 := n3_; clear n0_ n1_ n2_ n3_; clear hb hbox hg; have hcz17_0 : w16.cell? ⟨gb101, 0, none⟩ = some (.int .i64 a0_0) := (blk_cell BK101.out 0).trans rfl; have hcz17_1 : w16.cell? ⟨gb101, 1, none⟩ = some (.int .i64 a0_1) := (blk_cell BK101.out 1).trans rfl; have hcz17_2 : w16.cell? ⟨gb101, 2, none⟩ = some (.int .u64 a0_2) := (blk_cell BK101.out 2).trans rfl; have hfz17_0 := blk_frozen BK101.out 0; have hfz17_1 := blk_frozen BK101.out 1; have hfz17_2 := blk_frozen BK101.out 2) | ((with_reducible refine gate_callee (f := 138) rfl ?_); refine goesL_ (some 10) rfl rfl Try.func138 (by kernel_rfl) rfl #[.int .i64 a0_0] rfl (by (try simp only [List.map_toArray, List.map_cons, List.map_nil]); first | done | rfl | (simp only [List.length_drop, List.length_take]; rfl)) ?_; (with_reducible refine (rank_third.calls a0_0 t102 _ A4.out).mono ?_); rintro e w' ⟨rfl, ⟨nd, rfl⟩⟩; refine ⟨_, rfl, ?_⟩; clear A4) | ((with_reducible refine gate_callee (f := 138) rfl ?_); refine goesL_ (some 12) rfl rfl Try.func138 (by kernel_rfl) rfl #[.int .i64 a1] rfl (by (try simp only [List.map_toArray, List.map_cons, List.map_nil]); first | done | rfl | (simp only [List.length_drop, List.length_take]; rfl)) ?_; (with_reducible refine (rank_third.calls a1 t103 _ A5.out).mono ?_); rintro e w' ⟨rfl, ⟨nd, rfl⟩⟩; refine ⟨_, rfl, ?_⟩; clear A5) | ((with_reducible refine gate_callee (f := 137) rfl ?_); refine goesL_ (some 13) rfl rfl Try.func137 (by kernel_rfl) rfl #[.int .i64 t102, .int .i64 t103] rfl (by (try simp only [List.map_toArray, List.map_cons, List.map_nil]); first | done | rfl | (simp only [List.length_drop, List.length_take]; rfl)) ?_; (with_reducible refine (cmp_Compare_int.calls t102 t103 t104 _ A6.out).mono ?_); rintro e w' ⟨rfl, ⟨nd, rfl⟩⟩; refine ⟨_, rfl, ?_⟩; clear A6))
  go_ret
  exact ⟨by first | rfl | (simp [errW_none, errW_some] <;> rfl) | (simp [*, errW_none, errW_some] <;> rfl), by repeat (first | (with_reducible first | exact HB.out | apply below_alloc | apply pw_below_drewN | apply below_drew1 | refine below_set ?_ GE101.out) | exact HB.out)⟩
end Go.Proofs.Ytcabapilejagkaa.P
namespace Go.Proofs.Ytcabapilejagkaa.P
open Go.RowKit Go.Shelf Go.Proofs.YtcabapilejagkaaW.PrintWords Go.Proofs.YtcabapilejagkaaW.PrintLast Go.Proofs.YtcabapilejagkaaW.PrintMore
set_option linter.unusedVariables false
set_option linter.unusedSimpArgs false
attribute [local go_sem] Oper.semAt_some
def thirdI (s : Int) : Int := if s = 1 then 0 else if s = 2 then 1 else 2
def behindB (b : Bk) (side place : Int) : Bool := if thirdI b.s = thirdI side then (if side = 1 then decide (b.p < place) else if side = 0 then decide (b.p > place) else false) else decide (thirdI b.s > thirdI side)
theorem third_eq (s : Int) : rank_third.f s = some (thirdI s) := by
  unfold rank_third.f thirdI
  by_cases h : s = 1
  · rw [if_pos h, if_pos h]
  · rw [if_neg h, if_neg h]
    by_cases k : s = 2
    · rw [if_pos k, if_pos k]
    · rw [if_neg k, if_neg k]
theorem behind_eq (b : Bk) (side place : Int) : rank_behind.f b.s b.p b.n side place = some (behindB b side place) := by
  unfold rank_behind.f behindB
  rw [third_eq, third_eq]
  simp only [Option.bind_some]
  have hc : cmp_Compare_int.f (thirdI b.s) (thirdI side) = some (if thirdI b.s < thirdI side then -1 else if thirdI b.s > thirdI side then 1 else 0) := by
    unfold cmp_Compare_int.f
    simp [cmp_isNaN_int.f]
    by_cases h1 : thirdI b.s < thirdI side
    · rw [if_pos h1, if_pos h1]
    · rw [if_neg h1, if_neg h1]
      by_cases h2 : thirdI side < thirdI b.s
      · rw [if_pos h2, if_pos h2]
      · rw [if_neg h2, if_neg h2]
  rw [hc]
  simp only [Option.bind_some]
  by_cases h1 : thirdI b.s < thirdI side
  · have e : ¬ thirdI b.s = thirdI side := by omega
    have e2 : ¬ thirdI side < thirdI b.s := by omega
    simp [h1, e, e2]
  · by_cases h2 : thirdI side < thirdI b.s
    · have e : ¬ thirdI b.s = thirdI side := by omega
      simp [h1, e, h2]
    · have e : thirdI b.s = thirdI side := by omega
      simp only [e, Int.lt_irrefl, gt_iff_lt, if_false, if_true]
      by_cases k1 : side = 1
      · rw [if_pos k1, if_pos k1]
      · rw [if_neg k1, if_neg k1]
        by_cases k2 : side = 0
        · rw [if_pos k2, if_pos k2]
        · rw [if_neg k2, if_neg k2]
theorem takeWhile_all {α : Type} {p : α → Bool} : ∀ {l : List α}, (∀ b ∈ l, p b = true) → l.takeWhile p = l
  | [], _ => rfl
  | b :: l, h => by rw [List.takeWhile_cons, if_pos (h b (List.mem_cons_self ..)), takeWhile_all (fun x hx => h x (List.mem_cons_of_mem _ hx))]
theorem takeWhile_stop {α : Type} {p : α → Bool} : ∀ {l : List α} {x : α} {r : List α}, (∀ b ∈ l, p b = true) → p x = false → (l ++ x :: r).takeWhile p = l
  | [], x, r, _, h => by rw [List.nil_append, List.takeWhile_cons, if_neg (by rw [h]; decide)]
  | b :: l, x, r, h, h2 => by rw [List.cons_append, List.takeWhile_cons, if_pos (h b (List.mem_cons_self ..)), takeWhile_stop (fun x hx => h x (List.mem_cons_of_mem _ hx)) h2]
def belowR (h : Hi) (side place : Int) : Int × Int := if checkR h = 0 then (if side < 0 ∨ side > 2 then (0, 11) else (IntKind.u64.wrap (sumB ((toldW h).takeWhile (fun b => !behindB b side place))), 0)) else (0, checkR h)
set_option maxHeartbeats 8000000 in
set_option maxRecDepth 100000 in
theorem below_c (h : Hi) (hw : wfH h) (side place : Int) (w : World) (v : Value) (hv : HI w v h) : Calls Try.prog 41 #[v, .int .i64 side, .int .i64 place] w fun e w' =>
    e = .returned (.tuple #[.int .u64 (belowR h side place).1, .int .i64 (belowR h side place).2]) ∧ Below w.heap.size w w' := by
  have hud := Try.underlying37
  have hub := Try.underlying62
  obtain ⟨A5, c5, A6, c6, A7, c7, A8, c8, e, -⟩ := hv.open_
  subst e
  have hal0 := below_alloc (below_alloc (below_alloc (Below.refl w.heap.size w) (.cells #[.int .i64 h.f0, .int .u64 h.f1, .int .u64 h.f2, .int .u64 h.f3, .int .u64 h.f4, .slice A5 h.f5.length c5, .slice A6 h.f6.length c6, .slice A7 h.f7.length c7, .slice A8 h.f8.length c8] 37)) (.cells #[.int .i64 side] 3)) (.cells #[.int .i64 place] 3)
  have HV := Aside0.mk (hv.below hal0)
  have X := Aside0.mk ((((Blk.new w #[.int .i64 h.f0, .int .u64 h.f1, .int .u64 h.f2, .int .u64 h.f3, .int .u64 h.f4, .slice A5 h.f5.length c5, .slice A6 h.f6.length c6, .slice A7 h.f7.length c7, .slice A8 h.f8.length c8] 37).alloc (.cells #[.int .i64 side] 3)).alloc (.cells #[.int .i64 place] 3)))
  have hx := fun i => X.out.cell i
  have Y := Aside0.mk ((Blk.at1 (w := w) (.cells #[.int .i64 h.f0, .int .u64 h.f1, .int .u64 h.f2, .int .u64 h.f3, .int .u64 h.f4, .slice A5 h.f5.length c5, .slice A6 h.f6.length c6, .slice A7 h.f7.length c7, .slice A8 h.f8.length c8] 37) #[.int .i64 side] 3).alloc (.cells #[.int .i64 place] 3))
  have hy := fun i => Y.out.cell i
  have Z := Aside0.mk (at3 w (.cells #[.int .i64 h.f0, .int .u64 h.f1, .int .u64 h.f2, .int .u64 h.f3, .int .u64 h.f4, .slice A5 h.f5.length c5, .slice A6 h.f6.length c6, .slice A7 h.f7.length c7, .slice A8 h.f8.length c8] 37) (.cells #[.int .i64 side] 3) #[.int .i64 place] 3)
  have hz := fun i => Z.out.cell i
  have B := Aside0.mk hal0
  have CK := Aside0.mk (check_c h hw)
  have WK := Aside0.mk (walk_c h hw)
  have HW := Aside0.mk hw
  clear hv hal0 hw
  unfold belowR
  by_cases c1 : checkR h = 0
  rotate_left
  · rw [if_neg c1]
    generalize checkR h = ec at *
    have d1 : (ec != 0) = true := bne_iff_ne.2 c1
    clear c1 WK
    go_enter Try.func41, Try.ntmps41
    go_wp2_with (first | (go_at_call 72; (with_reducible refine (CK.out _ _ HV.out).mono ?_); rintro e W1 ⟨rfl, hb⟩; replace B := Aside0.mk (below_then B.out B.out.size hb); replace HV := Aside0.mk (HV.out.below hb); replace X := Aside0.mk (X.out.below hb); replace hx := fun i => X.out.cell i; replace Y := Aside0.mk (Y.out.below hb); replace hy := fun i => Y.out.cell i; replace Z := Aside0.mk (Z.out.below hb); replace hz := fun i => Z.out.cell i; have hxa := fun i => (X.out.alloc (.cells #[.int .u64 0] 33)).cell i; have LOWA := Aside0.mk hb.size; clear hb))
    go_ret2
    exact ⟨rfl, B.out⟩
  rw [if_pos c1]
  rw [c1] at CK
  have HC := Aside0.mk c1
  clear c1
  by_cases c2 : side < 0
  · rw [if_pos (.inl c2)]
    have d2 : decide (side < 0) = true := decide_eq_true c2
    clear WK c2
    go_enter Try.func41, Try.ntmps41
    go_wp2_with (first | (go_at_call 72; (with_reducible refine (CK.out _ _ HV.out).mono ?_); rintro e W1 ⟨rfl, hb⟩; replace B := Aside0.mk (below_then B.out B.out.size hb); replace HV := Aside0.mk (HV.out.below hb); replace X := Aside0.mk (X.out.below hb); replace hx := fun i => X.out.cell i; replace Y := Aside0.mk (Y.out.below hb); replace hy := fun i => Y.out.cell i; replace Z := Aside0.mk (Z.out.below hb); replace hz := fun i => Z.out.cell i; have hxa := fun i => (X.out.alloc (.cells #[.int .u64 0] 33)).cell i; have LOWA := Aside0.mk hb.size; clear hb))
    go_ret2
    exact ⟨rfl, B.out⟩
  by_cases c3 : 2 < side
  · rw [if_pos (.inr c3)]
    have d2 : decide (side < 0) = false := decide_eq_false c2
    have d3 : decide (2 < side) = true := decide_eq_true c3
    clear WK c2 c3
    go_enter Try.func41, Try.ntmps41
    go_wp2_with (first | (go_at_call 72; (with_reducible refine (CK.out _ _ HV.out).mono ?_); rintro e W1 ⟨rfl, hb⟩; replace B := Aside0.mk (below_then B.out B.out.size hb); replace HV := Aside0.mk (HV.out.below hb); replace X := Aside0.mk (X.out.below hb); replace hx := fun i => X.out.cell i; replace Y := Aside0.mk (Y.out.below hb); replace hy := fun i => Y.out.cell i; replace Z := Aside0.mk (Z.out.below hb); replace hz := fun i => Z.out.cell i; have hxa := fun i => (X.out.alloc (.cells #[.int .u64 0] 33)).cell i; have LOWA := Aside0.mk hb.size; clear hb))
    go_ret2
    exact ⟨rfl, B.out⟩
  rw [if_neg (by omega)]
  have d2 : decide (side < 0) = false := decide_eq_false c2
  have d3 : decide (2 < side) = false := decide_eq_false c3
  clear c2 c3
  generalize hans : IntKind.u64.wrap (sumB ((toldW h).takeWhile (fun b => !behindB b side place))) = ans
  have HANS := Aside0.mk hans
  clear hans
  refine (callsIn_wide (n := 5)).1 ?_
  refine callsIn_of_wp_marks Try.func41 rfl trivial ?_ rfl
  simp only [Try.ntmps41, List.size_toArray, List.length_cons, List.length_nil, Nat.reduceAdd, Nat.reduceSub, Array.replicate_succ, Array.replicate_zero, List.push_toArray, List.append_toArray, List.nil_append, List.cons_append]
  refine wpIn_wide.2 ?_
  go_wp2_with (first | (go_at_call 72; (with_reducible refine (CK.out _ _ HV.out).mono ?_); rintro e W1 ⟨rfl, hb⟩; replace B := Aside0.mk (below_then B.out B.out.size hb); replace HV := Aside0.mk (HV.out.below hb); replace X := Aside0.mk (X.out.below hb); replace hx := fun i => X.out.cell i; replace Y := Aside0.mk (Y.out.below hb); replace hy := fun i => Y.out.cell i; replace Z := Aside0.mk (Z.out.below hb); replace hz := fun i => Z.out.cell i; have hxa := fun i => (X.out.alloc (.cells #[.int .u64 0] 33)).cell i; have LOWA := Aside0.mk hb.size; clear hb) | (go_at_call 32; (with_reducible refine (WK.out _ _ (HV.out.below (below_alloc (Below.refl _ _) _))).mono ?_); rintro e W2 ⟨bE, bN, bH, bP, rfl, hS, hb⟩; have B2 := Aside0.mk (below_then (below_then B.out B.out.size (below_alloc (Below.refl _ _) (.cells #[.int .u64 0] 33))) (by have := B.out.size; simp at this ⊢; omega) hb); have Y2 := Aside0.mk ((Y.out.alloc (.cells #[.int .u64 0] 33)).below hb); have Z2 := Aside0.mk ((Z.out.alloc (.cells #[.int .u64 0] 33)).below hb); have HS := Aside0.mk hS; have HB2 := Aside0.mk hb; clear hS hb))
  refine (wpIn_wide (n := 5)).1 ?_
  have hw1 : w.heap.size + 1 + 1 + 1 ≤ W1.heap.size := by have := LOWA.out; simpa using this
  have hz1 : (W1.alloc (.cells #[.int .u64 0] 33)).heap.size = W1.heap.size + 1 := by simp
  have hw2 : W1.heap.size + 1 ≤ W2.heap.size := by have := HB2.out.size; omega
  have N2 : Blk W2 W1.heap.size #[.int .u64 0] 33 := (HB2.out.block _ (by simp)).trans (by simpa using blk_new W1 (.cells #[.int .u64 0] 33))
  have hS2 : HoldsW (W1.heap.size + 1) bE bN bH bP h W2 := by have := HS.out; rwa [hz1] at this
  clear hx hy hz CK B X Y Z HV hxa
  refine wpIn_rangeFunc_ownH rfl (by omega) (gf := 95) (lb := #[.pointer (some ⟨bE, 0, none⟩), .pointer (some ⟨bN, 0, none⟩), .pointer (some ⟨bH, 0, none⟩), .pointer (some ⟨bP, 0, none⟩)]) rfl trivial (enters_of Try.func95 (by kernel_rfl) rfl)
    (walk1_stops _ (by omega) (W1.heap.size + 1) bE bN bH bP h HW.out W2 hw2 hS2) KeepC.trans (fun W l o o' _ h hc _ => KeepC.put W l o o' h hc) (Below.refl _ _) (fun _ => rfl)
    (fun pre W => ((∀ b ∈ toldL h pre, behindB b side place = false) ∧ Blk W W1.heap.size #[.int .u64 (IntKind.u64.wrap (sumB (toldL h pre)))] 33) ∧ (Blk W (w.heap.size + 1) #[.int .i64 side] 3 ∧ Blk W (w.heap.size + 1 + 1) #[.int .i64 place] 3) ∧ (Below w.heap.size w W ∧ W2.heap.size ≤ W.heap.size))
    (fun c pre W => c = .exit 0 ∧ (∃ pre0 x, pre = pre0 ++ [x] ∧ (∀ b ∈ toldL h pre0, behindB b side place = false) ∧ behindB ((toldW h).get x) side place = true ∧ Blk W W1.heap.size #[.int .u64 (IntKind.u64.wrap (sumB (toldL h pre0)))] 33) ∧ (Below w.heap.size w W ∧ W2.heap.size ≤ W.heap.size))
    (fun s A B row ⟨⟨q1, q2⟩, ⟨q3, q4⟩, q5, q6⟩ hg hr => ⟨⟨q1, q2.grown hg hr⟩, ⟨q3.grown hg hr, q4.grown hg hr⟩, (ownFrom_below (Nat.le_refl _) (by omega)) s A B row q5 hg hr, Nat.le_trans q6 hg.size⟩)
    (fun c s A B row ⟨q0, ⟨p0, x, q1, q2, q3, q4⟩, q5, q6⟩ hg hr => ⟨q0, ⟨p0, x, q1, q2, q3, q4.grown hg hr⟩, (ownFrom_below (Nat.le_refl _) (by omega)) s A B row q5 hg hr, Nat.le_trans q6 hg.size⟩)
    ⟨⟨fun b hb => by simp [toldL] at hb, N2⟩, ⟨Y2.out, Z2.out⟩, B2.out, Nat.le_refl _⟩
    (fun x a' W => ∃ b, a' = ({ tmps := #[.agg #[.int .i64 h.f0, .int .u64 h.f1, .int .u64 h.f2, .int .u64 h.f3, .int .u64 h.f4, .slice A5 h.f5.length c5, .slice A6 h.f6.length c6, .slice A7 h.f7.length c7, .slice A8 h.f8.length c8], .int .i64 side, .int .i64 place, .pointer (some ⟨w.heap.size, 0, none⟩), .pointer (some ⟨w.heap.size + 1, 0, none⟩), .pointer (some ⟨w.heap.size + 1 + 1, 0, none⟩), .int .u64 0, .int .i64 0, .int .i64 0, .pointer (some ⟨W1.heap.size, 0, none⟩), .pointer (some ⟨b, 0, none⟩), .agg #[.int .i64 h.f0, .int .u64 h.f1, .int .u64 h.f2, .int .u64 h.f3, .int .u64 h.f4, .slice A5 h.f5.length c5, .slice A6 h.f6.length c6, .slice A7 h.f7.length c7, .slice A8 h.f8.length c8], .int .i64 0, .int .i64 0, .bool false, undef, .int .i64 side, .bool false, .bool false, .int .i64 side, .bool false, .bool false, .agg #[.int .i64 h.f0, .int .u64 h.f1, .int .u64 h.f2, .int .u64 h.f3, .int .u64 h.f4, .slice A5 h.f5.length c5, .slice A6 h.f6.length c6, .slice A7 h.f7.length c7, .slice A8 h.f8.length c8], .func (.func 95) #[] #[.pointer (some ⟨bE, 0, none⟩), .pointer (some ⟨bN, 0, none⟩), .pointer (some ⟨bH, 0, none⟩), .pointer (some ⟨bP, 0, none⟩)], encB ((toldW h).get x), undef, undef, undef, undef, undef, undef, undef, undef, undef], defers := [] } : Act) ∧ BlkF W b (encB1 ((toldW h).get x)) ∧ W2.heap.size ≤ b) (fun x a' s A B row ⟨b, e, hb, hge⟩ hg hr => ⟨b, e, hb.grown hg hr, hge⟩) ?assign ?body ?done ?stop
  case assign =>
    intro l pre x W K hI hK
    have HI_ := Aside0.mk hI
    have HK := Aside0.mk hK
    clear hI hK
    obtain ⟨y, hy⟩ : ∃ y, y = (toldW h).get x := ⟨_, rfl⟩
    have HY := Aside0.mk hy
    simp only [← hy]
    clear hy
    unfold encB
    gi_wp2
    have hbl := below_alloc (Below.refl W.heap.size W) (.cells (encB1 y) 62)
    obtain ⟨⟨q1, q2⟩, ⟨q3, q4⟩, q5, q6⟩ := HI_.out
    refine HK.out _ _ ((KeepsOthers.alloc W (.cells (encB1 y) 62)).from _) (KeepC.of_below hbl) ⟨⟨q1, q2.alloc _⟩, ⟨q3.alloc _, q4.alloc _⟩, below_then q5 q5.size hbl, Nat.le_trans q6 hbl.size⟩ ⟨W.heap.size, ?_, ?_, q6⟩
    · rw [← HY.out]; rfl
    · rw [← HY.out]; exact Blk.new W _ _
  case body =>
    rintro l pre x a' W hl hlr ⟨⟨q1, q2⟩, ⟨q3, q4⟩, q5, q6⟩ ⟨b, rfl, hb, hge⟩ hlt
    obtain ⟨y, hy⟩ : ∃ y, y = (toldW h).get x := ⟨_, rfl⟩
    have HTS := Aside0.mk (toldL_snoc h pre x)
    have HYX := Aside0.mk hy
    rw [← hy] at hb HTS
    simp only [← hy]
    clear hy
    obtain ⟨s, hs⟩ : ∃ s, s = sumB (toldL h pre) := ⟨_, rfl⟩
    rw [← hs] at q2
    have HS_ := Aside0.mk hs
    have hbe := behind_eq y side place
    have hf0 : Fence.wide.fn 100 := trivial
    unfold encB
    have hc := fun i => Blk.cell q2 i
    have hcf := fun i => blk_frozen q2 i
    have hbc := fun i => Blk.cell hb i
    have hrc := fun i => Blk.cell q3 i
    have hsc := fun i => Blk.cell q4 i
    have K1 := Aside0.mk q1
    have K2 := Aside0.mk q2
    have K3 := Aside0.mk q3
    have K4 := Aside0.mk q4
    have K5 := Aside0.mk q5
    have K6 := Aside0.mk q6
    have HBB := Aside0.mk hb
    have HBE := Aside0.mk hbe
    clear q1 q2 q3 q4 q5 q6 hl hlr hlt hs hbe hb
    unfold encB1 at hbc
    cases hbv : behindB y side place with
    | true =>
      rw [hbv] at HBE
      have HBV := Aside0.mk hbv
      clear hbv
      gi_wp2_with (gi_at_call 100; refine (CallsIn.inRound l (callsIn_wide.2 (rank_behind.calls _ _ _ _ _ _ _ HBE.out))).mono ?_; rintro e W5 ⟨rfl, hb⟩; have HB5 := Aside0.mk hb; clear hb)
      refine ⟨KeepsFrom.of_grownBy (grown_of_below HB5.out none) (fun j e => by cases e), rfl, ⟨pre, x, rfl, K1.out, ?_, ?_⟩, ?_, ?_⟩
      · rw [← HYX.out]; exact HBV.out
      · rw [← HS_.out]; exact K2.out.below HB5.out
      · exact below_then K5.out K5.out.size HB5.out
      · exact Nat.le_trans K6.out HB5.out.size
    | false =>
      rw [hbv] at HBE
      have HBV := Aside0.mk hbv
      clear hbv
      gi_wp2_with (gi_at_call 100; refine (CallsIn.inRound l (callsIn_wide.2 (rank_behind.calls _ _ _ _ _ _ _ HBE.out))).mono ?_; rintro e W5 ⟨rfl, hb⟩; have HB5 := Aside0.mk hb; have K2' := Aside0.mk (K2.out.below hb); have hbk := Blk.below (show Blk W b (encB1 y) 62 from HBB.out) hb; replace hc := fun i => Blk.cell K2'.out i; replace hcf := fun i => blk_frozen K2'.out i; replace hbc := fun i => Blk.cell hbk i; unfold encB1 at hbc; clear hb hbk)
      have hw_ : IntKind.u64.wrap (IntKind.u64.wrap s + y.n) = IntKind.u64.wrap (sumB (toldL h (pre ++ [x]))) := by
        rw [HTS.out, sumB_snoc, ← HS_.out]
        show (s % 18446744073709551616 + y.n) % 18446744073709551616 = (s + y.n) % 18446744073709551616
        omega
      rw [hw_]
      have hsz := HB5.out.size
      have hkk := KeepC.of_below (n0 := W1.heap.size + 1) HB5.out
      refine ⟨(KeepsFrom.of_grownBy (grown_of_below HB5.out none) (fun j e => by cases e)).trans ((KeepsOthers.setCell _ _ _).from _), hkk.trans (KeepC.setCell _ (Nat.lt_succ_self _) _), ⟨?_, ?_⟩, ⟨?_, ?_⟩, ?_, ?_⟩
      · rw [HTS.out]
        intro z hz
        rcases List.mem_append.1 hz with hz | hz
        · exact K1.out z hz
        · obtain rfl := List.mem_singleton.1 hz; exact HBV.out
      · exact Boxed.set _ K2'.out
      · exact blk_put_ne (K3.out.below HB5.out) (by omega) _
      · exact blk_put_ne (K4.out.below HB5.out) (by omega) _
      · exact (below_then K5.out K5.out.size HB5.out).setCell (by show w.heap.size ≤ W1.heap.size; omega) _
      · have h6_ := K6.out; have : W2.heap.size ≤ W5.heap.size := by omega
        simpa [World.setCell] using this
  case done =>
    rintro D xs W hD hS ⟨⟨q1, q2⟩, ⟨q3, q4⟩, q5, q6⟩ hK
    rw [toldL_all hS] at q1 q2
    have hf : ans = IntKind.u64.wrap (sumB (toldW h)) := by rw [← HANS.out, takeWhile_all (fun b hb => by rw [q1 b hb]; rfl)]
    rw [← hf] at q2
    have hc := fun i => Blk.cell q2 i
    have K5 := Aside0.mk q5
    have HK := Aside0.mk hK
    clear q1 q2 q3 q4 q5 q6 hK hS hf
    go_wp2
    refine ⟨by simp, .inl ⟨_, _, rfl, run_takeDeferred HK.out, ?_⟩⟩
    exact ⟨_, results_tmp2 rfl _ _ _, rfl, K5.out.trans (below_putObj_hi _ _ trivial (by omega))⟩
  case stop =>
    rintro D c pre W hD hS ⟨rfl, ⟨p0, x, rfl, q1, q2, q3⟩, q5, q6⟩ hK
    have hf : ans = IntKind.u64.wrap (sumB (toldL h p0)) := by
      have ht := toldL_take hS
      rw [toldL_snoc] at ht
      rw [← HANS.out, ← List.take_append_drop (p0 ++ [x]).length (toldW h), ← ht, List.append_assoc, List.singleton_append, takeWhile_stop (fun b hb => by rw [q1 b hb]; rfl) (by rw [q2]; rfl)]
    rw [← hf] at q3
    have hc := fun i => Blk.cell q3 i
    have K5 := Aside0.mk q5
    have HK := Aside0.mk hK
    clear q1 q2 q3 q5 q6 hK hS hf
    gi_wp2
    go_wp2
    refine ⟨by simp, .inl ⟨_, _, rfl, run_takeDeferred HK.out, ?_⟩⟩
    exact ⟨_, results_tmp2 rfl _ _ _, rfl, K5.out.trans (below_putObj_hi _ _ trivial (by omega))⟩
end Go.Proofs.Ytcabapilejagkaa.P
namespace Go.Proofs.Ytcabapilejagkaa.P
open Go.RowKit Go.Shelf Go.Proofs.YtcabapilejagkaaW.PrintWords Go.Proofs.YtcabapilejagkaaW.PrintLast Go.Proofs.YtcabapilejagkaaW.PrintMore
set_option linter.unusedVariables false
set_option linter.unusedSimpArgs false
def rank_Total.f (a0 a1 a2 a3 a4 : Int) (l5 l6 : List Sp) (l7 l8 : List Int) : Option (Int × Int) := if wfHi a0 a1 a2 a3 a4 l5 l6 l7 l8 then some (totalR ⟨a0, a1, a2, a3, a4, l5, l6, l7, l8⟩) else none
theorem rank_Total.calls (a0 a1 a2 a3 a4 : Int) (A5 : Option Addr) (c5 : Nat) (l5 : List Sp) (A6 : Option Addr) (c6 : Nat) (l6 : List Sp) (A7 : Option Addr) (c7 : Nat) (l7 : List Int) (A8 : Option Addr) (c8 : Nat) (l8 : List Int) (r1 r2 : Int) (w : World)
    (h5 : Kd.C kSp w A5 l5.length l5) (k5 : l5.length ≤ c5) (h6 : Kd.C kSp w A6 l6.length l6) (k6 : l6.length ≤ c6) (h7 : Kd.C (Kd.int .i64) w A7 l7.length l7) (k7 : l7.length ≤ c7) (h8 : Kd.C (Kd.int .i64) w A8 l8.length l8) (k8 : l8.length ≤ c8)
    (h : rank_Total.f a0 a1 a2 a3 a4 l5 l6 l7 l8 = some (r1, r2)) :
    Calls Try.prog 35 #[.agg #[.int .i64 a0, .int .u64 a1, .int .u64 a2, .int .u64 a3, .int .u64 a4, .slice A5 l5.length c5, .slice A6 l6.length c6, .slice A7 l7.length c7, .slice A8 l8.length c8]] w fun e w' => e = .returned (.tuple #[.int .u64 r1, .int .i64 r2]) ∧ Below w.heap.size w w' := by
  obtain ⟨hw, h1⟩ := of_ite_some h
  have := total_c ⟨a0, a1, a2, a3, a4, l5, l6, l7, l8⟩ hw w _ (HI.mk (h := ⟨a0, a1, a2, a3, a4, l5, l6, l7, l8⟩) (.of h5 k5) (.of h6 k6) (.of h7 k7) (.of h8 k8))
  rw [h1] at this
  exact this
def rank_At.f (a0 a1 a2 a3 a4 : Int) (l5 l6 : List Sp) (l7 l8 : List Int) (k : Int) : Option (Int × Int × Int × Int) := if wfHi a0 a1 a2 a3 a4 l5 l6 l7 l8 ∧ u64 k then some ((atR ⟨a0, a1, a2, a3, a4, l5, l6, l7, l8⟩ k).1.s, (atR ⟨a0, a1, a2, a3, a4, l5, l6, l7, l8⟩ k).1.p, (atR ⟨a0, a1, a2, a3, a4, l5, l6, l7, l8⟩ k).1.n, (atR ⟨a0, a1, a2, a3, a4, l5, l6, l7, l8⟩ k).2) else none
theorem rank_At.calls (a0 a1 a2 a3 a4 : Int) (A5 : Option Addr) (c5 : Nat) (l5 : List Sp) (A6 : Option Addr) (c6 : Nat) (l6 : List Sp) (A7 : Option Addr) (c7 : Nat) (l7 : List Int) (A8 : Option Addr) (c8 : Nat) (l8 : List Int) (k : Int) (r1 r2 r3 r4 : Int) (w : World)
    (h5 : Kd.C kSp w A5 l5.length l5) (k5 : l5.length ≤ c5) (h6 : Kd.C kSp w A6 l6.length l6) (k6 : l6.length ≤ c6) (h7 : Kd.C (Kd.int .i64) w A7 l7.length l7) (k7 : l7.length ≤ c7) (h8 : Kd.C (Kd.int .i64) w A8 l8.length l8) (k8 : l8.length ≤ c8)
    (h : rank_At.f a0 a1 a2 a3 a4 l5 l6 l7 l8 k = some (r1, r2, r3, r4)) :
    Calls Try.prog 36 #[.agg #[.int .i64 a0, .int .u64 a1, .int .u64 a2, .int .u64 a3, .int .u64 a4, .slice A5 l5.length c5, .slice A6 l6.length c6, .slice A7 l7.length c7, .slice A8 l8.length c8], .int .u64 k] w fun e w' => e = .returned (.tuple #[.agg #[.int .i64 r1, .int .i64 r2, .int .u64 r3], .int .i64 r4]) ∧ Below w.heap.size w w' := by
  obtain ⟨⟨hw, hk⟩, h1⟩ := of_ite_some h
  have := at_c ⟨a0, a1, a2, a3, a4, l5, l6, l7, l8⟩ hw k hk w _ (HI.mk (h := ⟨a0, a1, a2, a3, a4, l5, l6, l7, l8⟩) (.of h5 k5) (.of h6 k6) (.of h7 k7) (.of h8 k8))
  simp only [Prod.mk.injEq] at h1
  obtain ⟨rfl, rfl, rfl, rfl⟩ := h1
  exact this
end Go.Proofs.Ytcabapilejagkaa.P
namespace Go.Proofs.Ytcabapilejagkaa.P
open Go.RowKit Go.Proofs.YtcabapilejagkaaW.PrintWords Go.Proofs.YtcabapilejagkaaW.PrintLast Go.Proofs.YtcabapilejagkaaW.PrintMore
attribute [local go_sem] max2_int min2_int max_two min_two max_three min_three max_four min_four
set_option linter.unusedVariables false
set_option linter.unusedSimpArgs false
def bits_Mul64.f (a0 : Int) (a1 : Int) : Option (Int × Int) := some (IntKind.u64.wrap ((IntKind.u64.wrap ((IntKind.u64.wrap ((a0 / 4294967296) * (a1 / 4294967296))) + ((IntKind.u64.wrap ((IntKind.u64.wrap ((a0 / 4294967296) * (Go.bits .and .u64 a1 4294967295))) + ((IntKind.u64.wrap ((Go.bits .and .u64 a0 4294967295) * (Go.bits .and .u64 a1 4294967295))) / 4294967296))) / 4294967296))) + ((IntKind.u64.wrap ((Go.bits .and .u64 (IntKind.u64.wrap ((IntKind.u64.wrap ((a0 / 4294967296) * (Go.bits .and .u64 a1 4294967295))) + ((IntKind.u64.wrap ((Go.bits .and .u64 a0 4294967295) * (Go.bits .and .u64 a1 4294967295))) / 4294967296))) 4294967295) + (IntKind.u64.wrap ((Go.bits .and .u64 a0 4294967295) * (a1 / 4294967296))))) / 4294967296)), IntKind.u64.wrap (a0 * a1))
set_option maxHeartbeats 8000000 in
set_option maxRecDepth 100000 in
theorem bits_Mul64.calls (a0 : Int) (a1 : Int) (r1 : Int) (r2 : Int) (w : World) (h : bits_Mul64.f a0 a1 = some (r1, r2)) :
  Calls Try.prog 101 #[.int .u64 a0, .int .u64 a1] w fun e w' => e = .returned (.tuple #[.int .u64 r1, .int .u64 r2]) ∧ Drawn0 w w' := by
 have H : (some (IntKind.u64.wrap ((IntKind.u64.wrap ((IntKind.u64.wrap ((a0 / 4294967296) * (a1 / 4294967296))) + ((IntKind.u64.wrap ((IntKind.u64.wrap ((a0 / 4294967296) * (Go.bits .and .u64 a1 4294967295))) + ((IntKind.u64.wrap ((Go.bits .and .u64 a0 4294967295) * (Go.bits .and .u64 a1 4294967295))) / 4294967296))) / 4294967296))) + ((IntKind.u64.wrap ((Go.bits .and .u64 (IntKind.u64.wrap ((IntKind.u64.wrap ((a0 / 4294967296) * (Go.bits .and .u64 a1 4294967295))) + ((IntKind.u64.wrap ((Go.bits .and .u64 a0 4294967295) * (Go.bits .and .u64 a1 4294967295))) / 4294967296))) 4294967295) + (IntKind.u64.wrap ((Go.bits .and .u64 a0 4294967295) * (a1 / 4294967296))))) / 4294967296)), IntKind.u64.wrap (a0 * a1))) = some (r1, r2) := h
 clear h
 simp only [Option.some.injEq, Prod.mk.injEq] at H
 obtain ⟨rfl, rfl⟩ := H
 go_enter Try.func101, Try.ntmps101
 go_wp2
 go_ret2
 exact ⟨by first | rfl | (simp; done) | (simp [*]; done), by repeat (first | exact Drawn0.refl _ | apply Drawn0.step)⟩
end Go.Proofs.Ytcabapilejagkaa.P
namespace Go.Proofs.Ytcabapilejagkaa.P
open Go Go.Shelf Go.Proofs
def lay134_ren : Go.Shelf.Ren := ⟨fun | 134 => 139 | 129 => 159 | n => n, fun | 53 => 33 | 3 => 3 | 4 => 4 | 46 => 154 | 5 => 5 | 9 => 9 | n => n, fun | n => n⟩
theorem lay134 : Go.Proofs.Lays.n134 Try.prog lay134_ren := {
  mixed := by kernel_rfl,
  f129 := Try.func159.trans (congrArg some (by kernel_rfl)),
  f134 := Try.func139.trans (congrArg some (by kernel_rfl)),
  t3 := Try.underlying3,
  a3 := Try.isAgg3,
  z3 := Try.sizeOf3,
  v3 := Try.zeroValue3,
  t4 := Try.underlying4,
  a4 := Try.isAgg4,
  z4 := Try.sizeOf4,
  v4 := Try.zeroValue4,
  t5 := Try.underlying5,
  a5 := Try.isAgg5,
  z5 := Try.sizeOf5,
  v5 := Try.zeroValue5,
  t9 := Try.underlying9,
  a9 := Try.isAgg9,
  z9 := Try.sizeOf9,
  v9 := Try.zeroValue9,
  t46 := Try.underlying154,
  a46 := Try.isAgg154,
  z46 := Try.sizeOf154,
  v46 := Try.zeroValue154,
  t53 := Try.underlying33,
  a53 := Try.isAgg33,
  z53 := Try.sizeOf33,
  v53 := Try.zeroValue33 }
end Go.Proofs.Ytcabapilejagkaa.P
namespace Go.Proofs.Ytcabapilejagkaa.P
set_option linter.unusedVariables false
theorem dv_done {K a b U V q r : Nat} (hK : 0 < K) (h : q * a + r = U) (hQ : (U * K + V) / (a * K + b) ≤ q) (hY : 0 < a * K + b) (hc : q * b ≤ K * r + V) : q = (U * K + V) / (a * K + b) := by
  refine Nat.le_antisymm ((Nat.le_div_iff_mul_le hY).2 ?_) hQ
  have e : q * (a * K + b) = (q * a) * K + q * b := by rw [Nat.mul_add, Nat.mul_assoc]
  rw [e, ← h, Nat.add_mul]
  have : r * K = K * r := Nat.mul_comm _ _
  omega
theorem dv_gt {K a b U V q r : Nat} (h : q * a + r = U) (hY : 0 < a * K + b) (hc : K * r + V < q * b) : (U * K + V) / (a * K + b) < q := by
  refine (Nat.div_lt_iff_lt_mul hY).2 ?_
  have e : q * (a * K + b) = (q * a) * K + q * b := by rw [Nat.mul_add, Nat.mul_assoc]
  rw [e, ← h, Nat.add_mul]
  have : r * K = K * r := Nat.mul_comm _ _
  omega
theorem dv_digit {K Y U V : Nat} (hU : U < Y) (hV : V < K) : (U * K + V) / Y < K := by
  refine (Nat.div_lt_iff_lt_mul (by omega)).2 ?_
  have : (U + 1) * K ≤ Y * K := Nat.mul_le_mul_right _ hU
  rw [Nat.add_mul] at this
  rw [Nat.mul_comm K Y]
  omega
theorem dv_first {a b U V : Nat} (ha : 2147483648 ≤ a) (ha2 : a < 4294967296) (hb : b < 4294967296) (hU : U < a * 4294967296 + b) (hV : V < 4294967296) :
    (U * 4294967296 + V) / (a * 4294967296 + b) ≤ U / a ∧ U / a ≤ 4294967297 ∧ U / a * a + U % a = U ∧ U % a < a := by
  refine ⟨?_, ?_, Nat.div_add_mod' U a, Nat.mod_lt _ (by omega)⟩
  · have h1 : U < (U / a + 1) * a := Nat.lt_mul_of_div_lt (Nat.lt_succ_self _) (by omega)
    have h2 : (U * 4294967296 + V) / (a * 4294967296 + b) ≤ (U * 4294967296 + V) / (a * 4294967296) := Nat.div_le_div_left (by omega) (by omega)
    refine Nat.le_trans h2 (Nat.le_of_lt_succ ((Nat.div_lt_iff_lt_mul (by omega)).2 ?_))
    have h3 : (U + 1) * 4294967296 ≤ ((U / a + 1) * a) * 4294967296 := Nat.mul_le_mul_right _ h1
    rw [← Nat.mul_assoc]
    rw [Nat.add_mul] at h3
    show _ < (U / a + 1) * a * 4294967296
    omega
  · refine Nat.le_of_lt_succ ((Nat.div_lt_iff_lt_mul (by omega)).2 ?_)
    omega
theorem dv_break {a b U V q r : Nat} (h : q * a + r = U) (hY : 0 < a * 4294967296 + b) (hQ : (U * 4294967296 + V) / (a * 4294967296 + b) ≤ q) (hb : b < 4294967296) (hq : q ≤ 4294967296) (hr : 4294967296 ≤ r) : q = (U * 4294967296 + V) / (a * 4294967296 + b) := by
  refine dv_done (by omega) h hQ hY ?_
  have h1 : q * b ≤ 4294967296 * b := Nat.mul_le_mul_right _ hq
  omega
theorem dv_left {U V Y q M : Nat} (hY : 0 < Y) (hM : Y ≤ M) (hq : q = (U * 4294967296 + V) / Y) : ((((U * 4294967296 % M + V) % M : Nat) : Int) - ((q * Y % M : Nat) : Int)) % (M : Int) = (((U * 4294967296 + V) % Y : Nat) : Int) := by
  have h1 := Nat.div_add_mod (U * 4294967296 + V) Y
  rw [← hq] at h1
  have h2 := Nat.mod_lt (U * 4294967296 + V) hY
  obtain ⟨r, hr⟩ : ∃ r, (U * 4294967296 + V) % Y = r := ⟨_, rfl⟩
  rw [hr] at h1 h2 ⊢
  have e1 : (((U * 4294967296 % M + V) % M : Nat) : Int) % M = (((U * 4294967296 + V : Nat)) : Int) % M := by
    rw [← Int.natCast_emod, ← Int.natCast_emod, Nat.mod_mod, Nat.mod_add_mod]
  have e2 : (((q * Y % M : Nat)) : Int) % M = ((q * Y : Nat) : Int) % M := by rw [← Int.natCast_emod, ← Int.natCast_emod, Nat.mod_mod]
  rw [Int.sub_emod, e1, e2, ← Int.sub_emod, ← h1]
  rw [show (((Y * q + r : Nat)) : Int) - ((q * Y : Nat) : Int) = (r : Int) by rw [Nat.mul_comm q Y]; omega]
  exact Int.emod_eq_of_lt (by omega) (by omega)
theorem dv_two {y s hi lo Y U1 V1 V0 q1 q0 : Nat} (hy : 0 < y) (eY : Y = y * 2 ^ s) (eU : (U1 * 4294967296 + V1) * 4294967296 + V0 = (hi * 18446744073709551616 + lo) * 2 ^ s)
    (h1 : q1 = (U1 * 4294967296 + V1) / Y) (h0 : q0 = ((U1 * 4294967296 + V1) % Y * 4294967296 + V0) / Y) :
    q1 * 4294967296 + q0 = (hi * 18446744073709551616 + lo) / y ∧ ((U1 * 4294967296 + V1) % Y * 4294967296 + V0) % Y / 2 ^ s = (hi * 18446744073709551616 + lo) % y := by
  have hp : 0 < 2 ^ s := Nat.two_pow_pos s
  have hY : 0 < Y := by rw [eY]; exact Nat.mul_pos hy hp
  have a1 := Nat.div_add_mod (U1 * 4294967296 + V1) Y
  rw [← h1] at a1
  have a0 := Nat.div_add_mod ((U1 * 4294967296 + V1) % Y * 4294967296 + V0) Y
  rw [← h0] at a0
  have hr := Nat.mod_lt ((U1 * 4294967296 + V1) % Y * 4294967296 + V0) hY
  obtain ⟨r, hr_⟩ : ∃ r, ((U1 * 4294967296 + V1) % Y * 4294967296 + V0) % Y = r := ⟨_, rfl⟩
  rw [hr_] at a0 hr ⊢
  obtain ⟨r1, hr1_⟩ : ∃ r1, (U1 * 4294967296 + V1) % Y = r1 := ⟨_, rfl⟩
  rw [hr1_] at a1 a0
  clear h0 hr_ hr1_ h1
  have e : (hi * 18446744073709551616 + lo) * 2 ^ s = Y * (q1 * 4294967296 + q0) + r := by
    rw [← eU, ← a1, Nat.add_mul, Nat.mul_add, Nat.add_assoc, Nat.add_assoc, ← a0, Nat.mul_assoc]
  obtain ⟨n, hn⟩ : ∃ n, hi * 18446744073709551616 + lo = n := ⟨_, rfl⟩
  rw [hn] at e ⊢
  have d1 : n * 2 ^ s / Y = q1 * 4294967296 + q0 := by rw [e, Nat.mul_add_div hY, Nat.div_eq_of_lt hr, Nat.add_zero]
  have d2 : n * 2 ^ s % Y = r := by rw [e, Nat.mul_add_mod, Nat.mod_eq_of_lt hr]
  rw [eY] at d1 d2
  rw [Nat.mul_div_mul_right _ _ hp] at d1
  rw [Nat.mul_mod_mul_right] at d2
  refine ⟨d1.symm, ?_⟩
  rw [← d2, Nat.mul_div_cancel _ hp]
end Go.Proofs.Ytcabapilejagkaa.P
namespace Go.Proofs.Ytcabapilejagkaa.P
open Go.RowKit Go.Shelf Go.Proofs.YtcabapilejagkaaW.PrintWords Go.Proofs.YtcabapilejagkaaW.PrintLast Go.Proofs.YtcabapilejagkaaW.PrintMore
set_option linter.unusedVariables false
set_option linter.unusedSimpArgs false
theorem lz_c (y s : Nat) (hs : Lib.bitLen y + s = 64) (hy : y < 18446744073709551616) (w : World) : Calls Try.prog 139 #[.int .u64 y] w fun e w' => e = .returned (.int .i64 s) ∧ w = w' := by
  refine (Any.bits_LeadingZeros64 lay134 y w (by omega) (by omega)).mono ?_
  rintro e w' ⟨rfl, rfl⟩
  refine ⟨?_, rfl⟩
  rw [Int.toNat_natCast]
  congr 2
  omega
theorem wrapC (n : Nat) (h : n < 18446744073709551616) : IntKind.u64.wrap (n : Int) = (n : Int) := Mul64.wrapN n h
theorem norm_y {y s : Nat} (h0 : 0 < y) (hy : y < 18446744073709551616) (hs : Lib.bitLen y + s = 64) : s ≤ 63 ∧ 9223372036854775808 ≤ y * 2 ^ s ∧ y * 2 ^ s < 18446744073709551616 := by
  have h1 : 2 ^ Nat.log2 y ≤ y := Nat.log2_self_le (by omega)
  have h2 : y < 2 ^ (Nat.log2 y + 1) := Nat.lt_log2_self
  have h3 := Lib.bitLen_shift (Nat.log2 y) y h1 hy
  have h4 : y / 2 ^ Nat.log2 y = 1 := by
    rw [Nat.pow_succ] at h2
    exact Nat.div_eq_of_lt_le (by omega) (by omega)
  rw [h4, show Lib.bitLen 1 = 1 from by decide] at h3
  have hn : Nat.log2 y < 64 := (Nat.log2_lt (by omega)).2 hy
  generalize Nat.log2 y = n at *
  have hs' : s = 63 - n := by omega
  subst hs'
  refine ⟨by omega, ?_, ?_⟩
  · have e : 2 ^ n * 2 ^ (63 - n) = 9223372036854775808 := by rw [← Nat.pow_add, show n + (63 - n) = 63 by omega]
    rw [← e]; exact Nat.mul_le_mul_right _ h1
  · have e : 2 ^ (n + 1) * 2 ^ (63 - n) = 18446744073709551616 := by rw [← Nat.pow_add, show n + 1 + (63 - n) = 64 by omega]
    rw [← e]; exact Nat.mul_lt_mul_of_pos_right h2 (Nat.two_pow_pos _)
theorem shl_eq (x s : Nat) (hs : s ≤ 63) : IntKind.u64.wrap ((x : Int) * 2 ^ min (IntKind.u64.wrap (s : Int)).toNat 64) = ((x * 2 ^ s % 18446744073709551616 : Nat) : Int) := by
  rw [wrapC s (by omega), Int.toNat_natCast, Nat.min_eq_left (by omega), show ((x : Int) * 2 ^ s) = ((x * 2 ^ s : Nat) : Int) by simp]
  exact Mul64.wrapM _
theorem or_eq (hi lo s : Nat) (hs : s ≤ 63) (hh : hi * 2 ^ s < 18446744073709551616) (hl : lo < 18446744073709551616) :
    bits .or .u64 (IntKind.u64.wrap ((hi : Int) * 2 ^ min (IntKind.u64.wrap (s : Int)).toNat 64)) ((lo : Int) / 2 ^ min (IntKind.u64.wrap (64 - IntKind.u64.wrap (s : Int))).toNat 64) = ((hi * 2 ^ s + lo * 2 ^ s / 18446744073709551616 : Nat) : Int) := by
  rw [shl_eq hi s hs, Nat.mod_eq_of_lt hh, wrapC s (by omega), show (64 - (s : Int)) = ((64 - s : Nat) : Int) by omega, wrapC (64 - s) (by omega), Int.toNat_natCast, Nat.min_eq_left (by omega)]
  have e1 : (lo : Int) / 2 ^ (64 - s) = ((lo / 2 ^ (64 - s) : Nat) : Int) := by simp
  have e2 : lo * 2 ^ s / 18446744073709551616 = lo / 2 ^ (64 - s) := by
    rw [show (18446744073709551616 : Nat) = 2 ^ (64 - s) * 2 ^ s by rw [← Nat.pow_add, show 64 - s + s = 64 by omega], Nat.mul_div_mul_right _ _ (Nat.two_pow_pos s)]
  have e3 : lo / 2 ^ (64 - s) < 2 ^ s := by
    refine (Nat.div_lt_iff_lt_mul (Nat.two_pow_pos _)).2 ?_
    rw [← Nat.pow_add, show s + (64 - s) = 64 by omega]; exact hl
  rw [e1, e2]
  generalize lo / 2 ^ (64 - s) = l at *
  have e4 : hi * 2 ^ s + l = (hi * 2 ^ s) ||| l := by rw [← Nat.shiftLeft_eq]; exact Nat.shiftLeft_add_eq_or_of_lt e3 hi
  rw [e4]
  exact bits_or_u64_nat _ _ hh (Nat.lt_of_lt_of_le e3 (by have := Nat.pow_le_pow_right (n := 2) (by omega) hs; exact Nat.le_trans this (by decide)))
theorem up_lt {hi lo y s : Nat} (h1 : hi < y) (hl : lo < 18446744073709551616) : hi * 2 ^ s + lo * 2 ^ s / 18446744073709551616 < y * 2 ^ s := by
  have h2 : (hi + 1) * 2 ^ s ≤ y * 2 ^ s := Nat.mul_le_mul_right _ h1
  have h3 : lo * 2 ^ s / 18446744073709551616 < 2 ^ s := by
    refine (Nat.div_lt_iff_lt_mul (by omega)).2 ?_
    rw [Nat.mul_comm]
    exact Nat.mul_lt_mul_of_pos_left hl (Nat.two_pow_pos s)
  rw [Nat.add_mul] at h2
  omega
theorem up_eq (hi lo s : Nat) : ((hi * 2 ^ s + lo * 2 ^ s / 18446744073709551616) * 4294967296 + lo * 2 ^ s % 18446744073709551616 / 4294967296) * 4294967296 + lo * 2 ^ s % 18446744073709551616 % 4294967296 = (hi * 18446744073709551616 + lo) * 2 ^ s := by
  have h1 := Nat.div_add_mod (lo * 2 ^ s) 18446744073709551616
  rw [Nat.add_mul (hi * 18446744073709551616) lo, Nat.mul_right_comm hi 18446744073709551616]
  generalize lo * 2 ^ s = m at *
  generalize hi * 2 ^ s = n at *
  omega
theorem dv_left' {U V Y q M : Nat} (hY : 0 < Y) (hM : Y ≤ M) (hq : q = (U * 4294967296 + V) / Y) (eM : M = 18446744073709551616 := by rfl) :
    IntKind.u64.wrap (IntKind.u64.wrap (IntKind.u64.wrap ((U : Int) * 4294967296) + (V : Int)) - IntKind.u64.wrap ((q : Int) * (Y : Int))) = (((U * 4294967296 + V) % Y : Nat) : Int) := by
  have h := dv_left hY hM hq
  rw [eM] at h
  rw [IntKind.wrap_u64, IntKind.wrap_u64, IntKind.wrap_u64, IntKind.wrap_u64, ← h]
  have e1 : ((U : Int) * 4294967296 % 18446744073709551616 + (V : Int)) % 18446744073709551616 = ((U * 4294967296 % 18446744073709551616 + V) % 18446744073709551616 : Nat) := by simp
  have e2 : ((q : Int) * (Y : Int)) % 18446744073709551616 = ((q * Y % 18446744073709551616 : Nat) : Int) := by simp
  rw [e1, e2]
  rfl
set_option maxHeartbeats 16000000 in
set_option maxRecDepth 100000 in
theorem div64_c (hi lo y : Nat) (h0 : 0 < hi) (h1 : hi < y) (hl : lo < 18446744073709551616) (hy : y < 18446744073709551616) (w : World) : Calls Try.prog 102 #[.int .u64 hi, .int .u64 lo, .int .u64 y] w fun e w' =>
    e = .returned (.tuple #[.int .u64 (((hi * 18446744073709551616 + lo) / y : Nat) : Int), .int .u64 (((hi * 18446744073709551616 + lo) % y : Nat) : Int)]) ∧ Below w.heap.size w w' := by
  have d1 : ((y : Int) == 0) = false := beq_eq_false_iff_ne.2 (by omega)
  have d2 : decide (y ≤ hi) = false := decide_eq_false (by omega)
  have d3 : ((hi : Int) == 0) = false := beq_eq_false_iff_ne.2 (by omega)
  obtain ⟨s, hs⟩ : ∃ s, Lib.bitLen y + s = 64 := ⟨64 - Lib.bitLen y, by have := Lib.bitLen_le y 64 (by omega) (by omega); omega⟩
  obtain ⟨hs1, hY1, hY2⟩ := norm_y (by omega) hy hs
  have LZ := Aside0.mk (lz_c y s hs hy)
  obtain ⟨Y, eY⟩ : ∃ Y, Y = y * 2 ^ s := ⟨_, rfl⟩
  rw [← eY] at hY1 hY2
  obtain ⟨a, ea⟩ : ∃ a, a = Y / 4294967296 := ⟨_, rfl⟩
  obtain ⟨b, eb⟩ : ∃ b, b = Y % 4294967296 := ⟨_, rfl⟩
  obtain ⟨U, eU⟩ : ∃ U, U = hi * 2 ^ s + lo * 2 ^ s / 18446744073709551616 := ⟨_, rfl⟩
  obtain ⟨T, eT⟩ : ∃ T, T = lo * 2 ^ s % 18446744073709551616 := ⟨_, rfl⟩
  obtain ⟨V1, eV1⟩ : ∃ V1, V1 = T / 4294967296 := ⟨_, rfl⟩
  obtain ⟨V0, eV0⟩ : ∃ V0, V0 = T % 4294967296 := ⟨_, rfl⟩
  have hUY : U < Y := by rw [eU, eY]; exact up_lt h1 hl
  have ha1 : 2147483648 ≤ a := by omega
  have ha2 : a < 4294967296 := by omega
  have hb1 : b < 4294967296 := by omega
  have hV1 : V1 < 4294967296 := by omega
  have hV0 : V0 < 4294967296 := by omega
  have hYab : a * 4294967296 + b = Y := by omega
  have E1 : IntKind.u64.wrap ((y : Int) * 2 ^ min (IntKind.u64.wrap (s : Int)).toNat 64) = (Y : Int) := by rw [shl_eq y s hs1, ← eY, Nat.mod_eq_of_lt hY2]
  have E2 : (Y : Int) / 4294967296 = (a : Int) := by omega
  have E3 : bits .and .u64 (Y : Int) 4294967295 = (b : Int) := by rw [Mul64.maskN Y hY2, eb]
  have E4 : bits .or .u64 (IntKind.u64.wrap ((hi : Int) * 2 ^ min (IntKind.u64.wrap (s : Int)).toNat 64)) ((lo : Int) / 2 ^ min (IntKind.u64.wrap (64 - IntKind.u64.wrap (s : Int))).toNat 64) = (U : Int) := by rw [eU]; exact or_eq hi lo s hs1 (by have : hi * 2 ^ s ≤ y * 2 ^ s := Nat.mul_le_mul_right _ (Nat.le_of_lt h1); omega) hl
  have E5 : IntKind.u64.wrap ((lo : Int) * 2 ^ min (IntKind.u64.wrap (s : Int)).toNat 64) = (T : Int) := by rw [shl_eq lo s hs1, ← eT]
  have E6 : (T : Int) / 4294967296 = (V1 : Int) := by omega
  have E7 : bits .and .u64 (T : Int) 4294967295 = (V0 : Int) := by rw [Mul64.maskN T (by omega), eV0]
  obtain ⟨f1, f2, f3, f4⟩ := dv_first ha1 ha2 hb1 (by omega) hV1 (U := U)
  rw [hYab] at f1
  obtain ⟨q, eq_⟩ : ∃ q, q = U / a := ⟨_, rfl⟩
  obtain ⟨r, er_⟩ : ∃ r, r = U % a := ⟨_, rfl⟩
  rw [← eq_] at f1 f2 f3
  rw [← er_] at f3 f4
  have hqa : q * a ≤ U := by omega
  have E8 : IntKind.u64.wrap ((U : Int) / (a : Int)) = (q : Int) := by
    rw [← Int.natCast_ediv, ← eq_]; exact wrapC q (by omega)
  have E9 : IntKind.u64.wrap ((q : Int) * (a : Int)) = ((q * a : Nat) : Int) := by rw [← Int.natCast_mul]; exact wrapC _ (by omega)
  have E10 : IntKind.u64.wrap ((U : Int) - (q : Int) * (a : Int)) = (r : Int) := by
    rw [← Int.natCast_mul, show (U : Int) - ((q * a : Nat) : Int) = (r : Int) by omega]; exact wrapC r (by omega)
  have ane : ((a : Int) = 0) = False := by simp; omega
  have F1 := Aside0.mk f1
  have F2 := Aside0.mk f2
  have F3 := Aside0.mk f3
  have F4 := Aside0.mk f4
  have HY := Aside0.mk eY
  have HUT := Aside0.mk eU
  have HT := Aside0.mk eT
  have HV1 := Aside0.mk eV1
  have HV0 := Aside0.mk eV0
  have HAB := Aside0.mk hYab
  have HUY := Aside0.mk hUY
  have HS63 := Aside0.mk hs1
  have HY0 := Aside0.mk (show 0 < y by omega)
  have HUV := Aside0.mk (show (U * 4294967296 + V1) * 4294967296 + V0 = (hi * 18446744073709551616 + lo) * 2 ^ s from by rw [eV1, eV0, eU, eT]; exact up_eq hi lo s)
  clear hs eY ea eb eU eT eV1 eV0 eq_ er_ f1 f2 f3 f4 hYab hqa h0 h1 hl hy hs1 hUY
  go_enter Try.func102, Try.ntmps102
  go_wp2_with (go_at_call 139; (with_reducible refine (LZ.out _).mono ?_); rintro e w1 ⟨rfl, rfl⟩)
  clear E1 E2 E3 E4 E5 E6 E7 E8 E9 E10 LZ ane
  have hYp : 0 < Y := by omega
  have hQd := dv_digit (K := 4294967296) HUY.out hV1
  obtain ⟨Qd, eQd⟩ : ∃ Qd, Qd = (U * 4294967296 + V1) / Y := ⟨_, rfl⟩
  obtain ⟨U2, eU2⟩ : ∃ U2, U2 = (U * 4294967296 + V1) % Y := ⟨_, rfl⟩
  have hU2 : U2 < Y := by rw [eU2]; exact Nat.mod_lt _ hYp
  rw [← eQd] at hQd
  have G11 := dv_left' (M := 18446744073709551616) hYp (Nat.le_of_lt hY2) eQd
  rw [← eU2] at G11
  obtain ⟨f1, f2, f3, f4⟩ := dv_first ha1 ha2 hb1 (by rw [HAB.out]; exact hU2) hV0 (U := U2)
  rw [HAB.out] at f1
  obtain ⟨p, ep⟩ : ∃ p, p = U2 / a := ⟨_, rfl⟩
  obtain ⟨r2, er2⟩ : ∃ r2, r2 = U2 % a := ⟨_, rfl⟩
  rw [← ep] at f1 f2 f3
  rw [← er2] at f3 f4
  have hpa : p * a ≤ U2 := by omega
  have G12 : IntKind.u64.wrap ((U2 : Int) / (a : Int)) = (p : Int) := by
    rw [← Int.natCast_ediv, ← ep]; exact wrapC p (by omega)
  have G13 : IntKind.u64.wrap ((p : Int) * (a : Int)) = (p : Int) * (a : Int) := by rw [← Int.natCast_mul]; exact wrapC _ (by omega)
  have G14 : IntKind.u64.wrap ((U2 : Int) - (p : Int) * (a : Int)) = (r2 : Int) := by
    rw [← Int.natCast_mul, show (U2 : Int) - ((p * a : Nat) : Int) = (r2 : Int) by omega]; exact wrapC r2 (by omega)
  have ane : ((a : Int) = 0) = False := by simp; omega
  have hPd := dv_digit (K := 4294967296) hU2 hV0
  obtain ⟨Pd, ePd⟩ : ∃ Pd, Pd = (U2 * 4294967296 + V0) / Y := ⟨_, rfl⟩
  rw [← ePd] at hPd
  obtain ⟨R, eR⟩ : ∃ R, R = (U2 * 4294967296 + V0) % Y := ⟨_, rfl⟩
  have hR : R < Y := by rw [eR]; exact Nat.mod_lt _ hYp
  have HU2Y := Aside0.mk hU2
  have G21 := dv_left' (M := 18446744073709551616) hYp (Nat.le_of_lt hY2) ePd
  rw [← eR] at G21
  have hfin := dv_two (y := y) (s := s) (hi := hi) (lo := lo) (Y := Y) (U1 := U) (V1 := V1) (V0 := V0) (q1 := Qd) (q0 := Pd) HY0.out HY.out HUV.out eQd (by rw [← eU2]; exact ePd)
  rw [← eU2, ← eR] at hfin
  have G22 : IntKind.u64.wrap (IntKind.u64.wrap ((Qd : Int) * 4294967296) + (Pd : Int)) = (((hi * 18446744073709551616 + lo) / y : Nat) : Int) := by
    rw [show (Qd : Int) * 4294967296 = ((Qd * 4294967296 : Nat) : Int) by simp, wrapC _ (by omega), ← Int.natCast_add, hfin.1, ← hfin.1]; exact wrapC _ (by omega)
  have G23 : (R : Int) / 2 ^ min (IntKind.u64.wrap (s : Int)).toNat 64 = (((hi * 18446744073709551616 + lo) % y : Nat) : Int) := by
    rw [wrapC s (by have := HS63.out; omega), Int.toNat_natCast, Nat.min_eq_left (by have := HS63.out; omega), ← hfin.2]; simp
  have P1 := Aside0.mk f1
  have P2 := Aside0.mk f2
  have P3 := Aside0.mk f3
  have P4 := Aside0.mk f4
  have EQD := Aside0.mk eQd
  have EPD := Aside0.mk ePd
  clear f1 f2 f3 f4 ep er2 hpa eU2 eR ePd eQd hfin hU2 hQd hPd hR
  have G11_ := Aside0.mk (And.intro G11 (And.intro G12 (And.intro G13 (And.intro G14 (And.intro ane (And.intro G21 (And.intro G22 G23)))))))
  clear G11 G12 G13 G14 ane G21 G22 G23
  go_loop [15, 16] (fun s15 s16 => ∃ q r : Nat, s15 = .int .u64 q ∧ s16 = .int .u64 r ∧ Aside0 (q * a + r = U) ∧ Aside0 ((U * 4294967296 + V1) / Y ≤ q) ∧ Aside0 (q ≤ 4294967297) ∧ Aside0 (r < 4294967296)) (fun _ s16 => 4294967296 - (intOf s16).toNat)
  case atStart => exact ⟨q, r, rfl, rfl, F3, F1, F2, ⟨by have := F4.out; omega⟩⟩
  case round =>
    obtain ⟨q, r, rfl, rfl, G1, G2, G3, G4⟩ := hrel
    clear F1 F2 F3 F4
    by_cases c0 : 4294967296 ≤ q ∨ 4294967296 * r + V1 < q * b
    · have hgt : Qd < q := by
        rcases c0 with c0 | c0
        · have := dv_digit (K := 4294967296) HUY.out hV1
          rw [← EQD.out] at this; omega
        · have := dv_gt (K := 4294967296) (V := V1) G1.out (by omega) c0
          rw [HAB.out, ← EQD.out] at this; exact this
      have hq1 : IntKind.u64.wrap ((q : Int) - 1) = ((q - 1 : Nat) : Int) := by rw [show (q : Int) - 1 = ((q - 1 : Nat) : Int) by omega]; exact wrapC _ (by have := G3.out; omega)
      have hr1 : IntKind.u64.wrap ((r : Int) + (a : Int)) = (r : Int) + (a : Int) := by rw [← Int.natCast_add]; exact wrapC _ (by have := G4.out; omega)
      have hn1 : (q - 1) * a + (r + a) = U := by
        have h1 := G1.out
        have h2 : q * a = (q - 1) * a + a := by
          obtain ⟨m, rfl⟩ : ∃ m, q = m + 1 := ⟨q - 1, by omega⟩
          rw [Nat.add_sub_cancel, Nat.add_mul, Nat.one_mul]
        omega
      have hle : Qd ≤ q - 1 := by omega
      have HN := Aside0.mk hn1
      have HL := Aside0.mk hle
      have k1 : decide ((4294967296 : Int) ≤ (q : Int)) = decide (4294967296 ≤ q) := decide_eq_decide.2 (by omega)
      by_cases c4 : 4294967296 ≤ q
      · have k2 : decide (4294967296 ≤ q) = true := decide_eq_true c4
        rw [k2] at k1
        have HC := Aside0.mk c4
        clear c0 c4 hn1 hle hgt
        by_cases c1 : 4294967296 ≤ r + a
        · have hD : q - 1 = Qd := by
            have := dv_break (V := V1) HN.out (by omega) (by rw [HAB.out, ← EQD.out]; exact HL.out) hb1 (by have := G3.out; omega) c1
            rw [HAB.out, ← EQD.out] at this; exact this
          rw [hD] at hq1
          have k3 : decide ((4294967296 : Int) ≤ (r : Int) + (a : Int)) = true := decide_eq_true (by omega)
          have k4 : decide (4294967296 ≤ r + a) = true := decide_eq_true c1
          clear c1 hD
          obtain ⟨G11, G12, G13, G14, ane, G21, G22, G23⟩ := G11_.out
          have HX := Aside0.mk (And.intro G21 (And.intro G22 G23))
          clear G21 G22 G23 G1 G2 G3 G4
          go_wp2
          clear G11 G12 G13 G14 ane
          obtain ⟨G21, G22, G23⟩ := HX.out
          clear HX
          go_loop [18, 16] (fun s18 s16 => ∃ q r : Nat, s18 = .int .u64 q ∧ s16 = .int .u64 r ∧ Aside0 (q * a + r = U2) ∧ Aside0 ((U2 * 4294967296 + V0) / Y ≤ q) ∧ Aside0 (q ≤ 4294967297) ∧ Aside0 (r < 4294967296)) (fun _ s16 => 4294967296 - (intOf s16).toNat)
          case atStart => exact ⟨p, r2, rfl, rfl, P3, P1, P2, ⟨by have := P4.out; omega⟩⟩
          case round =>
            obtain ⟨q, r, rfl, rfl, G1, G2, G3, G4⟩ := hrel
            by_cases c0 : 4294967296 ≤ q ∨ 4294967296 * r + V0 < q * b
            · have hgt : Pd < q := by
                rcases c0 with c0 | c0
                · have := dv_digit (K := 4294967296) HU2Y.out hV0
                  rw [← EPD.out] at this; omega
                · have := dv_gt (K := 4294967296) (V := V0) G1.out (by omega) c0
                  rw [HAB.out, ← EPD.out] at this; exact this
              have hq1 : IntKind.u64.wrap ((q : Int) - 1) = ((q - 1 : Nat) : Int) := by rw [show (q : Int) - 1 = ((q - 1 : Nat) : Int) by omega]; exact wrapC _ (by have := G3.out; omega)
              have hr1 : IntKind.u64.wrap ((r : Int) + (a : Int)) = (r : Int) + (a : Int) := by rw [← Int.natCast_add]; exact wrapC _ (by have := G4.out; omega)
              have hn1 : (q - 1) * a + (r + a) = U2 := by
                have h1 := G1.out
                have h2 : q * a = (q - 1) * a + a := by
                  obtain ⟨m, rfl⟩ : ∃ m, q = m + 1 := ⟨q - 1, by omega⟩
                  rw [Nat.add_sub_cancel, Nat.add_mul, Nat.one_mul]
                omega
              have hle : Pd ≤ q - 1 := by omega
              have HN := Aside0.mk hn1
              have HL := Aside0.mk hle
              have k1 : decide ((4294967296 : Int) ≤ (q : Int)) = decide (4294967296 ≤ q) := decide_eq_decide.2 (by omega)
              by_cases c4 : 4294967296 ≤ q
              · have k2 : decide (4294967296 ≤ q) = true := decide_eq_true c4
                rw [k2] at k1
                have HC := Aside0.mk c4
                clear c0 c4 hn1 hle hgt
                by_cases c1 : 4294967296 ≤ r + a
                · have hD : q - 1 = Pd := by
                    have := dv_break (V := V0) HN.out (by omega) (by rw [HAB.out, ← EPD.out]; exact HL.out) hb1 (by have := G3.out; omega) c1
                    rw [HAB.out, ← EPD.out] at this; exact this
                  rw [hD] at hq1
                  have k3 : decide ((4294967296 : Int) ≤ (r : Int) + (a : Int)) = true := decide_eq_true (by omega)
                  have k4 : decide (4294967296 ≤ r + a) = true := decide_eq_true c1
                  clear c1 hD
                  go_wp2
                  go_ret2
                  exact ⟨rfl, Below.refl _ _⟩
                · have k3 : decide ((4294967296 : Int) ≤ (r : Int) + (a : Int)) = false := decide_eq_false (by omega)
                  have k4 : decide (4294967296 ≤ r + a) = false := decide_eq_false c1
                  have HC1 := Aside0.mk c1
                  clear c1
                  go_wp2
                  refine ⟨⟨q - 1, r + a, rfl, by rw [← Int.natCast_add], HN, ⟨by rw [← EPD.out]; exact HL.out⟩, ⟨by have := G3.out; omega⟩, ⟨by have := HC1.out; omega⟩⟩, ?_⟩
                  simp only [intOf]
                  have := HC1.out
                  omega
              · have k2 : decide (4294967296 ≤ q) = false := decide_eq_false c4
                rw [k2] at k1
                have hc : 4294967296 * r + V0 < q * b := by omega
                have hqb : q * b < 18446744073709551616 := by
                  have : q * b ≤ 4294967295 * b := Nat.mul_le_mul_right _ (by omega)
                  omega
                have m1 : IntKind.u64.wrap ((q : Int) * (b : Int)) = (q : Int) * (b : Int) := by rw [← Int.natCast_mul]; exact wrapC _ hqb
                have m2 : IntKind.u64.wrap (4294967296 * (r : Int)) = 4294967296 * (r : Int) := by
                  rw [show (4294967296 * (r : Int)) = ((4294967296 * r : Nat) : Int) by simp]; exact wrapC _ (by have := G4.out; omega)
                have m3 : IntKind.u64.wrap (4294967296 * (r : Int) + (V0 : Int)) = 4294967296 * (r : Int) + (V0 : Int) := by
                  rw [show (4294967296 * (r : Int) + (V0 : Int)) = ((4294967296 * r + V0 : Nat) : Int) by simp]; exact wrapC _ (by have := G4.out; omega)
                have m4 : decide (4294967296 * (r : Int) + (V0 : Int) < (q : Int) * (b : Int)) = true := decide_eq_true (by rw [← Int.natCast_mul]; omega)
                have HC := Aside0.mk hc
                clear c0 c4 hn1 hle hgt hc hqb
                by_cases c1 : 4294967296 ≤ r + a
                · have hD : q - 1 = Pd := by
                    have := dv_break (V := V0) HN.out (by omega) (by rw [HAB.out, ← EPD.out]; exact HL.out) hb1 (by have := G3.out; omega) c1
                    rw [HAB.out, ← EPD.out] at this; exact this
                  rw [hD] at hq1
                  have k3 : decide ((4294967296 : Int) ≤ (r : Int) + (a : Int)) = true := decide_eq_true (by omega)
                  have k4 : decide (4294967296 ≤ r + a) = true := decide_eq_true c1
                  clear c1 hD
                  go_wp2
                  go_ret2
                  exact ⟨rfl, Below.refl _ _⟩
                · have k3 : decide ((4294967296 : Int) ≤ (r : Int) + (a : Int)) = false := decide_eq_false (by omega)
                  have k4 : decide (4294967296 ≤ r + a) = false := decide_eq_false c1
                  have HC1 := Aside0.mk c1
                  clear c1
                  go_wp2
                  refine ⟨⟨q - 1, r + a, rfl, by rw [← Int.natCast_add], HN, ⟨by rw [← EPD.out]; exact HL.out⟩, ⟨by have := G3.out; omega⟩, ⟨by have := HC1.out; omega⟩⟩, ?_⟩
                  simp only [intOf]
                  have := HC1.out
                  omega
            · have c1 : q < 4294967296 := by omega
              have c2 : q * b ≤ 4294967296 * r + V0 := by omega
              have hD : q = Pd := by
                have := dv_done (K := 4294967296) (V := V0) (by omega) G1.out (by rw [HAB.out]; exact G2.out) (by omega) c2
                rw [HAB.out, ← EPD.out] at this; exact this
              have hqb : q * b < 18446744073709551616 := by
                have : q * b ≤ 4294967295 * b := Nat.mul_le_mul_right _ (by omega)
                omega
              have k1 : decide ((4294967296 : Int) ≤ (q : Int)) = false := decide_eq_false (by omega)
              have k2 : decide (4294967296 ≤ q) = false := decide_eq_false (by omega)
              have m1 : IntKind.u64.wrap ((q : Int) * (b : Int)) = (q : Int) * (b : Int) := by rw [← Int.natCast_mul]; exact wrapC _ hqb
              have m2 : IntKind.u64.wrap (4294967296 * (r : Int)) = 4294967296 * (r : Int) := by
                rw [show (4294967296 * (r : Int)) = ((4294967296 * r : Nat) : Int) by simp]; exact wrapC _ (by have := G4.out; omega)
              have m3 : IntKind.u64.wrap (4294967296 * (r : Int) + (V0 : Int)) = 4294967296 * (r : Int) + (V0 : Int) := by
                rw [show (4294967296 * (r : Int) + (V0 : Int)) = ((4294967296 * r + V0 : Nat) : Int) by simp]; exact wrapC _ (by have := G4.out; omega)
              have m4 : decide (4294967296 * (r : Int) + (V0 : Int) < (q : Int) * (b : Int)) = false := decide_eq_false (by rw [← Int.natCast_mul]; omega)
              clear c0 c1 c2 hqb
              subst hD
              go_wp2
              go_ret2
              exact ⟨rfl, Below.refl _ _⟩

        · have k3 : decide ((4294967296 : Int) ≤ (r : Int) + (a : Int)) = false := decide_eq_false (by omega)
          have k4 : decide (4294967296 ≤ r + a) = false := decide_eq_false c1
          have HC1 := Aside0.mk c1
          clear c1
          go_wp2
          refine ⟨⟨q - 1, r + a, rfl, by rw [← Int.natCast_add], HN, ⟨by rw [← EQD.out]; exact HL.out⟩, ⟨by have := G3.out; omega⟩, ⟨by have := HC1.out; omega⟩⟩, ?_⟩
          simp only [intOf]
          have := HC1.out
          omega
      · have k2 : decide (4294967296 ≤ q) = false := decide_eq_false c4
        rw [k2] at k1
        have hc : 4294967296 * r + V1 < q * b := by omega
        have hqb : q * b < 18446744073709551616 := by
          have : q * b ≤ 4294967295 * b := Nat.mul_le_mul_right _ (by omega)
          omega
        have m1 : IntKind.u64.wrap ((q : Int) * (b : Int)) = (q : Int) * (b : Int) := by rw [← Int.natCast_mul]; exact wrapC _ hqb
        have m2 : IntKind.u64.wrap (4294967296 * (r : Int)) = 4294967296 * (r : Int) := by
          rw [show (4294967296 * (r : Int)) = ((4294967296 * r : Nat) : Int) by simp]; exact wrapC _ (by have := G4.out; omega)
        have m3 : IntKind.u64.wrap (4294967296 * (r : Int) + (V1 : Int)) = 4294967296 * (r : Int) + (V1 : Int) := by
          rw [show (4294967296 * (r : Int) + (V1 : Int)) = ((4294967296 * r + V1 : Nat) : Int) by simp]; exact wrapC _ (by have := G4.out; omega)
        have m4 : decide (4294967296 * (r : Int) + (V1 : Int) < (q : Int) * (b : Int)) = true := decide_eq_true (by rw [← Int.natCast_mul]; omega)
        have HC := Aside0.mk hc
        clear c0 c4 hn1 hle hgt hc hqb
        by_cases c1 : 4294967296 ≤ r + a
        · have hD : q - 1 = Qd := by
            have := dv_break (V := V1) HN.out (by omega) (by rw [HAB.out, ← EQD.out]; exact HL.out) hb1 (by have := G3.out; omega) c1
            rw [HAB.out, ← EQD.out] at this; exact this
          rw [hD] at hq1
          have k3 : decide ((4294967296 : Int) ≤ (r : Int) + (a : Int)) = true := decide_eq_true (by omega)
          have k4 : decide (4294967296 ≤ r + a) = true := decide_eq_true c1
          clear c1 hD
          obtain ⟨G11, G12, G13, G14, ane, G21, G22, G23⟩ := G11_.out
          have HX := Aside0.mk (And.intro G21 (And.intro G22 G23))
          clear G21 G22 G23 G1 G2 G3 G4
          go_wp2
          clear G11 G12 G13 G14 ane
          obtain ⟨G21, G22, G23⟩ := HX.out
          clear HX
          go_loop [18, 16] (fun s18 s16 => ∃ q r : Nat, s18 = .int .u64 q ∧ s16 = .int .u64 r ∧ Aside0 (q * a + r = U2) ∧ Aside0 ((U2 * 4294967296 + V0) / Y ≤ q) ∧ Aside0 (q ≤ 4294967297) ∧ Aside0 (r < 4294967296)) (fun _ s16 => 4294967296 - (intOf s16).toNat)
          case atStart => exact ⟨p, r2, rfl, rfl, P3, P1, P2, ⟨by have := P4.out; omega⟩⟩
          case round =>
            obtain ⟨q, r, rfl, rfl, G1, G2, G3, G4⟩ := hrel
            by_cases c0 : 4294967296 ≤ q ∨ 4294967296 * r + V0 < q * b
            · have hgt : Pd < q := by
                rcases c0 with c0 | c0
                · have := dv_digit (K := 4294967296) HU2Y.out hV0
                  rw [← EPD.out] at this; omega
                · have := dv_gt (K := 4294967296) (V := V0) G1.out (by omega) c0
                  rw [HAB.out, ← EPD.out] at this; exact this
              have hq1 : IntKind.u64.wrap ((q : Int) - 1) = ((q - 1 : Nat) : Int) := by rw [show (q : Int) - 1 = ((q - 1 : Nat) : Int) by omega]; exact wrapC _ (by have := G3.out; omega)
              have hr1 : IntKind.u64.wrap ((r : Int) + (a : Int)) = (r : Int) + (a : Int) := by rw [← Int.natCast_add]; exact wrapC _ (by have := G4.out; omega)
              have hn1 : (q - 1) * a + (r + a) = U2 := by
                have h1 := G1.out
                have h2 : q * a = (q - 1) * a + a := by
                  obtain ⟨m, rfl⟩ : ∃ m, q = m + 1 := ⟨q - 1, by omega⟩
                  rw [Nat.add_sub_cancel, Nat.add_mul, Nat.one_mul]
                omega
              have hle : Pd ≤ q - 1 := by omega
              have HN := Aside0.mk hn1
              have HL := Aside0.mk hle
              have k1 : decide ((4294967296 : Int) ≤ (q : Int)) = decide (4294967296 ≤ q) := decide_eq_decide.2 (by omega)
              by_cases c4 : 4294967296 ≤ q
              · have k2 : decide (4294967296 ≤ q) = true := decide_eq_true c4
                rw [k2] at k1
                have HC := Aside0.mk c4
                clear c0 c4 hn1 hle hgt
                by_cases c1 : 4294967296 ≤ r + a
                · have hD : q - 1 = Pd := by
                    have := dv_break (V := V0) HN.out (by omega) (by rw [HAB.out, ← EPD.out]; exact HL.out) hb1 (by have := G3.out; omega) c1
                    rw [HAB.out, ← EPD.out] at this; exact this
                  rw [hD] at hq1
                  have k3 : decide ((4294967296 : Int) ≤ (r : Int) + (a : Int)) = true := decide_eq_true (by omega)
                  have k4 : decide (4294967296 ≤ r + a) = true := decide_eq_true c1
                  clear c1 hD
                  go_wp2
                  go_ret2
                  exact ⟨rfl, Below.refl _ _⟩
                · have k3 : decide ((4294967296 : Int) ≤ (r : Int) + (a : Int)) = false := decide_eq_false (by omega)
                  have k4 : decide (4294967296 ≤ r + a) = false := decide_eq_false c1
                  have HC1 := Aside0.mk c1
                  clear c1
                  go_wp2
                  refine ⟨⟨q - 1, r + a, rfl, by rw [← Int.natCast_add], HN, ⟨by rw [← EPD.out]; exact HL.out⟩, ⟨by have := G3.out; omega⟩, ⟨by have := HC1.out; omega⟩⟩, ?_⟩
                  simp only [intOf]
                  have := HC1.out
                  omega
              · have k2 : decide (4294967296 ≤ q) = false := decide_eq_false c4
                rw [k2] at k1
                have hc : 4294967296 * r + V0 < q * b := by omega
                have hqb : q * b < 18446744073709551616 := by
                  have : q * b ≤ 4294967295 * b := Nat.mul_le_mul_right _ (by omega)
                  omega
                have m1 : IntKind.u64.wrap ((q : Int) * (b : Int)) = (q : Int) * (b : Int) := by rw [← Int.natCast_mul]; exact wrapC _ hqb
                have m2 : IntKind.u64.wrap (4294967296 * (r : Int)) = 4294967296 * (r : Int) := by
                  rw [show (4294967296 * (r : Int)) = ((4294967296 * r : Nat) : Int) by simp]; exact wrapC _ (by have := G4.out; omega)
                have m3 : IntKind.u64.wrap (4294967296 * (r : Int) + (V0 : Int)) = 4294967296 * (r : Int) + (V0 : Int) := by
                  rw [show (4294967296 * (r : Int) + (V0 : Int)) = ((4294967296 * r + V0 : Nat) : Int) by simp]; exact wrapC _ (by have := G4.out; omega)
                have m4 : decide (4294967296 * (r : Int) + (V0 : Int) < (q : Int) * (b : Int)) = true := decide_eq_true (by rw [← Int.natCast_mul]; omega)
                have HC := Aside0.mk hc
                clear c0 c4 hn1 hle hgt hc hqb
                by_cases c1 : 4294967296 ≤ r + a
                · have hD : q - 1 = Pd := by
                    have := dv_break (V := V0) HN.out (by omega) (by rw [HAB.out, ← EPD.out]; exact HL.out) hb1 (by have := G3.out; omega) c1
                    rw [HAB.out, ← EPD.out] at this; exact this
                  rw [hD] at hq1
                  have k3 : decide ((4294967296 : Int) ≤ (r : Int) + (a : Int)) = true := decide_eq_true (by omega)
                  have k4 : decide (4294967296 ≤ r + a) = true := decide_eq_true c1
                  clear c1 hD
                  go_wp2
                  go_ret2
                  exact ⟨rfl, Below.refl _ _⟩
                · have k3 : decide ((4294967296 : Int) ≤ (r : Int) + (a : Int)) = false := decide_eq_false (by omega)
                  have k4 : decide (4294967296 ≤ r + a) = false := decide_eq_false c1
                  have HC1 := Aside0.mk c1
                  clear c1
                  go_wp2
                  refine ⟨⟨q - 1, r + a, rfl, by rw [← Int.natCast_add], HN, ⟨by rw [← EPD.out]; exact HL.out⟩, ⟨by have := G3.out; omega⟩, ⟨by have := HC1.out; omega⟩⟩, ?_⟩
                  simp only [intOf]
                  have := HC1.out
                  omega
            · have c1 : q < 4294967296 := by omega
              have c2 : q * b ≤ 4294967296 * r + V0 := by omega
              have hD : q = Pd := by
                have := dv_done (K := 4294967296) (V := V0) (by omega) G1.out (by rw [HAB.out]; exact G2.out) (by omega) c2
                rw [HAB.out, ← EPD.out] at this; exact this
              have hqb : q * b < 18446744073709551616 := by
                have : q * b ≤ 4294967295 * b := Nat.mul_le_mul_right _ (by omega)
                omega
              have k1 : decide ((4294967296 : Int) ≤ (q : Int)) = false := decide_eq_false (by omega)
              have k2 : decide (4294967296 ≤ q) = false := decide_eq_false (by omega)
              have m1 : IntKind.u64.wrap ((q : Int) * (b : Int)) = (q : Int) * (b : Int) := by rw [← Int.natCast_mul]; exact wrapC _ hqb
              have m2 : IntKind.u64.wrap (4294967296 * (r : Int)) = 4294967296 * (r : Int) := by
                rw [show (4294967296 * (r : Int)) = ((4294967296 * r : Nat) : Int) by simp]; exact wrapC _ (by have := G4.out; omega)
              have m3 : IntKind.u64.wrap (4294967296 * (r : Int) + (V0 : Int)) = 4294967296 * (r : Int) + (V0 : Int) := by
                rw [show (4294967296 * (r : Int) + (V0 : Int)) = ((4294967296 * r + V0 : Nat) : Int) by simp]; exact wrapC _ (by have := G4.out; omega)
              have m4 : decide (4294967296 * (r : Int) + (V0 : Int) < (q : Int) * (b : Int)) = false := decide_eq_false (by rw [← Int.natCast_mul]; omega)
              clear c0 c1 c2 hqb
              subst hD
              go_wp2
              go_ret2
              exact ⟨rfl, Below.refl _ _⟩

        · have k3 : decide ((4294967296 : Int) ≤ (r : Int) + (a : Int)) = false := decide_eq_false (by omega)
          have k4 : decide (4294967296 ≤ r + a) = false := decide_eq_false c1
          have HC1 := Aside0.mk c1
          clear c1
          go_wp2
          refine ⟨⟨q - 1, r + a, rfl, by rw [← Int.natCast_add], HN, ⟨by rw [← EQD.out]; exact HL.out⟩, ⟨by have := G3.out; omega⟩, ⟨by have := HC1.out; omega⟩⟩, ?_⟩
          simp only [intOf]
          have := HC1.out
          omega
    · have c1 : q < 4294967296 := by omega
      have c2 : q * b ≤ 4294967296 * r + V1 := by omega
      have hD : q = Qd := by
        have := dv_done (K := 4294967296) (V := V1) (by omega) G1.out (by rw [HAB.out]; exact G2.out) (by omega) c2
        rw [HAB.out, ← EQD.out] at this; exact this
      have hqb : q * b < 18446744073709551616 := by
        have : q * b ≤ 4294967295 * b := Nat.mul_le_mul_right _ (by omega)
        omega
      have k1 : decide ((4294967296 : Int) ≤ (q : Int)) = false := decide_eq_false (by omega)
      have k2 : decide (4294967296 ≤ q) = false := decide_eq_false (by omega)
      have m1 : IntKind.u64.wrap ((q : Int) * (b : Int)) = (q : Int) * (b : Int) := by rw [← Int.natCast_mul]; exact wrapC _ hqb
      have m2 : IntKind.u64.wrap (4294967296 * (r : Int)) = 4294967296 * (r : Int) := by
        rw [show (4294967296 * (r : Int)) = ((4294967296 * r : Nat) : Int) by simp]; exact wrapC _ (by have := G4.out; omega)
      have m3 : IntKind.u64.wrap (4294967296 * (r : Int) + (V1 : Int)) = 4294967296 * (r : Int) + (V1 : Int) := by
        rw [show (4294967296 * (r : Int) + (V1 : Int)) = ((4294967296 * r + V1 : Nat) : Int) by simp]; exact wrapC _ (by have := G4.out; omega)
      have m4 : decide (4294967296 * (r : Int) + (V1 : Int) < (q : Int) * (b : Int)) = false := decide_eq_false (by rw [← Int.natCast_mul]; omega)
      clear c0 c1 c2 hqb
      subst hD
      obtain ⟨G11, G12, G13, G14, ane, G21, G22, G23⟩ := G11_.out
      have HX := Aside0.mk (And.intro G21 (And.intro G22 G23))
      clear G21 G22 G23 G1 G2 G3 G4
      go_wp2
      clear G11 G12 G13 G14 ane
      obtain ⟨G21, G22, G23⟩ := HX.out
      clear HX
      go_loop [18, 16] (fun s18 s16 => ∃ q r : Nat, s18 = .int .u64 q ∧ s16 = .int .u64 r ∧ Aside0 (q * a + r = U2) ∧ Aside0 ((U2 * 4294967296 + V0) / Y ≤ q) ∧ Aside0 (q ≤ 4294967297) ∧ Aside0 (r < 4294967296)) (fun _ s16 => 4294967296 - (intOf s16).toNat)
      case atStart => exact ⟨p, r2, rfl, rfl, P3, P1, P2, ⟨by have := P4.out; omega⟩⟩
      case round =>
        obtain ⟨q, r, rfl, rfl, G1, G2, G3, G4⟩ := hrel
        by_cases c0 : 4294967296 ≤ q ∨ 4294967296 * r + V0 < q * b
        · have hgt : Pd < q := by
            rcases c0 with c0 | c0
            · have := dv_digit (K := 4294967296) HU2Y.out hV0
              rw [← EPD.out] at this; omega
            · have := dv_gt (K := 4294967296) (V := V0) G1.out (by omega) c0
              rw [HAB.out, ← EPD.out] at this; exact this
          have hq1 : IntKind.u64.wrap ((q : Int) - 1) = ((q - 1 : Nat) : Int) := by rw [show (q : Int) - 1 = ((q - 1 : Nat) : Int) by omega]; exact wrapC _ (by have := G3.out; omega)
          have hr1 : IntKind.u64.wrap ((r : Int) + (a : Int)) = (r : Int) + (a : Int) := by rw [← Int.natCast_add]; exact wrapC _ (by have := G4.out; omega)
          have hn1 : (q - 1) * a + (r + a) = U2 := by
            have h1 := G1.out
            have h2 : q * a = (q - 1) * a + a := by
              obtain ⟨m, rfl⟩ : ∃ m, q = m + 1 := ⟨q - 1, by omega⟩
              rw [Nat.add_sub_cancel, Nat.add_mul, Nat.one_mul]
            omega
          have hle : Pd ≤ q - 1 := by omega
          have HN := Aside0.mk hn1
          have HL := Aside0.mk hle
          have k1 : decide ((4294967296 : Int) ≤ (q : Int)) = decide (4294967296 ≤ q) := decide_eq_decide.2 (by omega)
          by_cases c4 : 4294967296 ≤ q
          · have k2 : decide (4294967296 ≤ q) = true := decide_eq_true c4
            rw [k2] at k1
            have HC := Aside0.mk c4
            clear c0 c4 hn1 hle hgt
            by_cases c1 : 4294967296 ≤ r + a
            · have hD : q - 1 = Pd := by
                have := dv_break (V := V0) HN.out (by omega) (by rw [HAB.out, ← EPD.out]; exact HL.out) hb1 (by have := G3.out; omega) c1
                rw [HAB.out, ← EPD.out] at this; exact this
              rw [hD] at hq1
              have k3 : decide ((4294967296 : Int) ≤ (r : Int) + (a : Int)) = true := decide_eq_true (by omega)
              have k4 : decide (4294967296 ≤ r + a) = true := decide_eq_true c1
              clear c1 hD
              go_wp2
              go_ret2
              exact ⟨rfl, Below.refl _ _⟩
            · have k3 : decide ((4294967296 : Int) ≤ (r : Int) + (a : Int)) = false := decide_eq_false (by omega)
              have k4 : decide (4294967296 ≤ r + a) = false := decide_eq_false c1
              have HC1 := Aside0.mk c1
              clear c1
              go_wp2
              refine ⟨⟨q - 1, r + a, rfl, by rw [← Int.natCast_add], HN, ⟨by rw [← EPD.out]; exact HL.out⟩, ⟨by have := G3.out; omega⟩, ⟨by have := HC1.out; omega⟩⟩, ?_⟩
              simp only [intOf]
              have := HC1.out
              omega
          · have k2 : decide (4294967296 ≤ q) = false := decide_eq_false c4
            rw [k2] at k1
            have hc : 4294967296 * r + V0 < q * b := by omega
            have hqb : q * b < 18446744073709551616 := by
              have : q * b ≤ 4294967295 * b := Nat.mul_le_mul_right _ (by omega)
              omega
            have m1 : IntKind.u64.wrap ((q : Int) * (b : Int)) = (q : Int) * (b : Int) := by rw [← Int.natCast_mul]; exact wrapC _ hqb
            have m2 : IntKind.u64.wrap (4294967296 * (r : Int)) = 4294967296 * (r : Int) := by
              rw [show (4294967296 * (r : Int)) = ((4294967296 * r : Nat) : Int) by simp]; exact wrapC _ (by have := G4.out; omega)
            have m3 : IntKind.u64.wrap (4294967296 * (r : Int) + (V0 : Int)) = 4294967296 * (r : Int) + (V0 : Int) := by
              rw [show (4294967296 * (r : Int) + (V0 : Int)) = ((4294967296 * r + V0 : Nat) : Int) by simp]; exact wrapC _ (by have := G4.out; omega)
            have m4 : decide (4294967296 * (r : Int) + (V0 : Int) < (q : Int) * (b : Int)) = true := decide_eq_true (by rw [← Int.natCast_mul]; omega)
            have HC := Aside0.mk hc
            clear c0 c4 hn1 hle hgt hc hqb
            by_cases c1 : 4294967296 ≤ r + a
            · have hD : q - 1 = Pd := by
                have := dv_break (V := V0) HN.out (by omega) (by rw [HAB.out, ← EPD.out]; exact HL.out) hb1 (by have := G3.out; omega) c1
                rw [HAB.out, ← EPD.out] at this; exact this
              rw [hD] at hq1
              have k3 : decide ((4294967296 : Int) ≤ (r : Int) + (a : Int)) = true := decide_eq_true (by omega)
              have k4 : decide (4294967296 ≤ r + a) = true := decide_eq_true c1
              clear c1 hD
              go_wp2
              go_ret2
              exact ⟨rfl, Below.refl _ _⟩
            · have k3 : decide ((4294967296 : Int) ≤ (r : Int) + (a : Int)) = false := decide_eq_false (by omega)
              have k4 : decide (4294967296 ≤ r + a) = false := decide_eq_false c1
              have HC1 := Aside0.mk c1
              clear c1
              go_wp2
              refine ⟨⟨q - 1, r + a, rfl, by rw [← Int.natCast_add], HN, ⟨by rw [← EPD.out]; exact HL.out⟩, ⟨by have := G3.out; omega⟩, ⟨by have := HC1.out; omega⟩⟩, ?_⟩
              simp only [intOf]
              have := HC1.out
              omega
        · have c1 : q < 4294967296 := by omega
          have c2 : q * b ≤ 4294967296 * r + V0 := by omega
          have hD : q = Pd := by
            have := dv_done (K := 4294967296) (V := V0) (by omega) G1.out (by rw [HAB.out]; exact G2.out) (by omega) c2
            rw [HAB.out, ← EPD.out] at this; exact this
          have hqb : q * b < 18446744073709551616 := by
            have : q * b ≤ 4294967295 * b := Nat.mul_le_mul_right _ (by omega)
            omega
          have k1 : decide ((4294967296 : Int) ≤ (q : Int)) = false := decide_eq_false (by omega)
          have k2 : decide (4294967296 ≤ q) = false := decide_eq_false (by omega)
          have m1 : IntKind.u64.wrap ((q : Int) * (b : Int)) = (q : Int) * (b : Int) := by rw [← Int.natCast_mul]; exact wrapC _ hqb
          have m2 : IntKind.u64.wrap (4294967296 * (r : Int)) = 4294967296 * (r : Int) := by
            rw [show (4294967296 * (r : Int)) = ((4294967296 * r : Nat) : Int) by simp]; exact wrapC _ (by have := G4.out; omega)
          have m3 : IntKind.u64.wrap (4294967296 * (r : Int) + (V0 : Int)) = 4294967296 * (r : Int) + (V0 : Int) := by
            rw [show (4294967296 * (r : Int) + (V0 : Int)) = ((4294967296 * r + V0 : Nat) : Int) by simp]; exact wrapC _ (by have := G4.out; omega)
          have m4 : decide (4294967296 * (r : Int) + (V0 : Int) < (q : Int) * (b : Int)) = false := decide_eq_false (by rw [← Int.natCast_mul]; omega)
          clear c0 c1 c2 hqb
          subst hD
          go_wp2
          go_ret2
          exact ⟨rfl, Below.refl _ _⟩
end Go.Proofs.Ytcabapilejagkaa.P
namespace Go.Proofs.Ytcabapilejagkaa.P
open Go.RowKit Go.Shelf Go.Proofs.YtcabapilejagkaaW.PrintWords Go.Proofs.YtcabapilejagkaaW.PrintLast Go.Proofs.YtcabapilejagkaaW.PrintMore
set_option linter.unusedVariables false
set_option linter.unusedSimpArgs false
theorem mul64_eq (x y : Nat) (hx : x < 18446744073709551616) (hy : y < 18446744073709551616) : bits_Mul64.f x y = some (((x * y / 18446744073709551616 : Nat) : Int), ((x * y % 18446744073709551616 : Nat) : Int)) := by
  obtain ⟨bd, bt, bw, hhi⟩ := Lib.mul64_hi x y hx hy
  have ba := Lib.half_mul_le (a := x / 4294967296) (b := y / 4294967296) (by omega) (by omega)
  have bb := Lib.half_mul_le (a := x / 4294967296) (b := y % 4294967296) (by omega) (by omega)
  have bc := Lib.half_mul_le (a := x % 4294967296) (b := y / 4294967296) (by omega) (by omega)
  have ba' : x / 4294967296 * (y / 4294967296) < 18446744073709551616 := by omega
  have bb' : x / 4294967296 * (y % 4294967296) < 18446744073709551616 := by omega
  have bc' : x % 4294967296 * (y / 4294967296) < 18446744073709551616 := by omega
  have bh1 : x / 4294967296 * (y / 4294967296) + (x / 4294967296 * (y % 4294967296) + x % 4294967296 * (y % 4294967296) / 4294967296) / 4294967296 < 18446744073709551616 := by omega
  have bh : x / 4294967296 * (y / 4294967296) + (x / 4294967296 * (y % 4294967296) + x % 4294967296 * (y % 4294967296) / 4294967296) / 4294967296 + ((x / 4294967296 * (y % 4294967296) + x % 4294967296 * (y % 4294967296) / 4294967296) % 4294967296 + x % 4294967296 * (y / 4294967296)) / 4294967296 < 18446744073709551616 := by omega
  unfold bits_Mul64.f
  simp only [Mul64.maskN x hx, Mul64.maskN y hy, Mul64.divN, Mul64.mulN, Mul64.addN, Mul64.wrapN _ bd, Mul64.wrapN _ bb', Mul64.wrapN _ bt, Mul64.maskN _ bt, Mul64.wrapN _ bc', Mul64.wrapN _ bw, Mul64.wrapN _ ba', Mul64.wrapN _ bh1, Mul64.wrapN _ bh, Mul64.wrapM (x * y)]
  rw [hhi]
theorem mul64_c (x y : Nat) (hx : x < 18446744073709551616) (hy : y < 18446744073709551616) (w : World) : Calls Try.prog 101 #[.int .u64 x, .int .u64 y] w fun e w' =>
    e = .returned (.tuple #[.int .u64 ((x * y / 18446744073709551616 : Nat) : Int), .int .u64 ((x * y % 18446744073709551616 : Nat) : Int)]) ∧ Below w.heap.size w w' := by
  refine (bits_Mul64.calls x y _ _ w (mul64_eq x y hx hy)).mono ?_
  rintro e w1 ⟨rfl, hd⟩
  exact ⟨rfl, hd.below⟩
set_option maxHeartbeats 8000000 in
set_option maxRecDepth 100000 in
theorem div0_c (lo y : Nat) (hl : lo < 18446744073709551616) (hy : y < 18446744073709551616) (h0 : 0 < y) (w : World) : Calls Try.prog 102 #[.int .u64 0, .int .u64 lo, .int .u64 y] w fun e w' =>
    e = .returned (.tuple #[.int .u64 ((lo / y : Nat) : Int), .int .u64 ((lo % y : Nat) : Int)]) ∧ Below w.heap.size w w' := by
  have d1 : ((y : Int) == 0) = false := beq_eq_false_iff_ne.2 (by omega)
  have d2 : decide ((y : Int) ≤ 0) = false := decide_eq_false (by omega)
  go_enter Try.func102, Try.ntmps102
  go_wp2
  go_quiet (fail)
  go_wp2
  go_ret2
  refine ⟨?_, pw_below_drewN (Below.refl _ _) _⟩
  have e1 : IntKind.u64.wrap ((lo : Int) / (y : Int)) = ((lo / y : Nat) : Int) := by
    have h1 : ((lo : Int) / (y : Int)) = ((lo / y : Nat) : Int) := by simp
    have h2 : lo / y ≤ lo := Nat.div_le_self _ _
    rw [h1]
    exact Mul64.wrapN _ (by omega)
  rw [e1]
  simp
theorem ceil_eq (m d : Nat) (h0 : 0 < d) : ((m : Int) + d - 1) / d = ((m / d : Nat) : Int) + (if m % d = 0 then 0 else 1) := by
  have h1 := Nat.div_add_mod m d
  have h2 := Nat.mod_lt m h0
  generalize m % d = r at *
  generalize m / d = q at *
  have h3 : ((m : Nat) : Int) = (d : Int) * q + r := by rw [← h1]; simp
  rw [h3]
  by_cases z : r = 0
  · rw [if_pos z, z]
    rw [show (d : Int) * q + ((0 : Nat) : Int) + d - 1 = (d - 1 : Int) + d * q by omega, Int.add_mul_ediv_left _ _ (by omega), Int.ediv_eq_zero_of_lt (by omega) (by omega)]
    omega
  · rw [if_neg z]
    rw [show (d : Int) * q + (r : Int) + d - 1 = (r - 1 : Int) + d * (q + 1) by rw [Int.mul_add]; omega, Int.add_mul_ediv_left _ _ (by omega), Int.ediv_eq_zero_of_lt (by omega) (by omega)]
    omega
def rankR (t n d : Int) : Int × Int := if d = 0 ∨ d < n then (0, 11) else ((t * n + d - 1) / d, 0)
set_option maxHeartbeats 8000000 in
set_option maxRecDepth 100000 in
theorem rank_c (t n d : Nat) (ht : t < 18446744073709551616) (hn : n < 18446744073709551616) (hd : d < 18446744073709551616)
    (hdiv : d ≠ 0 → n ≤ d → ∀ w, Calls Try.prog 102 #[.int .u64 ((t * n / 18446744073709551616 : Nat) : Int), .int .u64 ((t * n % 18446744073709551616 : Nat) : Int), .int .u64 d] w fun e w' => e = .returned (.tuple #[.int .u64 ((t * n / d : Nat) : Int), .int .u64 ((t * n % d : Nat) : Int)]) ∧ Below w.heap.size w w')
    (w : World) : Calls Try.prog 43 #[.int .u64 t, .int .u64 n, .int .u64 d] w fun e w' => e = .returned (.tuple #[.int .u64 (rankR t n d).1, .int .i64 (rankR t n d).2]) ∧ Below w.heap.size w w' := by
  unfold rankR
  by_cases c0 : d = 0
  · rw [if_pos (.inl (by omega))]
    have d1 : ((d : Int) == 0) = true := beq_iff_eq.2 (by omega)
    clear hdiv c0
    go_enter Try.func43, Try.ntmps43
    go_wp2
    go_ret2
    exact ⟨rfl, Below.refl _ _⟩
  have d1 : ((d : Int) == 0) = false := beq_eq_false_iff_ne.2 (by omega)
  by_cases c1 : d < n
  · rw [if_pos (.inr (by omega))]
    have d2 : decide (d < n) = true := decide_eq_true c1
    clear hdiv c0 c1
    go_enter Try.func43, Try.ntmps43
    go_wp2
    go_ret2
    exact ⟨rfl, Below.refl _ _⟩
  have d2 : decide (d < n) = false := decide_eq_false c1
  rw [if_neg (by omega)]
  have DV := Aside0.mk (hdiv c0 (by omega))
  have ML := Aside0.mk (mul64_c t n ht hn)
  have hq := ceil_eq (t * n) d (by omega)
  have e_ : ((t : Int) * n) = ((t * n : Nat) : Int) := by simp
  rw [e_, hq]
  have hmod : decide (0 < t * n % d) = decide (t * n % d ≠ 0) := by simp [Nat.pos_iff_ne_zero]
  have hql : t * n / d ≤ t := Nat.div_le_of_le_mul (by rw [Nat.mul_comm]; exact Nat.mul_le_mul_right _ (by omega))
  have hq1 : t * n % d ≠ 0 → t * n / d < t := fun hr => by
    refine Nat.div_lt_of_lt_mul ?_
    rcases Nat.lt_or_ge n d with h1 | h1
    · rw [Nat.mul_comm d t]
      have : 0 < t := by rcases Nat.eq_zero_or_pos t with h | h; (· rw [h] at hr; simp at hr); exact h
      exact Nat.mul_lt_mul_of_pos_left h1 this
    · have : n = d := by omega
      rw [this] at hr
      simp at hr
  generalize t * n / 18446744073709551616 = hi at *
  generalize t * n % 18446744073709551616 = lo at *
  generalize t * n / d = q at *
  generalize t * n % d = r at *
  clear hdiv hq e_ hmod
  by_cases z : r = 0
  · rw [if_pos z]
    clear hq1
    subst z
    go_enter Try.func43, Try.ntmps43
    go_wp2_with (first | (go_at_call 101; (with_reducible refine (ML.out _).mono ?_); rintro e w1 ⟨rfl, hb⟩; have B := Aside0.mk hb; clear hb) | (go_at_call 102; (with_reducible refine (DV.out _).mono ?_); rintro e w2 ⟨rfl, hb⟩; replace B := Aside0.mk (below_then B.out B.out.size hb); clear hb))
    go_ret2
    exact ⟨by simp, B.out⟩
  · rw [if_neg z]
    have hq2 := hq1 z
    clear hq1
    have d3 : decide (0 < r) = true := decide_eq_true (by omega)
    go_enter Try.func43, Try.ntmps43
    go_wp2_with (first | (go_at_call 101; (with_reducible refine (ML.out _).mono ?_); rintro e w1 ⟨rfl, hb⟩; have B := Aside0.mk hb; clear hb) | (go_at_call 102; (with_reducible refine (DV.out _).mono ?_); rintro e w2 ⟨rfl, hb⟩; replace B := Aside0.mk (below_then B.out B.out.size hb); clear hb))
    go_ret2
    exact ⟨by simp, B.out⟩
def rank_Rank.f (t n d : Int) : Option (Int × Int) := if u64 t ∧ u64 n ∧ u64 d then some (rankR t n d) else none
theorem rank_Rank.calls (t n d : Int) (r1 r2 : Int) (w : World) (h : rank_Rank.f t n d = some (r1, r2)) : Calls Try.prog 43 #[.int .u64 t, .int .u64 n, .int .u64 d] w fun e w' => e = .returned (.tuple #[.int .u64 r1, .int .i64 r2]) ∧ Below w.heap.size w w' := by
  obtain ⟨⟨ht, hn, hd⟩, h1⟩ := of_ite_some h
  unfold u64 at ht hn hd
  obtain ⟨t, rfl⟩ := Int.eq_ofNat_of_zero_le ht.1
  obtain ⟨n, rfl⟩ := Int.eq_ofNat_of_zero_le hn.1
  obtain ⟨d, rfl⟩ := Int.eq_ofNat_of_zero_le hd.1
  have := rank_c t n d (by omega) (by omega) (by omega) (fun h0 hnd w => by
    have hlt : t * n < d * 18446744073709551616 := by
      have h1 : t * n ≤ t * d := Nat.mul_le_mul_left _ hnd
      have h2 : t * d < 18446744073709551616 * d := Nat.mul_lt_mul_of_pos_right (by omega) (by omega)
      rw [Nat.mul_comm d]; omega
    have hhi : t * n / 18446744073709551616 < d := (Nat.div_lt_iff_lt_mul (by omega)).2 hlt
    have hdm := Nat.div_add_mod' (t * n) 18446744073709551616
    have hml := Nat.mod_lt (t * n) (show 18446744073709551616 > 0 by omega)
    by_cases c : t * n / 18446744073709551616 = 0
    · have hm' : t * n < 18446744073709551616 := by omega
      rw [c, Nat.mod_eq_of_lt hm']
      exact div0_c (t * n) d hm' (by omega) (by omega) w
    · have := div64_c (t * n / 18446744073709551616) (t * n % 18446744073709551616) d (by omega) hhi hml (by omega) w
      rw [hdm] at this
      exact this) w
  rw [h1] at this
  exact this
end Go.Proofs.Ytcabapilejagkaa.P
namespace Go.Proofs.Ytcabapilejagkaa.P
open Go.RowKit Go.Proofs.YtcabapilejagkaaW.PrintWords Go.Proofs.YtcabapilejagkaaW.PrintLast Go.Proofs.YtcabapilejagkaaW.PrintMore
attribute [local go_sem] max2_int min2_int max_two min_two max_three min_three max_four min_four
set_option linter.unusedVariables false
set_option linter.unusedSimpArgs false
def rank_Quantile.f (a0_0 : Int) (a0_1 : Int) (a0_2 : Int) (a0_3 : Int) (a0_4 : Int) (l0_5 : List (S108)) (l0_6 : List (S108)) (l0_7 : List Int) (l0_8 : List Int) (a1 : Int) (a2 : Int) : Option (Int × Int × Int × Int) := (rank_Total.f a0_0 a0_1 a0_2 a0_3 a0_4 l0_5 l0_6 l0_7 l0_8).bind fun bt103 => (if bt103.2 = 0 then ((rank_Rank.f bt103.1 a1 a2).bind fun bt105 => (if bt105.2 = 0 then (if bt103.1 = 0 then (some (0, 0, 0, 14)) else ((rank_At.f a0_0 a0_1 a0_2 a0_3 a0_4 l0_5 l0_6 l0_7 l0_8 (mx bt105.1 1)).bind fun bt107 => (some (bt107.1, bt107.2.1, bt107.2.2.1, bt107.2.2.2)))) else (some (0, 0, 0, bt105.2)))) else (some (0, 0, 0, bt103.2)))
set_option maxHeartbeats 8000000 in
set_option maxRecDepth 100000 in
theorem rank_Quantile.calls (a0_0 : Int) (a0_1 : Int) (a0_2 : Int) (a0_3 : Int) (a0_4 : Int) (A0_5 : Option Addr) (c0_5 : Nat) (l0_5 : List (S108)) (A0_6 : Option Addr) (c0_6 : Nat) (l0_6 : List (S108)) (A0_7 : Option Addr) (c0_7 : Nat) (l0_7 : List Int) (A0_8 : Option Addr) (c0_8 : Nat) (l0_8 : List Int) (a1 : Int) (a2 : Int) (r1 : Int) (r2 : Int) (r3 : Int) (r4 : Int) (w : World) (hr0_5 : Kd.C k108 w A0_5 l0_5.length l0_5) (hc0_5 : l0_5.length ≤ c0_5) (hr0_6 : Kd.C k108 w A0_6 l0_6.length l0_6) (hc0_6 : l0_6.length ≤ c0_6) (hr0_7 : Kd.C (Kd.int .i64) w A0_7 l0_7.length l0_7) (hc0_7 : l0_7.length ≤ c0_7) (hr0_8 : Kd.C (Kd.int .i64) w A0_8 l0_8.length l0_8) (hc0_8 : l0_8.length ≤ c0_8) (h : rank_Quantile.f a0_0 a0_1 a0_2 a0_3 a0_4 l0_5 l0_6 l0_7 l0_8 a1 a2 = some (r1, r2, r3, r4)) :
  Calls Try.prog 45 #[.agg #[.int .i64 a0_0, .int .u64 a0_1, .int .u64 a0_2, .int .u64 a0_3, .int .u64 a0_4, .slice A0_5 l0_5.length c0_5, .slice A0_6 l0_6.length c0_6, .slice A0_7 l0_7.length c0_7, .slice A0_8 l0_8.length c0_8], .int .u64 a1, .int .u64 a2] w fun e w' => e = .returned (.tuple #[.agg #[.int .i64 r1, .int .i64 r2, .int .u64 r3], .int .i64 r4]) ∧ Below w.heap.size w w' := by
 have hu37 := Try.underlying37
 have hu62 := Try.underlying62
 have HR0_5 := Aside0.mk hr0_5
 have HC0_5 := Aside0.mk hc0_5
 clear hr0_5 hc0_5
 have HR0_6 := Aside0.mk hr0_6
 have HC0_6 := Aside0.mk hc0_6
 clear hr0_6 hc0_6
 have HR0_7 := Aside0.mk hr0_7
 have HC0_7 := Aside0.mk hc0_7
 clear hr0_7 hc0_7
 have HR0_8 := Aside0.mk hr0_8
 have HC0_8 := Aside0.mk hc0_8
 clear hr0_8 hc0_8
 have HB := Aside0.mk (Below.refl w.heap.size w)
 have H : ((rank_Total.f a0_0 a0_1 a0_2 a0_3 a0_4 l0_5 l0_6 l0_7 l0_8).bind fun bt103 => (if bt103.2 = 0 then ((rank_Rank.f bt103.1 a1 a2).bind fun bt105 => (if bt105.2 = 0 then (if bt103.1 = 0 then (some (0, 0, 0, 14)) else ((rank_At.f a0_0 a0_1 a0_2 a0_3 a0_4 l0_5 l0_6 l0_7 l0_8 (mx bt105.1 1)).bind fun bt107 => (some (bt107.1, bt107.2.1, bt107.2.2.1, bt107.2.2.2)))) else (some (0, 0, 0, bt105.2)))) else (some (0, 0, 0, bt103.2)))) = some (r1, r2, r3, r4) := h
 clear h
 replace H := Option.bind_eq_some_iff.mp H
 obtain ⟨⟨t103, t104⟩, A40, H⟩ := H
 replace H : (if t104 = 0 then ((rank_Rank.f t103 a1 a2).bind fun bt105 => (if bt105.2 = 0 then (if t103 = 0 then (some (0, 0, 0, 14)) else ((rank_At.f a0_0 a0_1 a0_2 a0_3 a0_4 l0_5 l0_6 l0_7 l0_8 (mx bt105.1 1)).bind fun bt107 => (some (bt107.1, bt107.2.1, bt107.2.2.1, bt107.2.2.2)))) else (some (0, 0, 0, bt105.2)))) else (some (0, 0, 0, t104))) = some (r1, r2, r3, r4) := H
 have A4 := Aside0.mk A40
 clear A40
 by_cases c5 : t104 = 0
 ·rw [if_pos c5] at H
  have c5b0 : (t104 == 0) = true := beq_iff_eq.mpr c5
  have c5b1 : (t104 != 0) = false := bne_eq_false_iff_eq.mpr c5
  clear c5
  replace H := Option.bind_eq_some_iff.mp H
  obtain ⟨⟨t105, t106⟩, A60, H⟩ := H
  replace H : (if t106 = 0 then (if t103 = 0 then (some (0, 0, 0, 14)) else ((rank_At.f a0_0 a0_1 a0_2 a0_3 a0_4 l0_5 l0_6 l0_7 l0_8 (mx t105 1)).bind fun bt107 => (some (bt107.1, bt107.2.1, bt107.2.2.1, bt107.2.2.2)))) else (some (0, 0, 0, t106))) = some (r1, r2, r3, r4) := H
  have A6 := Aside0.mk A60
  clear A60
  by_cases c7 : t106 = 0
  ·rw [if_pos c7] at H
   have c7b0 : (t106 == 0) = true := beq_iff_eq.mpr c7
   have c7b1 : (t106 != 0) = false := bne_eq_false_iff_eq.mpr c7
   clear c7
   by_cases c8 : t103 = 0
   ·rw [if_pos c8] at H
    have c8b0 : (t103 == 0) = true := beq_iff_eq.mpr c8
    have c8b1 : (t103 != 0) = false := bne_eq_false_iff_eq.mpr c8
    clear c8
    simp only [Option.some.injEq, Prod.mk.injEq] at H
    obtain ⟨rfl, rfl, rfl, rfl⟩ := H
    go_enter Try.func45, Try.ntmps45
    go_wp2_with (first | ((with_reducible refine gate_dst (N := 3) rfl ?_); refine box_event ?hg (N := 3) ?hd (cs := #[.int .i64 a0_0, .int .u64 a0_1, .int .u64 a0_2, .int .u64 a0_3, .int .u64 a0_4, .slice A0_5 l0_5.length c0_5, .slice A0_6 l0_6.length c0_6, .slice A0_7 l0_7.length c0_7, .slice A0_8 l0_8.length c0_8]) (t := 37) ?hr ?_; (case hd => rfl); (case hg => rfl); (case hr => first | (go_simp; done) | (go_simp; rfl)); intro gb101 hg w9 hbox hb; have n0_ := Aside0.mk (below_step (by repeat (first | (with_reducible first | exact HB.out | apply below_alloc | apply pw_below_drewN | apply below_drew1) | exact HB.out)) hb); have n1_ := Aside0.mk (hbox); have n2_ := Aside0.mk ((by rw [hg]; exact (below_size (by repeat (first | (with_reducible first | exact HB.out | apply below_alloc | apply pw_below_drewN | apply below_drew1) | exact HB.out))) : w.heap.size ≤ gb101)); have n3_ := Aside0.mk ((by rw [hg]; exact (below_size (by repeat (first | (with_reducible first | exact HB.out | apply below_alloc | apply pw_below_drewN | apply below_drew1) | exact HB.out))) : w.heap.size ≤ gb101)); clear HB; have HB := n0_; have BK101 := n1_; have GW101 := n2_; have GE101 := n3_; clear n0_ n1_ n2_ n3_; clear hb hbox hg) | ((with_reducible refine gate_dst (N := 6) rfl ?_); refine box_event ?hg (N := 6) ?hd (cs := #[.int .i64 0, .int .i64 0, .int .u64 0]) (t := 62) ?hr ?_; (case hd => rfl); (case hg => rfl); (case hr => first | (go_simp; done) | (go_simp; rfl)); intro gb102 hg w10 hbox hb; have n0_ := Aside0.mk (blk_below (g := gb101) (o := .cells #[.int .i64 a0_0, .int .u64 a0_1, .int .u64 a0_2, .int .u64 a0_3, .int .u64 a0_4, .slice A0_5 l0_5.length c0_5, .slice A0_6 l0_6.length c0_6, .slice A0_7 l0_7.length c0_7, .slice A0_8 l0_8.length c0_8] 37 (0, 0)) (by (with_reducible repeat (first | refine blk_drewN ?_ _ | refine blk_drew ?_ | refine blk_alloc ?_ _)); exact BK101.out) hb); have n1_ := Aside0.mk (below_step (by repeat (first | (with_reducible first | exact HB.out | apply below_alloc | apply pw_below_drewN | apply below_drew1 | refine below_set ?_ GE101.out) | exact HB.out)) hb); have n2_ := Aside0.mk (hbox); have n3_ := Aside0.mk ((by rw [hg]; exact (below_size (by repeat (first | (with_reducible first | exact HB.out | apply below_alloc | apply pw_below_drewN | apply below_drew1 | refine below_set ?_ GE101.out) | exact HB.out))) : w.heap.size ≤ gb102)); have n4_ := Aside0.mk ((by rw [hg]; exact (below_size (by repeat (first | (with_reducible first | exact HB.out | apply below_alloc | apply pw_below_drewN | apply below_drew1 | refine below_set ?_ GE101.out) | exact HB.out))) : w.heap.size ≤ gb102)); have n5_ := Aside0.mk ((by rw [hg]; exact Nat.ne_of_lt (blk_lt (g := gb101) (o := .cells #[.int .i64 a0_0, .int .u64 a0_1, .int .u64 a0_2, .int .u64 a0_3, .int .u64 a0_4, .slice A0_5 l0_5.length c0_5, .slice A0_6 l0_6.length c0_6, .slice A0_7 l0_7.length c0_7, .slice A0_8 l0_8.length c0_8] 37 (0, 0)) (by (with_reducible repeat (first | refine blk_drewN ?_ _ | refine blk_drew ?_ | refine blk_alloc ?_ _)); exact BK101.out)) : gb101 ≠ gb102)); have n6_ := Aside0.mk ((by rw [hg]; exact Nat.ne_of_gt (blk_lt (g := gb101) (o := .cells #[.int .i64 a0_0, .int .u64 a0_1, .int .u64 a0_2, .int .u64 a0_3, .int .u64 a0_4, .slice A0_5 l0_5.length c0_5, .slice A0_6 l0_6.length c0_6, .slice A0_7 l0_7.length c0_7, .slice A0_8 l0_8.length c0_8] 37 (0, 0)) (by (with_reducible repeat (first | refine blk_drewN ?_ _ | refine blk_drew ?_ | refine blk_alloc ?_ _)); exact BK101.out)) : gb102 ≠ gb101)); clear BK101; clear HB; have BK101 := n0_; have HB := n1_; have BK102 := n2_; have GW102 := n3_; have GE102 := n4_; have NB101_102 := n5_; have NB102_101 := n6_; clear n0_ n1_ n2_ n3_ n4_ n5_ n6_; clear hb hbox hg; have hnb11 := NB101_102.out; have hnc11 := NB102_101.out; have hcz12_0 : w10.cell? ⟨gb101, 0, none⟩ = some (.int .i64 a0_0) := (blk_cell BK101.out 0).trans rfl; have hcz12_1 : w10.cell? ⟨gb101, 1, none⟩ = some (.int .u64 a0_1) := (blk_cell BK101.out 1).trans rfl; have hcz12_2 : w10.cell? ⟨gb101, 2, none⟩ = some (.int .u64 a0_2) := (blk_cell BK101.out 2).trans rfl; have hcz12_3 : w10.cell? ⟨gb101, 3, none⟩ = some (.int .u64 a0_3) := (blk_cell BK101.out 3).trans rfl; have hcz12_4 : w10.cell? ⟨gb101, 4, none⟩ = some (.int .u64 a0_4) := (blk_cell BK101.out 4).trans rfl; have hcz12_5 : w10.cell? ⟨gb101, 5, none⟩ = some (.slice A0_5 l0_5.length c0_5) := (blk_cell BK101.out 5).trans rfl; have hcz12_6 : w10.cell? ⟨gb101, 6, none⟩ = some (.slice A0_6 l0_6.length c0_6) := (blk_cell BK101.out 6).trans rfl; have hcz12_7 : w10.cell? ⟨gb101, 7, none⟩ = some (.slice A0_7 l0_7.length c0_7) := (blk_cell BK101.out 7).trans rfl; have hcz12_8 : w10.cell? ⟨gb101, 8, none⟩ = some (.slice A0_8 l0_8.length c0_8) := (blk_cell BK101.out 8).trans rfl; have hfz12_0 := blk_frozen BK101.out 0; have hfz12_1 := blk_frozen BK101.out 1; have hfz12_2 := blk_frozen BK101.out 2; have hfz12_3 := blk_frozen BK101.out 3; have hfz12_4 := blk_frozen BK101.out 4; have hfz12_5 := blk_frozen BK101.out 5; have hfz12_6 := blk_frozen BK101.out 6; have hfz12_7 := blk_frozen BK101.out 7; have hfz12_8 := blk_frozen BK101.out 8) | ((with_reducible refine gate_callee (f := 35) rfl ?_); refine goesL_ (some 13) rfl rfl Try.func35 (by kernel_rfl) rfl #[.agg #[.int .i64 a0_0, .int .u64 a0_1, .int .u64 a0_2, .int .u64 a0_3, .int .u64 a0_4, .slice A0_5 l0_5.length c0_5, .slice A0_6 l0_6.length c0_6, .slice A0_7 l0_7.length c0_7, .slice A0_8 l0_8.length c0_8]] rfl (by (try simp only [List.map_toArray, List.map_cons, List.map_nil]); first | done | rfl | (simp only [List.length_drop, List.length_take]; rfl)) ?_; (with_reducible refine (rank_Total.calls a0_0 a0_1 a0_2 a0_3 a0_4 _ _ l0_5 _ _ l0_6 _ _ l0_7 _ _ l0_8 t103 t104 _ ?side1 ?side2 ?side3 ?side4 ?side5 ?side6 ?side7 ?side8 A4.out).mono ?_); (case side1 => repeat (first | exact (Kd.C_below HR0_5.out HB.out) | (with_reducible refine Kd.C_alloc ?_ _) | (with_reducible refine Kd.C_drewN ?_ _) | (with_reducible refine Kd.C_drew ?_))); (case side2 => exact HC0_5.out); (case side3 => repeat (first | exact (Kd.C_below HR0_6.out HB.out) | (with_reducible refine Kd.C_alloc ?_ _) | (with_reducible refine Kd.C_drewN ?_ _) | (with_reducible refine Kd.C_drew ?_))); (case side4 => exact HC0_6.out); (case side5 => repeat (first | exact (Kd.C_below HR0_7.out HB.out) | (with_reducible refine Kd.C_alloc ?_ _) | (with_reducible refine Kd.C_drewN ?_ _) | (with_reducible refine Kd.C_drew ?_))); (case side6 => exact HC0_7.out); (case side7 => repeat (first | exact (Kd.C_below HR0_8.out HB.out) | (with_reducible refine Kd.C_alloc ?_ _) | (with_reducible refine Kd.C_drewN ?_ _) | (with_reducible refine Kd.C_drew ?_))); (case side8 => exact HC0_8.out); rintro e w13 ⟨rfl, hb⟩; refine ⟨_, rfl, ?_⟩; have n0_ := Aside0.mk (blk_below (g := gb101) (o := .cells #[.int .i64 a0_0, .int .u64 a0_1, .int .u64 a0_2, .int .u64 a0_3, .int .u64 a0_4, .slice A0_5 l0_5.length c0_5, .slice A0_6 l0_6.length c0_6, .slice A0_7 l0_7.length c0_7, .slice A0_8 l0_8.length c0_8] 37 (0, 0)) (by (with_reducible repeat (first | refine blk_drewN ?_ _ | refine blk_drew ?_ | refine blk_alloc ?_ _)); exact BK101.out) hb); have n1_ := Aside0.mk (blk_below (g := gb102) (o := .cells #[.int .i64 0, .int .i64 0, .int .u64 0] 62 (0, 0)) (by (with_reducible repeat (first | refine blk_drewN ?_ _ | refine blk_drew ?_ | refine blk_alloc ?_ _)); exact BK102.out) hb); have n2_ := Aside0.mk (below_step (by repeat (first | (with_reducible first | exact HB.out | apply below_alloc | apply pw_below_drewN | apply below_drew1 | refine below_set ?_ GE101.out | refine below_set ?_ GE102.out) | exact HB.out)) hb); clear BK101; clear BK102; clear HB; have BK101 := n0_; have BK102 := n1_; have HB := n2_; clear n0_ n1_ n2_; (try clear hb); (try clear hb2); (try clear hk); (try clear hi); clear A4) | ((with_reducible refine gate_callee (f := 43) rfl ?_); refine goesL_ (some 24) rfl rfl Try.func43 (by kernel_rfl) rfl #[.int .u64 t103, .int .u64 a1, .int .u64 a2] rfl (by (try simp only [List.map_toArray, List.map_cons, List.map_nil]); first | done | rfl | (simp only [List.length_drop, List.length_take]; rfl)) ?_; (with_reducible refine (rank_Rank.calls t103 a1 a2 t105 t106 _ A6.out).mono ?_); rintro e w14 ⟨rfl, hb⟩; refine ⟨_, rfl, ?_⟩; have n0_ := Aside0.mk (blk_below (g := gb101) (o := .cells #[.int .i64 a0_0, .int .u64 a0_1, .int .u64 a0_2, .int .u64 a0_3, .int .u64 a0_4, .slice A0_5 l0_5.length c0_5, .slice A0_6 l0_6.length c0_6, .slice A0_7 l0_7.length c0_7, .slice A0_8 l0_8.length c0_8] 37 (0, 0)) (by (with_reducible repeat (first | refine blk_drewN ?_ _ | refine blk_drew ?_ | refine blk_alloc ?_ _)); exact BK101.out) hb); have n1_ := Aside0.mk (blk_below (g := gb102) (o := .cells #[.int .i64 0, .int .i64 0, .int .u64 0] 62 (0, 0)) (by (with_reducible repeat (first | refine blk_drewN ?_ _ | refine blk_drew ?_ | refine blk_alloc ?_ _)); exact BK102.out) hb); have n2_ := Aside0.mk (below_step (by repeat (first | (with_reducible first | exact HB.out | apply below_alloc | apply pw_below_drewN | apply below_drew1 | refine below_set ?_ GE101.out | refine below_set ?_ GE102.out) | exact HB.out)) hb); clear BK101; clear BK102; clear HB; have BK101 := n0_; have BK102 := n1_; have HB := n2_; clear n0_ n1_ n2_; (try clear hb); (try clear hb2); (try clear hk); (try clear hi); clear A6; have hcz15_0 : w14.cell? ⟨gb102, 0, none⟩ = some (.int .i64 0) := (blk_cell BK102.out 0).trans rfl; have hcz15_1 : w14.cell? ⟨gb102, 1, none⟩ = some (.int .i64 0) := (blk_cell BK102.out 1).trans rfl; have hcz15_2 : w14.cell? ⟨gb102, 2, none⟩ = some (.int .u64 0) := (blk_cell BK102.out 2).trans rfl; have hfz15_0 := blk_frozen BK102.out 0; have hfz15_1 := blk_frozen BK102.out 1; have hfz15_2 := blk_frozen BK102.out 2))
    refine bodyPost_ret (results_ct rfl _ _ gb102 62 #[.int .i64 0, .int .i64 0, .int .u64 0] (0, 0) _ rfl (by (with_reducible repeat (first | refine blk_drewN ?_ _ | refine blk_drew ?_ | refine blk_alloc ?_ _)); refine blk_put (cs := #[.int .i64 0, .int .i64 0, .int .u64 0]) ?_ 2 _ rfl; (with_reducible repeat (first | refine blk_drewN ?_ _ | refine blk_drew ?_ | refine blk_alloc ?_ _)); refine blk_put (cs := #[.int .i64 0, .int .i64 0, .int .u64 0]) ?_ 1 _ rfl; (with_reducible repeat (first | refine blk_drewN ?_ _ | refine blk_drew ?_ | refine blk_alloc ?_ _)); refine blk_put (cs := #[.int .i64 0, .int .i64 0, .int .u64 0]) ?_ 0 _ rfl; (with_reducible repeat (first | refine blk_drewN ?_ _ | refine blk_drew ?_ | refine blk_alloc ?_ _)); exact BK102.out) Try.underlying62 rfl (by kernel_rfl)) rfl ?_
    exact ⟨by first | rfl | (simp [errW_none, errW_some] <;> rfl) | (simp [*, errW_none, errW_some] <;> rfl), by repeat (first | (with_reducible first | exact HB.out | apply below_alloc | apply pw_below_drewN | apply below_drew1 | refine below_set ?_ GE101.out | refine below_set ?_ GE102.out) | exact HB.out)⟩
   ·rw [if_neg c8] at H
    have c8b0 : (t103 == 0) = false := beq_eq_false_iff_ne.mpr c8
    have c8b1 : (t103 != 0) = true := bne_iff_ne.mpr c8
    obtain ⟨ji16, hji16⟩ : ∃ j_ : Int, (mx t105 1) = j_ := ⟨_, rfl⟩
    replace H : ((rank_At.f a0_0 a0_1 a0_2 a0_3 a0_4 l0_5 l0_6 l0_7 l0_8 (ji16)).bind fun bt107 => (some (bt107.1, bt107.2.1, bt107.2.2.1, bt107.2.2.2))) = some (r1, r2, r3, r4) := by first | (rw [hji16] at H; exact H) | (simp only [hji16] at H ⊢; exact H)
    (try rw [hji16] at A4)
    (try rw [hji16] at A6)
    (try (have hji16l : 1 ≤ ji16 := by (rw [← hji16]; unfold mx; (repeat' split) <;> omega)))
    (try (have hji16m : 0 ≤ ji16 := by omega))
    have hji16_ : (if t105 < 1 then 1 else t105) = ji16 := hji16
    replace H := Option.bind_eq_some_iff.mp H
    obtain ⟨⟨t107, t108, t109, t110⟩, A170, H⟩ := H
    replace H : (some (t107, t108, t109, t110)) = some (r1, r2, r3, r4) := H
    have A17 := Aside0.mk A170
    clear A170
    simp only [Option.some.injEq, Prod.mk.injEq] at H
    obtain ⟨rfl, rfl, rfl, rfl⟩ := H
    go_enter Try.func45, Try.ntmps45
    go_wp2_with (first | ((with_reducible refine gate_dst (N := 3) rfl ?_); refine box_event ?hg (N := 3) ?hd (cs := #[.int .i64 a0_0, .int .u64 a0_1, .int .u64 a0_2, .int .u64 a0_3, .int .u64 a0_4, .slice A0_5 l0_5.length c0_5, .slice A0_6 l0_6.length c0_6, .slice A0_7 l0_7.length c0_7, .slice A0_8 l0_8.length c0_8]) (t := 37) ?hr ?_; (case hd => rfl); (case hg => rfl); (case hr => first | (go_simp; done) | (go_simp; rfl)); intro gb101 hg w18 hbox hb; have n0_ := Aside0.mk (below_step (by repeat (first | (with_reducible first | exact HB.out | apply below_alloc | apply pw_below_drewN | apply below_drew1) | exact HB.out)) hb); have n1_ := Aside0.mk (hbox); have n2_ := Aside0.mk ((by rw [hg]; exact (below_size (by repeat (first | (with_reducible first | exact HB.out | apply below_alloc | apply pw_below_drewN | apply below_drew1) | exact HB.out))) : w.heap.size ≤ gb101)); have n3_ := Aside0.mk ((by rw [hg]; exact (below_size (by repeat (first | (with_reducible first | exact HB.out | apply below_alloc | apply pw_below_drewN | apply below_drew1) | exact HB.out))) : w.heap.size ≤ gb101)); clear HB; have HB := n0_; have BK101 := n1_; have GW101 := n2_; have GE101 := n3_; clear n0_ n1_ n2_ n3_; clear hb hbox hg) | ((with_reducible refine gate_dst (N := 6) rfl ?_); refine box_event ?hg (N := 6) ?hd (cs := #[.int .i64 0, .int .i64 0, .int .u64 0]) (t := 62) ?hr ?_; (case hd => rfl); (case hg => rfl); (case hr => first | (go_simp; done) | (go_simp; rfl)); intro gb102 hg w19 hbox hb; have n0_ := Aside0.mk (blk_below (g := gb101) (o := .cells #[.int .i64 a0_0, .int .u64 a0_1, .int .u64 a0_2, .int .u64 a0_3, .int .u64 a0_4, .slice A0_5 l0_5.length c0_5, .slice A0_6 l0_6.length c0_6, .slice A0_7 l0_7.length c0_7, .slice A0_8 l0_8.length c0_8] 37 (0, 0)) (by (with_reducible repeat (first | refine blk_drewN ?_ _ | refine blk_drew ?_ | refine blk_alloc ?_ _)); exact BK101.out) hb); have n1_ := Aside0.mk (below_step (by repeat (first | (with_reducible first | exact HB.out | apply below_alloc | apply pw_below_drewN | apply below_drew1 | refine below_set ?_ GE101.out) | exact HB.out)) hb); have n2_ := Aside0.mk (hbox); have n3_ := Aside0.mk ((by rw [hg]; exact (below_size (by repeat (first | (with_reducible first | exact HB.out | apply below_alloc | apply pw_below_drewN | apply below_drew1 | refine below_set ?_ GE101.out) | exact HB.out))) : w.heap.size ≤ gb102)); have n4_ := Aside0.mk ((by rw [hg]; exact (below_size (by repeat (first | (with_reducible first | exact HB.out | apply below_alloc | apply pw_below_drewN | apply below_drew1 | refine below_set ?_ GE101.out) | exact HB.out))) : w.heap.size ≤ gb102)); have n5_ := Aside0.mk ((by rw [hg]; exact Nat.ne_of_lt (blk_lt (g := gb101) (o := .cells #[.int .i64 a0_0, .int .u64 a0_1, .int .u64 a0_2, .int .u64 a0_3, .int .u64 a0_4, .slice A0_5 l0_5.length c0_5, .slice A0_6 l0_6.length c0_6, .slice A0_7 l0_7.length c0_7, .slice A0_8 l0_8.length c0_8] 37 (0, 0)) (by (with_reducible repeat (first | refine blk_drewN ?_ _ | refine blk_drew ?_ | refine blk_alloc ?_ _)); exact BK101.out)) : gb101 ≠ gb102)); have n6_ := Aside0.mk ((by rw [hg]; exact Nat.ne_of_gt (blk_lt (g := gb101) (o := .cells #[.int .i64 a0_0, .int .u64 a0_1, .int .u64 a0_2, .int .u64 a0_3, .int .u64 a0_4, .slice A0_5 l0_5.length c0_5, .slice A0_6 l0_6.length c0_6, .slice A0_7 l0_7.length c0_7, .slice A0_8 l0_8.length c0_8] 37 (0, 0)) (by (with_reducible repeat (first | refine blk_drewN ?_ _ | refine blk_drew ?_ | refine blk_alloc ?_ _)); exact BK101.out)) : gb102 ≠ gb101)); clear BK101; clear HB; have BK101 := n0_; have HB := n1_; have BK102 := n2_; have GW102 := n3_; have GE102 := n4_; have NB101_102 := n5_; have NB102_101 := n6_; clear n0_ n1_ n2_ n3_ n4_ n5_ n6_; clear hb hbox hg; have hnb20 := NB101_102.out; have hnc20 := NB102_101.out; have hcz21_0 : w19.cell? ⟨gb101, 0, none⟩ = some (.int .i64 a0_0) := (blk_cell BK101.out 0).trans rfl; have hcz21_1 : w19.cell? ⟨gb101, 1, none⟩ = some (.int .u64 a0_1) := (blk_cell BK101.out 1).trans rfl; have hcz21_2 : w19.cell? ⟨gb101, 2, none⟩ = some (.int .u64 a0_2) := (blk_cell BK101.out 2).trans rfl; have hcz21_3 : w19.cell? ⟨gb101, 3, none⟩ = some (.int .u64 a0_3) := (blk_cell BK101.out 3).trans rfl; have hcz21_4 : w19.cell? ⟨gb101, 4, none⟩ = some (.int .u64 a0_4) := (blk_cell BK101.out 4).trans rfl; have hcz21_5 : w19.cell? ⟨gb101, 5, none⟩ = some (.slice A0_5 l0_5.length c0_5) := (blk_cell BK101.out 5).trans rfl; have hcz21_6 : w19.cell? ⟨gb101, 6, none⟩ = some (.slice A0_6 l0_6.length c0_6) := (blk_cell BK101.out 6).trans rfl; have hcz21_7 : w19.cell? ⟨gb101, 7, none⟩ = some (.slice A0_7 l0_7.length c0_7) := (blk_cell BK101.out 7).trans rfl; have hcz21_8 : w19.cell? ⟨gb101, 8, none⟩ = some (.slice A0_8 l0_8.length c0_8) := (blk_cell BK101.out 8).trans rfl; have hfz21_0 := blk_frozen BK101.out 0; have hfz21_1 := blk_frozen BK101.out 1; have hfz21_2 := blk_frozen BK101.out 2; have hfz21_3 := blk_frozen BK101.out 3; have hfz21_4 := blk_frozen BK101.out 4; have hfz21_5 := blk_frozen BK101.out 5; have hfz21_6 := blk_frozen BK101.out 6; have hfz21_7 := blk_frozen BK101.out 7; have hfz21_8 := blk_frozen BK101.out 8) | ((with_reducible refine gate_callee (f := 35) rfl ?_); refine goesL_ (some 13) rfl rfl Try.func35 (by kernel_rfl) rfl #[.agg #[.int .i64 a0_0, .int .u64 a0_1, .int .u64 a0_2, .int .u64 a0_3, .int .u64 a0_4, .slice A0_5 l0_5.length c0_5, .slice A0_6 l0_6.length c0_6, .slice A0_7 l0_7.length c0_7, .slice A0_8 l0_8.length c0_8]] rfl (by (try simp only [List.map_toArray, List.map_cons, List.map_nil]); first | done | rfl | (simp only [List.length_drop, List.length_take]; rfl)) ?_; (with_reducible refine (rank_Total.calls a0_0 a0_1 a0_2 a0_3 a0_4 _ _ l0_5 _ _ l0_6 _ _ l0_7 _ _ l0_8 t103 t104 _ ?side1 ?side2 ?side3 ?side4 ?side5 ?side6 ?side7 ?side8 A4.out).mono ?_); (case side1 => repeat (first | exact (Kd.C_below HR0_5.out HB.out) | (with_reducible refine Kd.C_alloc ?_ _) | (with_reducible refine Kd.C_drewN ?_ _) | (with_reducible refine Kd.C_drew ?_))); (case side2 => exact HC0_5.out); (case side3 => repeat (first | exact (Kd.C_below HR0_6.out HB.out) | (with_reducible refine Kd.C_alloc ?_ _) | (with_reducible refine Kd.C_drewN ?_ _) | (with_reducible refine Kd.C_drew ?_))); (case side4 => exact HC0_6.out); (case side5 => repeat (first | exact (Kd.C_below HR0_7.out HB.out) | (with_reducible refine Kd.C_alloc ?_ _) | (with_reducible refine Kd.C_drewN ?_ _) | (with_reducible refine Kd.C_drew ?_))); (case side6 => exact HC0_7.out); (case side7 => repeat (first | exact (Kd.C_below HR0_8.out HB.out) | (with_reducible refine Kd.C_alloc ?_ _) | (with_reducible refine Kd.C_drewN ?_ _) | (with_reducible refine Kd.C_drew ?_))); (case side8 => exact HC0_8.out); rintro e w22 ⟨rfl, hb⟩; refine ⟨_, rfl, ?_⟩; have n0_ := Aside0.mk (blk_below (g := gb101) (o := .cells #[.int .i64 a0_0, .int .u64 a0_1, .int .u64 a0_2, .int .u64 a0_3, .int .u64 a0_4, .slice A0_5 l0_5.length c0_5, .slice A0_6 l0_6.length c0_6, .slice A0_7 l0_7.length c0_7, .slice A0_8 l0_8.length c0_8] 37 (0, 0)) (by (with_reducible repeat (first | refine blk_drewN ?_ _ | refine blk_drew ?_ | refine blk_alloc ?_ _)); exact BK101.out) hb); have n1_ := Aside0.mk (blk_below (g := gb102) (o := .cells #[.int .i64 0, .int .i64 0, .int .u64 0] 62 (0, 0)) (by (with_reducible repeat (first | refine blk_drewN ?_ _ | refine blk_drew ?_ | refine blk_alloc ?_ _)); exact BK102.out) hb); have n2_ := Aside0.mk (below_step (by repeat (first | (with_reducible first | exact HB.out | apply below_alloc | apply pw_below_drewN | apply below_drew1 | refine below_set ?_ GE101.out | refine below_set ?_ GE102.out) | exact HB.out)) hb); clear BK101; clear BK102; clear HB; have BK101 := n0_; have BK102 := n1_; have HB := n2_; clear n0_ n1_ n2_; (try clear hb); (try clear hb2); (try clear hk); (try clear hi); clear A4) | ((with_reducible refine gate_callee (f := 43) rfl ?_); refine goesL_ (some 24) rfl rfl Try.func43 (by kernel_rfl) rfl #[.int .u64 t103, .int .u64 a1, .int .u64 a2] rfl (by (try simp only [List.map_toArray, List.map_cons, List.map_nil]); first | done | rfl | (simp only [List.length_drop, List.length_take]; rfl)) ?_; (with_reducible refine (rank_Rank.calls t103 a1 a2 t105 t106 _ A6.out).mono ?_); rintro e w23 ⟨rfl, hb⟩; refine ⟨_, rfl, ?_⟩; have n0_ := Aside0.mk (blk_below (g := gb101) (o := .cells #[.int .i64 a0_0, .int .u64 a0_1, .int .u64 a0_2, .int .u64 a0_3, .int .u64 a0_4, .slice A0_5 l0_5.length c0_5, .slice A0_6 l0_6.length c0_6, .slice A0_7 l0_7.length c0_7, .slice A0_8 l0_8.length c0_8] 37 (0, 0)) (by (with_reducible repeat (first | refine blk_drewN ?_ _ | refine blk_drew ?_ | refine blk_alloc ?_ _)); exact BK101.out) hb); have n1_ := Aside0.mk (blk_below (g := gb102) (o := .cells #[.int .i64 0, .int .i64 0, .int .u64 0] 62 (0, 0)) (by (with_reducible repeat (first | refine blk_drewN ?_ _ | refine blk_drew ?_ | refine blk_alloc ?_ _)); exact BK102.out) hb); have n2_ := Aside0.mk (below_step (by repeat (first | (with_reducible first | exact HB.out | apply below_alloc | apply pw_below_drewN | apply below_drew1 | refine below_set ?_ GE101.out | refine below_set ?_ GE102.out) | exact HB.out)) hb); clear BK101; clear BK102; clear HB; have BK101 := n0_; have BK102 := n1_; have HB := n2_; clear n0_ n1_ n2_; (try clear hb); (try clear hb2); (try clear hk); (try clear hi); clear A6; have hcz24_0 : w23.cell? ⟨gb101, 0, none⟩ = some (.int .i64 a0_0) := (blk_cell BK101.out 0).trans rfl; have hcz24_1 : w23.cell? ⟨gb101, 1, none⟩ = some (.int .u64 a0_1) := (blk_cell BK101.out 1).trans rfl; have hcz24_2 : w23.cell? ⟨gb101, 2, none⟩ = some (.int .u64 a0_2) := (blk_cell BK101.out 2).trans rfl; have hcz24_3 : w23.cell? ⟨gb101, 3, none⟩ = some (.int .u64 a0_3) := (blk_cell BK101.out 3).trans rfl; have hcz24_4 : w23.cell? ⟨gb101, 4, none⟩ = some (.int .u64 a0_4) := (blk_cell BK101.out 4).trans rfl; have hcz24_5 : w23.cell? ⟨gb101, 5, none⟩ = some (.slice A0_5 l0_5.length c0_5) := (blk_cell BK101.out 5).trans rfl; have hcz24_6 : w23.cell? ⟨gb101, 6, none⟩ = some (.slice A0_6 l0_6.length c0_6) := (blk_cell BK101.out 6).trans rfl; have hcz24_7 : w23.cell? ⟨gb101, 7, none⟩ = some (.slice A0_7 l0_7.length c0_7) := (blk_cell BK101.out 7).trans rfl; have hcz24_8 : w23.cell? ⟨gb101, 8, none⟩ = some (.slice A0_8 l0_8.length c0_8) := (blk_cell BK101.out 8).trans rfl; have hfz24_0 := blk_frozen BK101.out 0; have hfz24_1 := blk_frozen BK101.out 1; have hfz24_2 := blk_frozen BK101.out 2; have hfz24_3 := blk_frozen BK101.out 3; have hfz24_4 := blk_frozen BK101.out 4; have hfz24_5 := blk_frozen BK101.out 5; have hfz24_6 := blk_frozen BK101.out 6; have hfz24_7 := blk_frozen BK101.out 7; have hfz24_8 := blk_frozen BK101.out 8) | ((with_reducible refine gate_callee (f := 36) rfl ?_); refine goesL_ (some 39) rfl rfl Try.func36 (by kernel_rfl) rfl #[.agg #[.int .i64 a0_0, .int .u64 a0_1, .int .u64 a0_2, .int .u64 a0_3, .int .u64 a0_4, .slice A0_5 l0_5.length c0_5, .slice A0_6 l0_6.length c0_6, .slice A0_7 l0_7.length c0_7, .slice A0_8 l0_8.length c0_8], .int .u64 ji16] rfl (by (try simp only [List.map_toArray, List.map_cons, List.map_nil]); first | done | (simp only [hji16]; rfl) | rfl | (simp only [List.length_drop, List.length_take]; rfl)) ?_; (with_reducible refine (rank_At.calls a0_0 a0_1 a0_2 a0_3 a0_4 _ _ l0_5 _ _ l0_6 _ _ l0_7 _ _ l0_8 ji16 t107 t108 t109 t110 _ ?side1 ?side2 ?side3 ?side4 ?side5 ?side6 ?side7 ?side8 A17.out).mono ?_); (case side1 => repeat (first | exact (Kd.C_below HR0_5.out HB.out) | (with_reducible refine Kd.C_alloc ?_ _) | (with_reducible refine Kd.C_drewN ?_ _) | (with_reducible refine Kd.C_drew ?_))); (case side2 => exact HC0_5.out); (case side3 => repeat (first | exact (Kd.C_below HR0_6.out HB.out) | (with_reducible refine Kd.C_alloc ?_ _) | (with_reducible refine Kd.C_drewN ?_ _) | (with_reducible refine Kd.C_drew ?_))); (case side4 => exact HC0_6.out); (case side5 => repeat (first | exact (Kd.C_below HR0_7.out HB.out) | (with_reducible refine Kd.C_alloc ?_ _) | (with_reducible refine Kd.C_drewN ?_ _) | (with_reducible refine Kd.C_drew ?_))); (case side6 => exact HC0_7.out); (case side7 => repeat (first | exact (Kd.C_below HR0_8.out HB.out) | (with_reducible refine Kd.C_alloc ?_ _) | (with_reducible refine Kd.C_drewN ?_ _) | (with_reducible refine Kd.C_drew ?_))); (case side8 => exact HC0_8.out); rintro e w25 ⟨rfl, hb⟩; refine ⟨_, rfl, ?_⟩; have n0_ := Aside0.mk (blk_below (g := gb101) (o := .cells #[.int .i64 a0_0, .int .u64 a0_1, .int .u64 a0_2, .int .u64 a0_3, .int .u64 a0_4, .slice A0_5 l0_5.length c0_5, .slice A0_6 l0_6.length c0_6, .slice A0_7 l0_7.length c0_7, .slice A0_8 l0_8.length c0_8] 37 (0, 0)) (by (with_reducible repeat (first | refine blk_drewN ?_ _ | refine blk_drew ?_ | refine blk_alloc ?_ _)); exact BK101.out) hb); have n1_ := Aside0.mk (blk_below (g := gb102) (o := .cells #[.int .i64 0, .int .i64 0, .int .u64 0] 62 (0, 0)) (by (with_reducible repeat (first | refine blk_drewN ?_ _ | refine blk_drew ?_ | refine blk_alloc ?_ _)); exact BK102.out) hb); have n2_ := Aside0.mk (below_step (by repeat (first | (with_reducible first | exact HB.out | apply below_alloc | apply pw_below_drewN | apply below_drew1 | refine below_set ?_ GE101.out | refine below_set ?_ GE102.out) | exact HB.out)) hb); clear BK101; clear BK102; clear HB; have BK101 := n0_; have BK102 := n1_; have HB := n2_; clear n0_ n1_ n2_; (try clear hb); (try clear hb2); (try clear hk); (try clear hi); clear A17; have hcz26_0 : w25.cell? ⟨gb102, 0, none⟩ = some (.int .i64 0) := (blk_cell BK102.out 0).trans rfl; have hcz26_1 : w25.cell? ⟨gb102, 1, none⟩ = some (.int .i64 0) := (blk_cell BK102.out 1).trans rfl; have hcz26_2 : w25.cell? ⟨gb102, 2, none⟩ = some (.int .u64 0) := (blk_cell BK102.out 2).trans rfl; have hfz26_0 := blk_frozen BK102.out 0; have hfz26_1 := blk_frozen BK102.out 1; have hfz26_2 := blk_frozen BK102.out 2))
    refine bodyPost_ret (results_ct rfl _ _ gb102 62 #[.int .i64 t107, .int .i64 t108, .int .u64 t109] (0, 0) _ rfl (by (with_reducible repeat (first | refine blk_drewN ?_ _ | refine blk_drew ?_ | refine blk_alloc ?_ _)); refine blk_put (cs := #[.int .i64 t107, .int .i64 t108, .int .u64 0]) ?_ 2 _ rfl; (with_reducible repeat (first | refine blk_drewN ?_ _ | refine blk_drew ?_ | refine blk_alloc ?_ _)); refine blk_put (cs := #[.int .i64 t107, .int .i64 0, .int .u64 0]) ?_ 1 _ rfl; (with_reducible repeat (first | refine blk_drewN ?_ _ | refine blk_drew ?_ | refine blk_alloc ?_ _)); refine blk_put (cs := #[.int .i64 0, .int .i64 0, .int .u64 0]) ?_ 0 _ rfl; (with_reducible repeat (first | refine blk_drewN ?_ _ | refine blk_drew ?_ | refine blk_alloc ?_ _)); exact BK102.out) Try.underlying62 rfl (by kernel_rfl)) rfl ?_
    exact ⟨by first | rfl | (simp [errW_none, errW_some] <;> rfl) | (simp only [← hji16]; first | rfl | (simp [errW_none, errW_some] <;> rfl)) | (simp [*, errW_none, errW_some] <;> rfl), by repeat (first | (with_reducible first | exact HB.out | apply below_alloc | apply pw_below_drewN | apply below_drew1 | refine below_set ?_ GE101.out | refine below_set ?_ GE102.out) | exact HB.out)⟩
  ·rw [if_neg c7] at H
   have c7b0 : (t106 == 0) = false := beq_eq_false_iff_ne.mpr c7
   have c7b1 : (t106 != 0) = true := bne_iff_ne.mpr c7
   simp only [Option.some.injEq, Prod.mk.injEq] at H
   obtain ⟨rfl, rfl, rfl, rfl⟩ := H
   go_enter Try.func45, Try.ntmps45
   go_wp2_with (first | ((with_reducible refine gate_dst (N := 3) rfl ?_); refine box_event ?hg (N := 3) ?hd (cs := #[.int .i64 a0_0, .int .u64 a0_1, .int .u64 a0_2, .int .u64 a0_3, .int .u64 a0_4, .slice A0_5 l0_5.length c0_5, .slice A0_6 l0_6.length c0_6, .slice A0_7 l0_7.length c0_7, .slice A0_8 l0_8.length c0_8]) (t := 37) ?hr ?_; (case hd => rfl); (case hg => rfl); (case hr => first | (go_simp; done) | (go_simp; rfl)); intro gb101 hg w27 hbox hb; have n0_ := Aside0.mk (below_step (by repeat (first | (with_reducible first | exact HB.out | apply below_alloc | apply pw_below_drewN | apply below_drew1) | exact HB.out)) hb); have n1_ := Aside0.mk (hbox); have n2_ := Aside0.mk ((by rw [hg]; exact (below_size (by repeat (first | (with_reducible first | exact HB.out | apply below_alloc | apply pw_below_drewN | apply below_drew1) | exact HB.out))) : w.heap.size ≤ gb101)); have n3_ := Aside0.mk ((by rw [hg]; exact (below_size (by repeat (first | (with_reducible first | exact HB.out | apply below_alloc | apply pw_below_drewN | apply below_drew1) | exact HB.out))) : w.heap.size ≤ gb101)); clear HB; have HB := n0_; have BK101 := n1_; have GW101 := n2_; have GE101 := n3_; clear n0_ n1_ n2_ n3_; clear hb hbox hg) | ((with_reducible refine gate_dst (N := 6) rfl ?_); refine box_event ?hg (N := 6) ?hd (cs := #[.int .i64 0, .int .i64 0, .int .u64 0]) (t := 62) ?hr ?_; (case hd => rfl); (case hg => rfl); (case hr => first | (go_simp; done) | (go_simp; rfl)); intro gb102 hg w28 hbox hb; have n0_ := Aside0.mk (blk_below (g := gb101) (o := .cells #[.int .i64 a0_0, .int .u64 a0_1, .int .u64 a0_2, .int .u64 a0_3, .int .u64 a0_4, .slice A0_5 l0_5.length c0_5, .slice A0_6 l0_6.length c0_6, .slice A0_7 l0_7.length c0_7, .slice A0_8 l0_8.length c0_8] 37 (0, 0)) (by (with_reducible repeat (first | refine blk_drewN ?_ _ | refine blk_drew ?_ | refine blk_alloc ?_ _)); exact BK101.out) hb); have n1_ := Aside0.mk (below_step (by repeat (first | (with_reducible first | exact HB.out | apply below_alloc | apply pw_below_drewN | apply below_drew1 | refine below_set ?_ GE101.out) | exact HB.out)) hb); have n2_ := Aside0.mk (hbox); have n3_ := Aside0.mk ((by rw [hg]; exact (below_size (by repeat (first | (with_reducible first | exact HB.out | apply below_alloc | apply pw_below_drewN | apply below_drew1 | refine below_set ?_ GE101.out) | exact HB.out))) : w.heap.size ≤ gb102)); have n4_ := Aside0.mk ((by rw [hg]; exact (below_size (by repeat (first | (with_reducible first | exact HB.out | apply below_alloc | apply pw_below_drewN | apply below_drew1 | refine below_set ?_ GE101.out) | exact HB.out))) : w.heap.size ≤ gb102)); have n5_ := Aside0.mk ((by rw [hg]; exact Nat.ne_of_lt (blk_lt (g := gb101) (o := .cells #[.int .i64 a0_0, .int .u64 a0_1, .int .u64 a0_2, .int .u64 a0_3, .int .u64 a0_4, .slice A0_5 l0_5.length c0_5, .slice A0_6 l0_6.length c0_6, .slice A0_7 l0_7.length c0_7, .slice A0_8 l0_8.length c0_8] 37 (0, 0)) (by (with_reducible repeat (first | refine blk_drewN ?_ _ | refine blk_drew ?_ | refine blk_alloc ?_ _)); exact BK101.out)) : gb101 ≠ gb102)); have n6_ := Aside0.mk ((by rw [hg]; exact Nat.ne_of_gt (blk_lt (g := gb101) (o := .cells #[.int .i64 a0_0, .int .u64 a0_1, .int .u64 a0_2, .int .u64 a0_3, .int .u64 a0_4, .slice A0_5 l0_5.length c0_5, .slice A0_6 l0_6.length c0_6, .slice A0_7 l0_7.length c0_7, .slice A0_8 l0_8.length c0_8] 37 (0, 0)) (by (with_reducible repeat (first | refine blk_drewN ?_ _ | refine blk_drew ?_ | refine blk_alloc ?_ _)); exact BK101.out)) : gb102 ≠ gb101)); clear BK101; clear HB; have BK101 := n0_; have HB := n1_; have BK102 := n2_; have GW102 := n3_; have GE102 := n4_; have NB101_102 := n5_; have NB102_101 := n6_; clear n0_ n1_ n2_ n3_ n4_ n5_ n6_; clear hb hbox hg; have hnb29 := NB101_102.out; have hnc29 := NB102_101.out; have hcz30_0 : w28.cell? ⟨gb101, 0, none⟩ = some (.int .i64 a0_0) := (blk_cell BK101.out 0).trans rfl; have hcz30_1 : w28.cell? ⟨gb101, 1, none⟩ = some (.int .u64 a0_1) := (blk_cell BK101.out 1).trans rfl; have hcz30_2 : w28.cell? ⟨gb101, 2, none⟩ = some (.int .u64 a0_2) := (blk_cell BK101.out 2).trans rfl; have hcz30_3 : w28.cell? ⟨gb101, 3, none⟩ = some (.int .u64 a0_3) := (blk_cell BK101.out 3).trans rfl; have hcz30_4 : w28.cell? ⟨gb101, 4, none⟩ = some (.int .u64 a0_4) := (blk_cell BK101.out 4).trans rfl; have hcz30_5 : w28.cell? ⟨gb101, 5, none⟩ = some (.slice A0_5 l0_5.length c0_5) := (blk_cell BK101.out 5).trans rfl; have hcz30_6 : w28.cell? ⟨gb101, 6, none⟩ = some (.slice A0_6 l0_6.length c0_6) := (blk_cell BK101.out 6).trans rfl; have hcz30_7 : w28.cell? ⟨gb101, 7, none⟩ = some (.slice A0_7 l0_7.length c0_7) := (blk_cell BK101.out 7).trans rfl; have hcz30_8 : w28.cell? ⟨gb101, 8, none⟩ = some (.slice A0_8 l0_8.length c0_8) := (blk_cell BK101.out 8).trans rfl; have hfz30_0 := blk_frozen BK101.out 0; have hfz30_1 := blk_frozen BK101.out 1; have hfz30_2 := blk_frozen BK101.out 2; have hfz30_3 := blk_frozen BK101.out 3; have hfz30_4 := blk_frozen BK101.out 4; have hfz30_5 := blk_frozen BK101.out 5; have hfz30_6 := blk_frozen BK101.out 6; have hfz30_7 := blk_frozen BK101.out 7; have hfz30_8 := blk_frozen BK101.out 8) | ((with_reducible refine gate_callee (f := 35) rfl ?_); refine goesL_ (some 13) rfl rfl Try.func35 (by kernel_rfl) rfl #[.agg #[.int .i64 a0_0, .int .u64 a0_1, .int .u64 a0_2, .int .u64 a0_3, .int .u64 a0_4, .slice A0_5 l0_5.length c0_5, .slice A0_6 l0_6.length c0_6, .slice A0_7 l0_7.length c0_7, .slice A0_8 l0_8.length c0_8]] rfl (by (try simp only [List.map_toArray, List.map_cons, List.map_nil]); first | done | rfl | (simp only [List.length_drop, List.length_take]; rfl)) ?_; (with_reducible refine (rank_Total.calls a0_0 a0_1 a0_2 a0_3 a0_4 _ _ l0_5 _ _ l0_6 _ _ l0_7 _ _ l0_8 t103 t104 _ ?side1 ?side2 ?side3 ?side4 ?side5 ?side6 ?side7 ?side8 A4.out).mono ?_); (case side1 => repeat (first | exact (Kd.C_below HR0_5.out HB.out) | (with_reducible refine Kd.C_alloc ?_ _) | (with_reducible refine Kd.C_drewN ?_ _) | (with_reducible refine Kd.C_drew ?_))); (case side2 => exact HC0_5.out); (case side3 => repeat (first | exact (Kd.C_below HR0_6.out HB.out) | (with_reducible refine Kd.C_alloc ?_ _) | (with_reducible refine Kd.C_drewN ?_ _) | (with_reducible refine Kd.C_drew ?_))); (case side4 => exact HC0_6.out); (case side5 => repeat (first | exact (Kd.C_below HR0_7.out HB.out) | (with_reducible refine Kd.C_alloc ?_ _) | (with_reducible refine Kd.C_drewN ?_ _) | (with_reducible refine Kd.C_drew ?_))); (case side6 => exact HC0_7.out); (case side7 => repeat (first | exact (Kd.C_below HR0_8.out HB.out) | (with_reducible refine Kd.C_alloc ?_ _) | (with_reducible refine Kd.C_drewN ?_ _) | (with_reducible refine Kd.C_drew ?_))); (case side8 => exact HC0_8.out); rintro e w31 ⟨rfl, hb⟩; refine ⟨_, rfl, ?_⟩; have n0_ := Aside0.mk (blk_below (g := gb101) (o := .cells #[.int .i64 a0_0, .int .u64 a0_1, .int .u64 a0_2, .int .u64 a0_3, .int .u64 a0_4, .slice A0_5 l0_5.length c0_5, .slice A0_6 l0_6.length c0_6, .slice A0_7 l0_7.length c0_7, .slice A0_8 l0_8.length c0_8] 37 (0, 0)) (by (with_reducible repeat (first | refine blk_drewN ?_ _ | refine blk_drew ?_ | refine blk_alloc ?_ _)); exact BK101.out) hb); have n1_ := Aside0.mk (blk_below (g := gb102) (o := .cells #[.int .i64 0, .int .i64 0, .int .u64 0] 62 (0, 0)) (by (with_reducible repeat (first | refine blk_drewN ?_ _ | refine blk_drew ?_ | refine blk_alloc ?_ _)); exact BK102.out) hb); have n2_ := Aside0.mk (below_step (by repeat (first | (with_reducible first | exact HB.out | apply below_alloc | apply pw_below_drewN | apply below_drew1 | refine below_set ?_ GE101.out | refine below_set ?_ GE102.out) | exact HB.out)) hb); clear BK101; clear BK102; clear HB; have BK101 := n0_; have BK102 := n1_; have HB := n2_; clear n0_ n1_ n2_; (try clear hb); (try clear hb2); (try clear hk); (try clear hi); clear A4) | ((with_reducible refine gate_callee (f := 43) rfl ?_); refine goesL_ (some 24) rfl rfl Try.func43 (by kernel_rfl) rfl #[.int .u64 t103, .int .u64 a1, .int .u64 a2] rfl (by (try simp only [List.map_toArray, List.map_cons, List.map_nil]); first | done | rfl | (simp only [List.length_drop, List.length_take]; rfl)) ?_; (with_reducible refine (rank_Rank.calls t103 a1 a2 t105 t106 _ A6.out).mono ?_); rintro e w32 ⟨rfl, hb⟩; refine ⟨_, rfl, ?_⟩; have n0_ := Aside0.mk (blk_below (g := gb101) (o := .cells #[.int .i64 a0_0, .int .u64 a0_1, .int .u64 a0_2, .int .u64 a0_3, .int .u64 a0_4, .slice A0_5 l0_5.length c0_5, .slice A0_6 l0_6.length c0_6, .slice A0_7 l0_7.length c0_7, .slice A0_8 l0_8.length c0_8] 37 (0, 0)) (by (with_reducible repeat (first | refine blk_drewN ?_ _ | refine blk_drew ?_ | refine blk_alloc ?_ _)); exact BK101.out) hb); have n1_ := Aside0.mk (blk_below (g := gb102) (o := .cells #[.int .i64 0, .int .i64 0, .int .u64 0] 62 (0, 0)) (by (with_reducible repeat (first | refine blk_drewN ?_ _ | refine blk_drew ?_ | refine blk_alloc ?_ _)); exact BK102.out) hb); have n2_ := Aside0.mk (below_step (by repeat (first | (with_reducible first | exact HB.out | apply below_alloc | apply pw_below_drewN | apply below_drew1 | refine below_set ?_ GE101.out | refine below_set ?_ GE102.out) | exact HB.out)) hb); clear BK101; clear BK102; clear HB; have BK101 := n0_; have BK102 := n1_; have HB := n2_; clear n0_ n1_ n2_; (try clear hb); (try clear hb2); (try clear hk); (try clear hi); clear A6; have hcz33_0 : w32.cell? ⟨gb102, 0, none⟩ = some (.int .i64 0) := (blk_cell BK102.out 0).trans rfl; have hcz33_1 : w32.cell? ⟨gb102, 1, none⟩ = some (.int .i64 0) := (blk_cell BK102.out 1).trans rfl; have hcz33_2 : w32.cell? ⟨gb102, 2, none⟩ = some (.int .u64 0) := (blk_cell BK102.out 2).trans rfl; have hfz33_0 := blk_frozen BK102.out 0; have hfz33_1 := blk_frozen BK102.out 1; have hfz33_2 := blk_frozen BK102.out 2))
   refine bodyPost_ret (results_ct rfl _ _ gb102 62 #[.int .i64 0, .int .i64 0, .int .u64 0] (0, 0) _ rfl (by (with_reducible repeat (first | refine blk_drewN ?_ _ | refine blk_drew ?_ | refine blk_alloc ?_ _)); refine blk_put (cs := #[.int .i64 0, .int .i64 0, .int .u64 0]) ?_ 2 _ rfl; (with_reducible repeat (first | refine blk_drewN ?_ _ | refine blk_drew ?_ | refine blk_alloc ?_ _)); refine blk_put (cs := #[.int .i64 0, .int .i64 0, .int .u64 0]) ?_ 1 _ rfl; (with_reducible repeat (first | refine blk_drewN ?_ _ | refine blk_drew ?_ | refine blk_alloc ?_ _)); refine blk_put (cs := #[.int .i64 0, .int .i64 0, .int .u64 0]) ?_ 0 _ rfl; (with_reducible repeat (first | refine blk_drewN ?_ _ | refine blk_drew ?_ | refine blk_alloc ?_ _)); exact BK102.out) Try.underlying62 rfl (by kernel_rfl)) rfl ?_
   exact ⟨by first | rfl | (simp [errW_none, errW_some] <;> rfl) | (simp [*, errW_none, errW_some] <;> rfl), by repeat (first | (with_reducible first | exact HB.out | apply below_alloc | apply pw_below_drewN | apply below_drew1 | refine below_set ?_ GE101.out | refine below_set ?_ GE102.out) | exact HB.out)⟩
 ·rw [if_neg c5] at H
  have c5b0 : (t104 == 0) = false := beq_eq_false_iff_ne.mpr c5
  have c5b1 : (t104 != 0) = true := bne_iff_ne.mpr c5
  simp only [Option.some.injEq, Prod.mk.injEq] at H
  obtain ⟨rfl, rfl, rfl, rfl⟩ := H
  go_enter Try.func45, Try.ntmps45
  go_wp2_with (first | ((with_reducible refine gate_dst (N := 3) rfl ?_); refine box_event ?hg (N := 3) ?hd (cs := #[.int .i64 a0_0, .int .u64 a0_1, .int .u64 a0_2, .int .u64 a0_3, .int .u64 a0_4, .slice A0_5 l0_5.length c0_5, .slice A0_6 l0_6.length c0_6, .slice A0_7 l0_7.length c0_7, .slice A0_8 l0_8.length c0_8]) (t := 37) ?hr ?_; (case hd => rfl); (case hg => rfl); (case hr => first | (go_simp; done) | (go_simp; rfl)); intro gb101 hg w34 hbox hb; have n0_ := Aside0.mk (below_step (by repeat (first | (with_reducible first | exact HB.out | apply below_alloc | apply pw_below_drewN | apply below_drew1) | exact HB.out)) hb); have n1_ := Aside0.mk (hbox); have n2_ := Aside0.mk ((by rw [hg]; exact (below_size (by repeat (first | (with_reducible first | exact HB.out | apply below_alloc | apply pw_below_drewN | apply below_drew1) | exact HB.out))) : w.heap.size ≤ gb101)); have n3_ := Aside0.mk ((by rw [hg]; exact (below_size (by repeat (first | (with_reducible first | exact HB.out | apply below_alloc | apply pw_below_drewN | apply below_drew1) | exact HB.out))) : w.heap.size ≤ gb101)); clear HB; have HB := n0_; have BK101 := n1_; have GW101 := n2_; have GE101 := n3_; clear n0_ n1_ n2_ n3_; clear hb hbox hg) | ((with_reducible refine gate_dst (N := 6) rfl ?_); refine box_event ?hg (N := 6) ?hd (cs := #[.int .i64 0, .int .i64 0, .int .u64 0]) (t := 62) ?hr ?_; (case hd => rfl); (case hg => rfl); (case hr => first | (go_simp; done) | (go_simp; rfl)); intro gb102 hg w35 hbox hb; have n0_ := Aside0.mk (blk_below (g := gb101) (o := .cells #[.int .i64 a0_0, .int .u64 a0_1, .int .u64 a0_2, .int .u64 a0_3, .int .u64 a0_4, .slice A0_5 l0_5.length c0_5, .slice A0_6 l0_6.length c0_6, .slice A0_7 l0_7.length c0_7, .slice A0_8 l0_8.length c0_8] 37 (0, 0)) (by (with_reducible repeat (first | refine blk_drewN ?_ _ | refine blk_drew ?_ | refine blk_alloc ?_ _)); exact BK101.out) hb); have n1_ := Aside0.mk (below_step (by repeat (first | (with_reducible first | exact HB.out | apply below_alloc | apply pw_below_drewN | apply below_drew1 | refine below_set ?_ GE101.out) | exact HB.out)) hb); have n2_ := Aside0.mk (hbox); have n3_ := Aside0.mk ((by rw [hg]; exact (below_size (by repeat (first | (with_reducible first | exact HB.out | apply below_alloc | apply pw_below_drewN | apply below_drew1 | refine below_set ?_ GE101.out) | exact HB.out))) : w.heap.size ≤ gb102)); have n4_ := Aside0.mk ((by rw [hg]; exact (below_size (by repeat (first | (with_reducible first | exact HB.out | apply below_alloc | apply pw_below_drewN | apply below_drew1 | refine below_set ?_ GE101.out) | exact HB.out))) : w.heap.size ≤ gb102)); have n5_ := Aside0.mk ((by rw [hg]; exact Nat.ne_of_lt (blk_lt (g := gb101) (o := .cells #[.int .i64 a0_0, .int .u64 a0_1, .int .u64 a0_2, .int .u64 a0_3, .int .u64 a0_4, .slice A0_5 l0_5.length c0_5, .slice A0_6 l0_6.length c0_6, .slice A0_7 l0_7.length c0_7, .slice A0_8 l0_8.length c0_8] 37 (0, 0)) (by (with_reducible repeat (first | refine blk_drewN ?_ _ | refine blk_drew ?_ | refine blk_alloc ?_ _)); exact BK101.out)) : gb101 ≠ gb102)); have n6_ := Aside0.mk ((by rw [hg]; exact Nat.ne_of_gt (blk_lt (g := gb101) (o := .cells #[.int .i64 a0_0, .int .u64 a0_1, .int .u64 a0_2, .int .u64 a0_3, .int .u64 a0_4, .slice A0_5 l0_5.length c0_5, .slice A0_6 l0_6.length c0_6, .slice A0_7 l0_7.length c0_7, .slice A0_8 l0_8.length c0_8] 37 (0, 0)) (by (with_reducible repeat (first | refine blk_drewN ?_ _ | refine blk_drew ?_ | refine blk_alloc ?_ _)); exact BK101.out)) : gb102 ≠ gb101)); clear BK101; clear HB; have BK101 := n0_; have HB := n1_; have BK102 := n2_; have GW102 := n3_; have GE102 := n4_; have NB101_102 := n5_; have NB102_101 := n6_; clear n0_ n1_ n2_ n3_ n4_ n5_ n6_; clear hb hbox hg; have hnb36 := NB101_102.out; have hnc36 := NB102_101.out; have hcz37_0 : w35.cell? ⟨gb101, 0, none⟩ = some (.int .i64 a0_0) := (blk_cell BK101.out 0).trans rfl; have hcz37_1 : w35.cell? ⟨gb101, 1, none⟩ = some (.int .u64 a0_1) := (blk_cell BK101.out 1).trans rfl; have hcz37_2 : w35.cell? ⟨gb101, 2, none⟩ = some (.int .u64 a0_2) := (blk_cell BK101.out 2).trans rfl; have hcz37_3 : w35.cell? ⟨gb101, 3, none⟩ = some (.int .u64 a0_3) := (blk_cell BK101.out 3).trans rfl; have hcz37_4 : w35.cell? ⟨gb101, 4, none⟩ = some (.int .u64 a0_4) := (blk_cell BK101.out 4).trans rfl; have hcz37_5 : w35.cell? ⟨gb101, 5, none⟩ = some (.slice A0_5 l0_5.length c0_5) := (blk_cell BK101.out 5).trans rfl; have hcz37_6 : w35.cell? ⟨gb101, 6, none⟩ = some (.slice A0_6 l0_6.length c0_6) := (blk_cell BK101.out 6).trans rfl; have hcz37_7 : w35.cell? ⟨gb101, 7, none⟩ = some (.slice A0_7 l0_7.length c0_7) := (blk_cell BK101.out 7).trans rfl; have hcz37_8 : w35.cell? ⟨gb101, 8, none⟩ = some (.slice A0_8 l0_8.length c0_8) := (blk_cell BK101.out 8).trans rfl; have hfz37_0 := blk_frozen BK101.out 0; have hfz37_1 := blk_frozen BK101.out 1; have hfz37_2 := blk_frozen BK101.out 2; have hfz37_3 := blk_frozen BK101.out 3; have hfz37_4 := blk_frozen BK101.out 4; have hfz37_5 := blk_frozen BK101.out 5; have hfz37_6 := blk_frozen BK101.out 6; have hfz37_7 := blk_frozen BK101.out 7; have hfz37_8 := blk_frozen BK101.out 8) | ((with_reducible refine gate_callee (f := 35) rfl ?_); refine goesL_ (some 13) rfl rfl Try.func35 (by kernel_rfl) rfl #[.agg #[.int .i64 a0_0, .int .u64 a0_1, .int .u64 a0_2, .int .u64 a0_3, .int .u64 a0_4, .slice A0_5 l0_5.length c0_5, .slice A0_6 l0_6.length c0_6, .slice A0_7 l0_7.length c0_7, .slice A0_8 l0_8.length c0_8]] rfl (by (try simp only [List.map_toArray, List.map_cons, List.map_nil]); first | done | rfl | (simp only [List.length_drop, List.length_take]; rfl)) ?_; (with_reducible refine (rank_Total.calls a0_0 a0_1 a0_2 a0_3 a0_4 _ _ l0_5 _ _ l0_6 _ _ l0_7 _ _ l0_8 t103 t104 _ ?side1 ?side2 ?side3 ?side4 ?side5 ?side6 ?side7 ?side8 A4.out).mono ?_); (case side1 => repeat (first | exact (Kd.C_below HR0_5.out HB.out) | (with_reducible refine Kd.C_alloc ?_ _) | (with_reducible refine Kd.C_drewN ?_ _) | (with_reducible refine Kd.C_drew ?_))); (case side2 => exact HC0_5.out); (case side3 => repeat (first | exact (Kd.C_below HR0_6.out HB.out) | (with_reducible refine Kd.C_alloc ?_ _) | (with_reducible refine Kd.C_drewN ?_ _) | (with_reducible refine Kd.C_drew ?_))); (case side4 => exact HC0_6.out); (case side5 => repeat (first | exact (Kd.C_below HR0_7.out HB.out) | (with_reducible refine Kd.C_alloc ?_ _) | (with_reducible refine Kd.C_drewN ?_ _) | (with_reducible refine Kd.C_drew ?_))); (case side6 => exact HC0_7.out); (case side7 => repeat (first | exact (Kd.C_below HR0_8.out HB.out) | (with_reducible refine Kd.C_alloc ?_ _) | (with_reducible refine Kd.C_drewN ?_ _) | (with_reducible refine Kd.C_drew ?_))); (case side8 => exact HC0_8.out); rintro e w38 ⟨rfl, hb⟩; refine ⟨_, rfl, ?_⟩; have n0_ := Aside0.mk (blk_below (g := gb101) (o := .cells #[.int .i64 a0_0, .int .u64 a0_1, .int .u64 a0_2, .int .u64 a0_3, .int .u64 a0_4, .slice A0_5 l0_5.length c0_5, .slice A0_6 l0_6.length c0_6, .slice A0_7 l0_7.length c0_7, .slice A0_8 l0_8.length c0_8] 37 (0, 0)) (by (with_reducible repeat (first | refine blk_drewN ?_ _ | refine blk_drew ?_ | refine blk_alloc ?_ _)); exact BK101.out) hb); have n1_ := Aside0.mk (blk_below (g := gb102) (o := .cells #[.int .i64 0, .int .i64 0, .int .u64 0] 62 (0, 0)) (by (with_reducible repeat (first | refine blk_drewN ?_ _ | refine blk_drew ?_ | refine blk_alloc ?_ _)); exact BK102.out) hb); have n2_ := Aside0.mk (below_step (by repeat (first | (with_reducible first | exact HB.out | apply below_alloc | apply pw_below_drewN | apply below_drew1 | refine below_set ?_ GE101.out | refine below_set ?_ GE102.out) | exact HB.out)) hb); clear BK101; clear BK102; clear HB; have BK101 := n0_; have BK102 := n1_; have HB := n2_; clear n0_ n1_ n2_; (try clear hb); (try clear hb2); (try clear hk); (try clear hi); clear A4; have hcz39_0 : w38.cell? ⟨gb102, 0, none⟩ = some (.int .i64 0) := (blk_cell BK102.out 0).trans rfl; have hcz39_1 : w38.cell? ⟨gb102, 1, none⟩ = some (.int .i64 0) := (blk_cell BK102.out 1).trans rfl; have hcz39_2 : w38.cell? ⟨gb102, 2, none⟩ = some (.int .u64 0) := (blk_cell BK102.out 2).trans rfl; have hfz39_0 := blk_frozen BK102.out 0; have hfz39_1 := blk_frozen BK102.out 1; have hfz39_2 := blk_frozen BK102.out 2))
  refine bodyPost_ret (results_ct rfl _ _ gb102 62 #[.int .i64 0, .int .i64 0, .int .u64 0] (0, 0) _ rfl (by (with_reducible repeat (first | refine blk_drewN ?_ _ | refine blk_drew ?_ | refine blk_alloc ?_ _)); refine blk_put (cs := #[.int .i64 0, .int .i64 0, .int .u64 0]) ?_ 2 _ rfl; (with_reducible repeat (first | refine blk_drewN ?_ _ | refine blk_drew ?_ | refine blk_alloc ?_ _)); refine blk_put (cs := #[.int .i64 0, .int .i64 0, .int .u64 0]) ?_ 1 _ rfl; (with_reducible repeat (first | refine blk_drewN ?_ _ | refine blk_drew ?_ | refine blk_alloc ?_ _)); refine blk_put (cs := #[.int .i64 0, .int .i64 0, .int .u64 0]) ?_ 0 _ rfl; (with_reducible repeat (first | refine blk_drewN ?_ _ | refine blk_drew ?_ | refine blk_alloc ?_ _)); exact BK102.out) Try.underlying62 rfl (by kernel_rfl)) rfl ?_
  exact ⟨by first | rfl | (simp [errW_none, errW_some] <;> rfl) | (simp [*, errW_none, errW_some] <;> rfl), by repeat (first | (with_reducible first | exact HB.out | apply below_alloc | apply pw_below_drewN | apply below_drew1 | refine below_set ?_ GE101.out | refine below_set ?_ GE102.out) | exact HB.out)⟩
end Go.Proofs.Ytcabapilejagkaa.P
namespace Go.Proofs.Ytcabapilejagkaa.P
open Go.RowKit Go.Proofs.YtcabapilejagkaaW.PrintWords Go.Proofs.YtcabapilejagkaaW.PrintLast Go.Proofs.YtcabapilejagkaaW.PrintMore
attribute [local go_sem] max2_int min2_int max_two min_two max_three min_three max_four min_four
set_option linter.unusedVariables false
set_option linter.unusedSimpArgs false
def tidepolelaw29_one.f  : Option (Int × Int × Int × Int × Int × (List (S108)) × (List (S108)) × List Int × List Int) := some (0, 0, 1, 6, 0, (([(⟨7, 1⟩ : S108)] : List (S108))), (([(⟨5, 1⟩ : S108)] : List (S108))), (([3] : List Int)), (([2] : List Int)))
set_option maxHeartbeats 8000000 in
set_option maxRecDepth 100000 in
theorem tidepolelaw29_one.calls  (r1 : Int) (r2 : Int) (r3 : Int) (r4 : Int) (r5 : Int) (r6 : List (S108)) (r7 : List (S108)) (r8 : List Int) (r9 : List Int) (w : World) (h : tidepolelaw29_one.f  = some (r1, r2, r3, r4, r5, r6, r7, r8, r9)) :
  Calls Try.prog 98 #[] w fun e w' => ∃ v5_ v6_ v7_ v8_ : Value, e = .returned (.agg #[.int .i64 r1, .int .u64 r2, .int .u64 r3, .int .u64 r4, .int .u64 r5, v5_, v6_, v7_, v8_]) ∧ Kd.R k108 108 w' w.heap.size (fun k_ => some k_ ≠ (v6_ : Value).ownBlock) v5_ r6 ∧ Kd.R k108 108 w' w.heap.size (fun k_ => some k_ ≠ (v5_ : Value).ownBlock) v6_ r7 ∧ Kd.R (Kd.int .i64) 2 w' w.heap.size (fun k_ => some k_ ≠ (v8_ : Value).ownBlock) v7_ r8 ∧ Kd.R (Kd.int .i64) 2 w' w.heap.size (fun k_ => some k_ ≠ (v7_ : Value).ownBlock) v8_ r9 ∧ Below w.heap.size w w' := by
 have hu37 := Try.underlying37
 have hu108 := Try.underlying108
 have HB := Aside0.mk (Below.refl w.heap.size w)
 have H : (some (0, 0, 1, 6, 0, (([(⟨7, 1⟩ : S108)] : List (S108))), (([(⟨5, 1⟩ : S108)] : List (S108))), (([3] : List Int)), (([2] : List Int)))) = some (r1, r2, r3, r4, r5, r6, r7, r8, r9) := h
 clear h
 obtain ⟨y102, hy102⟩ : ∃ y_ : List (S108), y_ = (([(⟨7, 1⟩ : S108)] : List (S108))) := ⟨_, rfl⟩
 replace H : (some (0, 0, 1, 6, 0, y102, (([(⟨5, 1⟩ : S108)] : List (S108))), (([3] : List Int)), (([2] : List Int)))) = some (r1, r2, r3, r4, r5, r6, r7, r8, r9) := by first | (rw [hy102]; with_reducible exact H) | (have H2_ := (Option.bind_some _ _).symm.trans H; rw [hy102]; with_reducible exact H2_) | (have H2_ := (Option.bind_some _ _).symm.trans H; with_reducible exact H2_) | with_reducible exact H | (rw [hy102]; exact H) | exact H
 have Ny102 := Aside0.mk hy102
 clear hy102
 obtain ⟨y105, hy105⟩ : ∃ y_ : List Int, y_ = (([3] : List Int)) := ⟨_, rfl⟩
 replace H : (some (0, 0, 1, 6, 0, y102, (([(⟨5, 1⟩ : S108)] : List (S108))), y105, (([2] : List Int)))) = some (r1, r2, r3, r4, r5, r6, r7, r8, r9) := by first | (rw [hy105]; with_reducible exact H) | (have H2_ := (Option.bind_some _ _).symm.trans H; rw [hy105]; with_reducible exact H2_) | (have H2_ := (Option.bind_some _ _).symm.trans H; with_reducible exact H2_) | with_reducible exact H | (rw [hy105]; exact H) | exact H
 have Ny105 := Aside0.mk hy105
 clear hy105
 obtain ⟨y108, hy108⟩ : ∃ y_ : List (S108), y_ = (([(⟨5, 1⟩ : S108)] : List (S108))) := ⟨_, rfl⟩
 replace H : (some (0, 0, 1, 6, 0, y102, y108, y105, (([2] : List Int)))) = some (r1, r2, r3, r4, r5, r6, r7, r8, r9) := by first | (rw [hy108]; with_reducible exact H) | (have H2_ := (Option.bind_some _ _).symm.trans H; rw [hy108]; with_reducible exact H2_) | (have H2_ := (Option.bind_some _ _).symm.trans H; with_reducible exact H2_) | with_reducible exact H | (rw [hy108]; exact H) | exact H
 have Ny108 := Aside0.mk hy108
 clear hy108
 obtain ⟨y111, hy111⟩ : ∃ y_ : List Int, y_ = (([2] : List Int)) := ⟨_, rfl⟩
 replace H : (some (0, 0, 1, 6, 0, y102, y108, y105, y111)) = some (r1, r2, r3, r4, r5, r6, r7, r8, r9) := by first | (rw [hy111]; with_reducible exact H) | (have H2_ := (Option.bind_some _ _).symm.trans H; rw [hy111]; with_reducible exact H2_) | (have H2_ := (Option.bind_some _ _).symm.trans H; with_reducible exact H2_) | with_reducible exact H | (rw [hy111]; exact H) | exact H
 have Ny111 := Aside0.mk hy111
 clear hy111
 simp only [Option.some.injEq, Prod.mk.injEq] at H
 obtain ⟨rfl, rfl, rfl, rfl, rfl, rfl, rfl, rfl, rfl⟩ := H
 go_enter Try.func98, Try.ntmps98
 go_wp2_with (first | ((with_reducible refine gate_dst (N := 0) rfl ?_); refine box_event ?hg (N := 0) ?hd (cs := #[.int .i64 0, .int .u64 0, .int .u64 0, .int .u64 0, .int .u64 0, .slice none 0 0, .slice none 0 0, .slice none 0 0, .slice none 0 0]) (t := 37) ?hr ?_; (case hd => rfl); (case hg => rfl); (case hr => first | (go_simp; done) | (go_simp; rfl)); intro gb101 hg w1 hbox hb; have n0_ := Aside0.mk (below_step (by repeat (first | (with_reducible first | exact HB.out | apply below_alloc | apply pw_below_drewN | apply below_drew1) | exact HB.out)) hb); have n1_ := Aside0.mk (hbox); have n2_ := Aside0.mk ((by rw [hg]; exact (below_size (by repeat (first | (with_reducible first | exact HB.out | apply below_alloc | apply pw_below_drewN | apply below_drew1) | exact HB.out))) : w.heap.size ≤ gb101)); have n3_ := Aside0.mk ((by rw [hg]; exact (below_size (by repeat (first | (with_reducible first | exact HB.out | apply below_alloc | apply pw_below_drewN | apply below_drew1) | exact HB.out))) : w.heap.size ≤ gb101)); clear HB; have HB := n0_; have BK101 := n1_; have GW101 := n2_; have GE101 := n3_; clear n0_ n1_ n2_ n3_; clear hb hbox hg) | ((with_reducible refine gate_dst (N := 2) rfl ?_); refine Kd.R_lit k108 _ 108 ?hg (N := 2) ?hd (xs := ([(⟨7, 1⟩ : S108)] : List (S108))) (inner := [.int .i64 7, .int .i64 1]) (ok := fun _ => True) (okp := fun _ => True) ?hr ?hp (fun _ hk => hk) trivial (Below.refl _ _) (Nat.le_refl _) (by simp) ?_; (case hd => rfl); (case hg => rfl); (case hr => first | (go_simp; done) | (go_simp; rfl)); (case hp => exact (Reps.c2 (show Kd.M k108 _ _ _ (⟨7, 1⟩ : S108) [.int .i64 7, .int .i64 1] from (k108_mkM _ _ _ (⟨7, 1⟩ : S108) )) (Reps.none _ _))); intro v103 w2 ho3 hb hg_ hnew_; clear hg_ hnew_; (first | rw [← Ny102.out] at ho3 | (simp only [Int.reduceToNat] at ho3; rw [← Ny102.out] at ho3)); have n0_ := Aside0.mk (Kd.R_lower ho3 (below_size (by repeat (first | (with_reducible first | exact HB.out | apply below_alloc | apply pw_below_drewN | apply below_drew1 | refine below_set ?_ GE101.out) | exact HB.out)))); have n1_ := Aside0.mk (blk_below (g := gb101) (o := .cells #[.int .i64 0, .int .u64 0, .int .u64 0, .int .u64 0, .int .u64 0, .slice none 0 0, .slice none 0 0, .slice none 0 0, .slice none 0 0] 37 (0, 0)) (by (with_reducible repeat (first | refine blk_drewN ?_ _ | refine blk_drew ?_ | refine blk_alloc ?_ _)); exact BK101.out) hb); have n2_ := Aside0.mk (below_step (by repeat (first | (with_reducible first | exact HB.out | apply below_alloc | apply pw_below_drewN | apply below_drew1 | refine below_set ?_ GE101.out) | exact HB.out)) hb); clear BK101; clear HB; have HO104 := n0_; have BK101 := n1_; have HB := n2_; clear n0_ n1_ n2_; clear hb ho3) | ((with_reducible refine gate_dst (N := 3) rfl ?_); refine Kd.R_lit (Kd.int .i64) _ 2 ?hg (N := 3) ?hd (xs := ([3] : List Int)) (inner := [.int .i64 3]) (ok := fun _ => True) (okp := fun _ => True) ?hr ?hp (fun _ hk => hk) trivial (Below.refl _ _) (Nat.le_refl _) (by simp) ?_; (case hd => rfl); (case hg => rfl); (case hr => first | (go_simp; done) | (go_simp; rfl)); (case hp => exact (Reps.one (show Kd.M (Kd.int .i64) _ _ _ 3 [.int .i64 3] from rfl) (Reps.none _ _))); intro v106 w4 ho5 hb hg_ hnew_; clear hg_ hnew_; (first | rw [← Ny105.out] at ho5 | (simp only [Int.reduceToNat] at ho5; rw [← Ny105.out] at ho5)); have n0_ := Aside0.mk (Kd.R_below (by (with_reducible repeat (first | apply Kd.R_alloc | apply Kd.R_drewN | apply Kd.R_drew)); exact HO104.out) hb); have n1_ := Aside0.mk (Kd.R_lower ho5 (below_size (by repeat (first | (with_reducible first | exact HB.out | apply below_alloc | apply pw_below_drewN | apply below_drew1 | refine below_set ?_ GE101.out) | exact HB.out)))); have n2_ := Aside0.mk (blk_below (g := gb101) (o := .cells #[.int .i64 0, .int .u64 0, .int .u64 0, .int .u64 0, .int .u64 0, .slice none 0 0, .slice none 0 0, .slice none 0 0, .slice none 0 0] 37 (0, 0)) (by (with_reducible repeat (first | refine blk_drewN ?_ _ | refine blk_drew ?_ | refine blk_alloc ?_ _)); exact BK101.out) hb); have n3_ := Aside0.mk (below_step (by repeat (first | (with_reducible first | exact HB.out | apply below_alloc | apply pw_below_drewN | apply below_drew1 | refine below_set ?_ GE101.out) | exact HB.out)) hb); clear HO104; clear BK101; clear HB; have HO104 := n0_; have HO107 := n1_; have BK101 := n2_; have HB := n3_; clear n0_ n1_ n2_ n3_; clear hb ho5) | ((with_reducible refine gate_dst (N := 5) rfl ?_); refine Kd.R_lit k108 _ 108 ?hg (N := 5) ?hd (xs := ([(⟨5, 1⟩ : S108)] : List (S108))) (inner := [.int .i64 5, .int .i64 1]) (ok := fun _ => True) (okp := fun _ => True) ?hr ?hp (fun _ hk => hk) trivial (Below.refl _ _) (Nat.le_refl _) (by simp) ?_; (case hd => rfl); (case hg => rfl); (case hr => first | (go_simp; done) | (go_simp; rfl)); (case hp => exact (Reps.c2 (show Kd.M k108 _ _ _ (⟨5, 1⟩ : S108) [.int .i64 5, .int .i64 1] from (k108_mkM _ _ _ (⟨5, 1⟩ : S108) )) (Reps.none _ _))); intro v109 w6 ho7 hb hg_ hnew_; clear hg_ hnew_; (first | rw [← Ny108.out] at ho7 | (simp only [Int.reduceToNat] at ho7; rw [← Ny108.out] at ho7)); have n0_ := Aside0.mk (Kd.R_elder' (by (with_reducible repeat (first | apply Kd.R_alloc | apply Kd.R_drewN | apply Kd.R_drew)); exact HO104.out) (Kd.R_base ho7) hb); have n1_ := Aside0.mk (Kd.R_below (by (with_reducible repeat (first | apply Kd.R_alloc | apply Kd.R_drewN | apply Kd.R_drew)); exact HO107.out) hb); have n2_ := Aside0.mk (Kd.R_lower (Kd.R_new' ho7 (Kd.R_lt (by (with_reducible repeat (first | apply Kd.R_alloc | apply Kd.R_drewN | apply Kd.R_drew)); exact HO104.out))) (below_size (by repeat (first | (with_reducible first | exact HB.out | apply below_alloc | apply pw_below_drewN | apply below_drew1 | refine below_set ?_ GE101.out) | exact HB.out)))); have n3_ := Aside0.mk (blk_below (g := gb101) (o := .cells #[.int .i64 0, .int .u64 0, .int .u64 0, .int .u64 0, .int .u64 0, .slice none 0 0, .slice none 0 0, .slice none 0 0, .slice none 0 0] 37 (0, 0)) (by (with_reducible repeat (first | refine blk_drewN ?_ _ | refine blk_drew ?_ | refine blk_alloc ?_ _)); exact BK101.out) hb); have n4_ := Aside0.mk (below_step (by repeat (first | (with_reducible first | exact HB.out | apply below_alloc | apply pw_below_drewN | apply below_drew1 | refine below_set ?_ GE101.out) | exact HB.out)) hb); clear HO104; clear HO107; clear BK101; clear HB; have HO104 := n0_; have HO107 := n1_; have HO110 := n2_; have BK101 := n3_; have HB := n4_; clear n0_ n1_ n2_ n3_ n4_; clear hb ho7) | ((with_reducible refine gate_dst (N := 6) rfl ?_); refine Kd.R_lit (Kd.int .i64) _ 2 ?hg (N := 6) ?hd (xs := ([2] : List Int)) (inner := [.int .i64 2]) (ok := fun _ => True) (okp := fun _ => True) ?hr ?hp (fun _ hk => hk) trivial (Below.refl _ _) (Nat.le_refl _) (by simp) ?_; (case hd => rfl); (case hg => rfl); (case hr => first | (go_simp; done) | (go_simp; rfl)); (case hp => exact (Reps.one (show Kd.M (Kd.int .i64) _ _ _ 2 [.int .i64 2] from rfl) (Reps.none _ _))); intro v112 w8 ho9 hb hg_ hnew_; clear hg_ hnew_; (first | rw [← Ny111.out] at ho9 | (simp only [Int.reduceToNat] at ho9; rw [← Ny111.out] at ho9)); have n0_ := Aside0.mk (Kd.R_below (by (with_reducible repeat (first | apply Kd.R_alloc | apply Kd.R_drewN | apply Kd.R_drew)); exact HO104.out) hb); have n1_ := Aside0.mk (Kd.R_elder' (by (with_reducible repeat (first | apply Kd.R_alloc | apply Kd.R_drewN | apply Kd.R_drew)); exact HO107.out) (Kd.R_base ho9) hb); have n2_ := Aside0.mk (Kd.R_below (by (with_reducible repeat (first | apply Kd.R_alloc | apply Kd.R_drewN | apply Kd.R_drew)); exact HO110.out) hb); have n3_ := Aside0.mk (Kd.R_lower (Kd.R_new' ho9 (Kd.R_lt (by (with_reducible repeat (first | apply Kd.R_alloc | apply Kd.R_drewN | apply Kd.R_drew)); exact HO107.out))) (below_size (by repeat (first | (with_reducible first | exact HB.out | apply below_alloc | apply pw_below_drewN | apply below_drew1 | refine below_set ?_ GE101.out) | exact HB.out)))); have n4_ := Aside0.mk (blk_below (g := gb101) (o := .cells #[.int .i64 0, .int .u64 0, .int .u64 0, .int .u64 0, .int .u64 0, .slice none 0 0, .slice none 0 0, .slice none 0 0, .slice none 0 0] 37 (0, 0)) (by (with_reducible repeat (first | refine blk_drewN ?_ _ | refine blk_drew ?_ | refine blk_alloc ?_ _)); exact BK101.out) hb); have n5_ := Aside0.mk (below_step (by repeat (first | (with_reducible first | exact HB.out | apply below_alloc | apply pw_below_drewN | apply below_drew1 | refine below_set ?_ GE101.out) | exact HB.out)) hb); clear HO104; clear HO107; clear HO110; clear BK101; clear HB; have HO104 := n0_; have HO107 := n1_; have HO110 := n2_; have HO113 := n3_; have BK101 := n4_; have HB := n5_; clear n0_ n1_ n2_ n3_ n4_ n5_; clear hb ho9; obtain ⟨Ao10, co10, eo10⟩ := Kd.R_slice HO113.out; subst eo10; obtain ⟨Ao11, co11, eo11⟩ := Kd.R_slice HO107.out; subst eo11; obtain ⟨Ao12, co12, eo12⟩ := Kd.R_slice HO110.out; subst eo12; obtain ⟨Ao13, co13, eo13⟩ := Kd.R_slice HO104.out; subst eo13; have hcz14_0 : w8.cell? ⟨gb101, 0, none⟩ = some (.int .i64 0) := (blk_cell BK101.out 0).trans rfl; have hcz14_1 : w8.cell? ⟨gb101, 1, none⟩ = some (.int .u64 0) := (blk_cell BK101.out 1).trans rfl; have hcz14_2 : w8.cell? ⟨gb101, 2, none⟩ = some (.int .u64 0) := (blk_cell BK101.out 2).trans rfl; have hcz14_3 : w8.cell? ⟨gb101, 3, none⟩ = some (.int .u64 0) := (blk_cell BK101.out 3).trans rfl; have hcz14_4 : w8.cell? ⟨gb101, 4, none⟩ = some (.int .u64 0) := (blk_cell BK101.out 4).trans rfl; have hcz14_5 : w8.cell? ⟨gb101, 5, none⟩ = some (.slice none 0 0) := (blk_cell BK101.out 5).trans rfl; have hcz14_6 : w8.cell? ⟨gb101, 6, none⟩ = some (.slice none 0 0) := (blk_cell BK101.out 6).trans rfl; have hcz14_7 : w8.cell? ⟨gb101, 7, none⟩ = some (.slice none 0 0) := (blk_cell BK101.out 7).trans rfl; have hcz14_8 : w8.cell? ⟨gb101, 8, none⟩ = some (.slice none 0 0) := (blk_cell BK101.out 8).trans rfl; have hfz14_0 := blk_frozen BK101.out 0; have hfz14_1 := blk_frozen BK101.out 1; have hfz14_2 := blk_frozen BK101.out 2; have hfz14_3 := blk_frozen BK101.out 3; have hfz14_4 := blk_frozen BK101.out 4; have hfz14_5 := blk_frozen BK101.out 5; have hfz14_6 := blk_frozen BK101.out 6; have hfz14_7 := blk_frozen BK101.out 7; have hfz14_8 := blk_frozen BK101.out 8))
 refine bodyPost_ret (results_cell_row rfl _ _ gb101 37 #[.int .i64 0, .int .u64 0, .int .u64 1, .int .u64 6, .int .u64 0, .slice Ao13 y102.length co13, .slice Ao12 y108.length co12, .slice Ao11 y105.length co11, .slice Ao10 y111.length co10] (0, 0) _ rfl (by (with_reducible repeat (first | refine blk_drewN ?_ _ | refine blk_drew ?_ | refine blk_alloc ?_ _)); refine blk_put (cs := #[.int .i64 0, .int .u64 0, .int .u64 1, .int .u64 6, .int .u64 0, .slice Ao13 y102.length co13, .slice Ao12 y108.length co12, .slice Ao11 y105.length co11, .slice none 0 0]) ?_ 8 _ rfl; (with_reducible repeat (first | refine blk_drewN ?_ _ | refine blk_drew ?_ | refine blk_alloc ?_ _)); refine blk_put (cs := #[.int .i64 0, .int .u64 0, .int .u64 1, .int .u64 6, .int .u64 0, .slice Ao13 y102.length co13, .slice Ao12 y108.length co12, .slice none 0 0, .slice none 0 0]) ?_ 7 _ rfl; (with_reducible repeat (first | refine blk_drewN ?_ _ | refine blk_drew ?_ | refine blk_alloc ?_ _)); refine blk_put (cs := #[.int .i64 0, .int .u64 0, .int .u64 1, .int .u64 6, .int .u64 0, .slice Ao13 y102.length co13, .slice none 0 0, .slice none 0 0, .slice none 0 0]) ?_ 6 _ rfl; (with_reducible repeat (first | refine blk_drewN ?_ _ | refine blk_drew ?_ | refine blk_alloc ?_ _)); refine blk_put (cs := #[.int .i64 0, .int .u64 0, .int .u64 1, .int .u64 6, .int .u64 0, .slice none 0 0, .slice none 0 0, .slice none 0 0, .slice none 0 0]) ?_ 5 _ rfl; (with_reducible repeat (first | refine blk_drewN ?_ _ | refine blk_drew ?_ | refine blk_alloc ?_ _)); refine blk_put (cs := #[.int .i64 0, .int .u64 0, .int .u64 1, .int .u64 6, .int .u64 0, .slice none 0 0, .slice none 0 0, .slice none 0 0, .slice none 0 0]) ?_ 4 _ rfl; (with_reducible repeat (first | refine blk_drewN ?_ _ | refine blk_drew ?_ | refine blk_alloc ?_ _)); refine blk_put (cs := #[.int .i64 0, .int .u64 0, .int .u64 1, .int .u64 0, .int .u64 0, .slice none 0 0, .slice none 0 0, .slice none 0 0, .slice none 0 0]) ?_ 3 _ rfl; (with_reducible repeat (first | refine blk_drewN ?_ _ | refine blk_drew ?_ | refine blk_alloc ?_ _)); refine blk_put (cs := #[.int .i64 0, .int .u64 0, .int .u64 0, .int .u64 0, .int .u64 0, .slice none 0 0, .slice none 0 0, .slice none 0 0, .slice none 0 0]) ?_ 2 _ rfl; (with_reducible repeat (first | refine blk_drewN ?_ _ | refine blk_drew ?_ | refine blk_alloc ?_ _)); refine blk_put (cs := #[.int .i64 0, .int .u64 0, .int .u64 0, .int .u64 0, .int .u64 0, .slice none 0 0, .slice none 0 0, .slice none 0 0, .slice none 0 0]) ?_ 1 _ rfl; (with_reducible repeat (first | refine blk_drewN ?_ _ | refine blk_drew ?_ | refine blk_alloc ?_ _)); refine blk_put (cs := #[.int .i64 0, .int .u64 0, .int .u64 0, .int .u64 0, .int .u64 0, .slice none 0 0, .slice none 0 0, .slice none 0 0, .slice none 0 0]) ?_ 0 _ rfl; (with_reducible repeat (first | refine blk_drewN ?_ _ | refine blk_drew ?_ | refine blk_alloc ?_ _)); exact BK101.out) Try.underlying37 rfl (by kernel_rfl)) rfl ?_
 exact ⟨_, _, _, _, by first | rfl | (simp [errW_none, errW_some] <;> rfl) | (simp [*, errW_none, errW_some] <;> rfl), by (with_reducible repeat (first | apply Kd.R_alloc | apply Kd.R_drewN | apply Kd.R_drew)); exact Kd.R_mono (Kd.R_far (p := ⟨gb101, 8, none⟩) (Kd.R_far (p := ⟨gb101, 7, none⟩) (Kd.R_far (p := ⟨gb101, 6, none⟩) (Kd.R_far (p := ⟨gb101, 5, none⟩) (Kd.R_far (p := ⟨gb101, 4, none⟩) (Kd.R_far (p := ⟨gb101, 3, none⟩) (Kd.R_far (p := ⟨gb101, 2, none⟩) (Kd.R_far (p := ⟨gb101, 1, none⟩) (Kd.R_far (p := ⟨gb101, 0, none⟩) (Kd.R_types HO104.out BK101.out (by decide)) (fun _ hk => hk.2) (.int .i64 0)) (fun _ hk => hk.2) (.int .u64 0)) (fun _ hk => hk.2) (.int .u64 1)) (fun _ hk => hk.2) (.int .u64 6)) (fun _ hk => hk.2) (.int .u64 0)) (fun _ hk => hk.2) (.slice Ao13 y102.length co13)) (fun _ hk => hk.2) (.slice Ao12 y108.length co12)) (fun _ hk => hk.2) (.slice Ao11 y105.length co11)) (fun _ hk => hk.2) (.slice Ao10 y111.length co10)) (fun _ hk => hk.1.2), by (with_reducible repeat (first | apply Kd.R_alloc | apply Kd.R_drewN | apply Kd.R_drew)); exact Kd.R_mono (Kd.R_far (p := ⟨gb101, 8, none⟩) (Kd.R_far (p := ⟨gb101, 7, none⟩) (Kd.R_far (p := ⟨gb101, 6, none⟩) (Kd.R_far (p := ⟨gb101, 5, none⟩) (Kd.R_far (p := ⟨gb101, 4, none⟩) (Kd.R_far (p := ⟨gb101, 3, none⟩) (Kd.R_far (p := ⟨gb101, 2, none⟩) (Kd.R_far (p := ⟨gb101, 1, none⟩) (Kd.R_far (p := ⟨gb101, 0, none⟩) (Kd.R_types HO110.out BK101.out (by decide)) (fun _ hk => hk.2) (.int .i64 0)) (fun _ hk => hk.2) (.int .u64 0)) (fun _ hk => hk.2) (.int .u64 1)) (fun _ hk => hk.2) (.int .u64 6)) (fun _ hk => hk.2) (.int .u64 0)) (fun _ hk => hk.2) (.slice Ao13 y102.length co13)) (fun _ hk => hk.2) (.slice Ao12 y108.length co12)) (fun _ hk => hk.2) (.slice Ao11 y105.length co11)) (fun _ hk => hk.2) (.slice Ao10 y111.length co10)) (fun _ hk => hk.1.2), by (with_reducible repeat (first | apply Kd.R_alloc | apply Kd.R_drewN | apply Kd.R_drew)); exact Kd.R_mono (Kd.R_far (p := ⟨gb101, 8, none⟩) (Kd.R_far (p := ⟨gb101, 7, none⟩) (Kd.R_far (p := ⟨gb101, 6, none⟩) (Kd.R_far (p := ⟨gb101, 5, none⟩) (Kd.R_far (p := ⟨gb101, 4, none⟩) (Kd.R_far (p := ⟨gb101, 3, none⟩) (Kd.R_far (p := ⟨gb101, 2, none⟩) (Kd.R_far (p := ⟨gb101, 1, none⟩) (Kd.R_far (p := ⟨gb101, 0, none⟩) (Kd.R_types HO107.out BK101.out (by decide)) (fun _ hk => hk.2) (.int .i64 0)) (fun _ hk => hk.2) (.int .u64 0)) (fun _ hk => hk.2) (.int .u64 1)) (fun _ hk => hk.2) (.int .u64 6)) (fun _ hk => hk.2) (.int .u64 0)) (fun _ hk => hk.2) (.slice Ao13 y102.length co13)) (fun _ hk => hk.2) (.slice Ao12 y108.length co12)) (fun _ hk => hk.2) (.slice Ao11 y105.length co11)) (fun _ hk => hk.2) (.slice Ao10 y111.length co10)) (fun _ hk => hk.1.2), by (with_reducible repeat (first | apply Kd.R_alloc | apply Kd.R_drewN | apply Kd.R_drew)); exact Kd.R_mono (Kd.R_far (p := ⟨gb101, 8, none⟩) (Kd.R_far (p := ⟨gb101, 7, none⟩) (Kd.R_far (p := ⟨gb101, 6, none⟩) (Kd.R_far (p := ⟨gb101, 5, none⟩) (Kd.R_far (p := ⟨gb101, 4, none⟩) (Kd.R_far (p := ⟨gb101, 3, none⟩) (Kd.R_far (p := ⟨gb101, 2, none⟩) (Kd.R_far (p := ⟨gb101, 1, none⟩) (Kd.R_far (p := ⟨gb101, 0, none⟩) (Kd.R_types HO113.out BK101.out (by decide)) (fun _ hk => hk.2) (.int .i64 0)) (fun _ hk => hk.2) (.int .u64 0)) (fun _ hk => hk.2) (.int .u64 1)) (fun _ hk => hk.2) (.int .u64 6)) (fun _ hk => hk.2) (.int .u64 0)) (fun _ hk => hk.2) (.slice Ao13 y102.length co13)) (fun _ hk => hk.2) (.slice Ao12 y108.length co12)) (fun _ hk => hk.2) (.slice Ao11 y105.length co11)) (fun _ hk => hk.2) (.slice Ao10 y111.length co10)) (fun _ hk => hk.1.2), by repeat (first | (with_reducible first | exact HB.out | apply below_alloc | apply pw_below_drewN | apply below_drew1 | refine below_set ?_ GE101.out) | exact HB.out)⟩
end Go.Proofs.Ytcabapilejagkaa.P
namespace Go.Proofs.Ytcabapilejagkaa.P
open Go.RowKit Go.Shelf Go.Proofs.YtcabapilejagkaaW.PrintWords Go.Proofs.YtcabapilejagkaaW.PrintLast Go.Proofs.YtcabapilejagkaaW.PrintMore
set_option linter.unusedVariables false
set_option linter.unusedSimpArgs false
def oneR : Hi := ⟨0, 0, 1, 6, 0, [⟨7, 1⟩], [⟨5, 1⟩], [3], [2]⟩
theorem oneR_wf : wfH oneR := by unfold wfH; decide
theorem aw29_1 : totalR oneR = (6, 0) := by kernel_rfl
theorem aw29_2 : atR oneR 2 = (⟨1, 5, 2⟩, 0) := by kernel_rfl
theorem aw29_3 : atR oneR 7 = (⟨0, 0, 0⟩, 11) := by kernel_rfl
theorem aw29_4 : belowR oneR 0 6 = (3, 0) := by kernel_rfl
theorem one29_x (w : World) : Calls Try.prog 98 #[] w fun e w' => ∃ oA5 oc5 oA6 oc6 oA7 oc7 oA8 oc8, e = .returned (.agg #[.int .i64 0, .int .u64 0, .int .u64 1, .int .u64 6, .int .u64 0, .slice oA5 1 oc5, .slice oA6 1 oc6, .slice oA7 1 oc7, .slice oA8 1 oc8]) ∧ HI w' (.agg #[.int .i64 0, .int .u64 0, .int .u64 1, .int .u64 6, .int .u64 0, .slice oA5 1 oc5, .slice oA6 1 oc6, .slice oA7 1 oc7, .slice oA8 1 oc8]) oneR ∧ Below w.heap.size w w' := by
  refine (tidepolelaw29_one.calls 0 0 1 6 0 [⟨7, 1⟩] [⟨5, 1⟩] [3] [2] w (by kernel_rfl)).mono ?_
  rintro e w1 ⟨v5, v6, v7, v8, rfl, h5, h6, h7, h8, hb⟩
  have hi : HI w1 (.agg #[.int .i64 0, .int .u64 0, .int .u64 1, .int .u64 6, .int .u64 0, v5, v6, v7, v8]) oneR := ⟨v5, v6, v7, v8, rfl, .of_R h5, .of_R h6, .of_R h7, .of_R h8⟩
  obtain ⟨a5, c5, a6, c6, a7, c7, a8, c8, e, -⟩ := hi.open_
  rw [e] at hi ⊢
  exact ⟨a5, c5, a6, c6, a7, c7, a8, c8, rfl, hi, hb⟩
theorem total_x (w : World) (v : Value) (hv : HI w v oneR) : Calls Try.prog 35 #[v] w fun e w' => e = .returned (.tuple #[.int .u64 6, .int .i64 0]) ∧ Below w.heap.size w w' := by
  have := total_c oneR oneR_wf w v hv
  rwa [aw29_1] at this
theorem at_x (w : World) (v : Value) (hv : HI w v oneR) : Calls Try.prog 36 #[v, .int .u64 2] w fun e w' => e = .returned (.tuple #[.agg #[.int .i64 1, .int .i64 5, .int .u64 2], .int .i64 0]) ∧ Below w.heap.size w w' := by
  have := at_c oneR oneR_wf 2 (by decide) w v hv
  rwa [aw29_2] at this
theorem at_x7 (w : World) (v : Value) (hv : HI w v oneR) : Calls Try.prog 36 #[v, .int .u64 7] w fun e w' => e = .returned (.tuple #[.agg #[.int .i64 0, .int .i64 0, .int .u64 0], .int .i64 11]) ∧ Below w.heap.size w w' := by
  have := at_c oneR oneR_wf 7 (by decide) w v hv
  rwa [aw29_3] at this
theorem below_x (w : World) (v : Value) (hv : HI w v oneR) : Calls Try.prog 41 #[v, .int .i64 0, .int .i64 6] w fun e w' => e = .returned (.tuple #[.int .u64 3, .int .i64 0]) ∧ Below w.heap.size w w' := by
  have := below_c oneR oneR_wf 0 6 w v hv
  rwa [aw29_4] at this
theorem rank_x (w : World) : Calls Try.prog 43 #[.int .u64 6, .int .u64 1, .int .u64 2] w fun e w' => e = .returned (.tuple #[.int .u64 3, .int .i64 0]) ∧ Below w.heap.size w w' :=
  rank_Rank.calls 6 1 2 3 0 w (by kernel_rfl)
theorem quant_x (w : World) (v : Value) (hv : HI w v oneR) : Calls Try.prog 45 #[v, .int .u64 1, .int .u64 2] w fun e w' => e = .returned (.tuple #[.agg #[.int .i64 2, .int .i64 0, .int .u64 1], .int .i64 0]) ∧ Below w.heap.size w w' := by
  obtain ⟨A5, c5, A6, c6, A7, c7, A8, c8, rfl, ⟨_, _, e5, h51, h52⟩, ⟨_, _, e6, h61, h62⟩, ⟨_, _, e7, h71, h72⟩, ⟨_, _, e8, h81, h82⟩⟩ := hv.open_
  cases e5; cases e6; cases e7; cases e8
  exact rank_Quantile.calls 0 0 1 6 0 A5 c5 _ A6 c6 _ A7 c7 _ A8 c8 _ 1 2 2 0 1 0 w h52 h51 h62 h61 h72 h71 h82 h81 (by kernel_rfl)
theorem quant_x0 (w : World) : Calls Try.prog 45 #[.agg #[.int .i64 0, .int .u64 0, .int .u64 0, .int .u64 0, .int .u64 0, .slice none 0 0, .slice none 0 0, .slice none 0 0, .slice none 0 0], .int .u64 1, .int .u64 2] w fun e w' => e = .returned (.tuple #[.agg #[.int .i64 0, .int .i64 0, .int .u64 0], .int .i64 14]) ∧ Below w.heap.size w w' :=
  rank_Quantile.calls 0 0 0 0 0 none 0 [] none 0 [] none 0 [] none 0 [] 1 2 0 0 0 14 w (Kd.C_nil _ _) (Nat.le_refl _) (Kd.C_nil _ _) (Nat.le_refl _) (Kd.C_nil _ _) (Nat.le_refl _) (Kd.C_nil _ _) (Nat.le_refl _) (by kernel_rfl)
set_option maxHeartbeats 16000000 in
set_option maxRecDepth 100000 in
theorem awake29_c (w : World) : Calls Try.prog 34 #[] w fun e w' => e = .returned (.bool true) ∧ Below w.heap.size w w' := by
  have hu := Try.underlying37
  have hpu := Try.underlying62
  go_enter Try.func34, Try.ntmps34
  go_wp2_with fail
  refine (one29_x w).mono ?_
  rintro e w1 ⟨oA5, oc5, oA6, oc6, oA7, oc7, oA8, oc8, rfl, hh, hb⟩
  have B := Aside0.mk hb
  have O := Aside0.mk hh
  clear hb hh
  go_wp2_with fail
  refine (total_x _ _ O.out).mono ?_
  rintro e w2 ⟨rfl, hb⟩
  replace B := Aside0.mk (below_then B.out B.out.size hb)
  replace O := Aside0.mk (O.out.below hb)
  clear hb
  go_wp2_with fail
  refine (one29_x _).mono ?_
  rintro e w3 ⟨pA5, pc5, pA6, pc6, pA7, pc7, pA8, pc8, rfl, hh, hb⟩
  replace B := Aside0.mk (below_then B.out B.out.size hb)
  replace O := Aside0.mk (O.out.below hb)
  have P := Aside0.mk hh
  clear hb hh
  go_wp2_with fail
  refine (at_x _ _ P.out).mono ?_
  rintro e w4 ⟨rfl, hb⟩
  replace B := Aside0.mk (below_then B.out B.out.size hb)
  replace O := Aside0.mk (O.out.below hb)
  replace P := Aside0.mk (P.out.below hb)
  clear hb
  go_wp2_with fail
  refine (one29_x _).mono ?_
  rintro e w5 ⟨qA5, qc5, qA6, qc6, qA7, qc7, qA8, qc8, rfl, hh, hb⟩
  have hb0 := hb
  have hb := below_then (below_alloc (Below.refl w4.heap.size w4) (.cells #[.int .i64 1, .int .i64 5, .int .u64 2] 62)) ((below_alloc (Below.refl w4.heap.size w4) (.cells #[.int .i64 1, .int .i64 5, .int .u64 2] 62))).size hb
  replace B := Aside0.mk (below_then B.out B.out.size hb)
  replace O := Aside0.mk (O.out.below hb)
  replace P := Aside0.mk (P.out.below hb)
  have T1 := Aside0.mk (show Blk w5 w4.heap.size #[.int .i64 1, .int .i64 5, .int .u64 2] 62 from (Blk.new w4 #[.int .i64 1, .int .i64 5, .int .u64 2] 62).below hb0)
  have ht1 := fun i => T1.out.cell i
  have Q := Aside0.mk hh
  clear hb hb0 hh
  go_wp2_with fail
  refine (at_x7 _ _ Q.out).mono ?_
  rintro e w6 ⟨rfl, hb⟩
  replace B := Aside0.mk (below_then B.out B.out.size hb)
  replace O := Aside0.mk (O.out.below hb)
  replace P := Aside0.mk (P.out.below hb)
  replace Q := Aside0.mk (Q.out.below hb)
  replace T1 := Aside0.mk (T1.out.below hb)
  replace ht1 := fun i => T1.out.cell i
  clear hb
  go_wp2_with fail
  refine (one29_x _).mono ?_
  rintro e w7 ⟨rA5, rc5, rA6, rc6, rA7, rc7, rA8, rc8, rfl, hh, hb⟩
  have hb0 := hb
  have hb := below_then (below_alloc (Below.refl w6.heap.size w6) (.cells #[.int .i64 0, .int .i64 0, .int .u64 0] 62)) ((below_alloc (Below.refl w6.heap.size w6) (.cells #[.int .i64 0, .int .i64 0, .int .u64 0] 62))).size hb
  replace B := Aside0.mk (below_then B.out B.out.size hb)
  replace O := Aside0.mk (O.out.below hb)
  replace P := Aside0.mk (P.out.below hb)
  replace Q := Aside0.mk (Q.out.below hb)
  replace T1 := Aside0.mk (T1.out.below hb)
  replace ht1 := fun i => T1.out.cell i
  have R := Aside0.mk hh
  clear hb hb0 hh
  go_wp2_with fail
  refine (below_x _ _ R.out).mono ?_
  rintro e w8 ⟨rfl, hb⟩
  replace B := Aside0.mk (below_then B.out B.out.size hb)
  replace O := Aside0.mk (O.out.below hb)
  replace P := Aside0.mk (P.out.below hb)
  replace Q := Aside0.mk (Q.out.below hb)
  replace R := Aside0.mk (R.out.below hb)
  replace T1 := Aside0.mk (T1.out.below hb)
  replace ht1 := fun i => T1.out.cell i
  clear hb
  go_wp2_with fail
  refine (rank_x _).mono ?_
  rintro e w9 ⟨rfl, hb⟩
  replace B := Aside0.mk (below_then B.out B.out.size hb)
  replace O := Aside0.mk (O.out.below hb)
  replace P := Aside0.mk (P.out.below hb)
  replace Q := Aside0.mk (Q.out.below hb)
  replace R := Aside0.mk (R.out.below hb)
  replace T1 := Aside0.mk (T1.out.below hb)
  replace ht1 := fun i => T1.out.cell i
  clear hb
  go_wp2_with fail
  refine (one29_x _).mono ?_
  rintro e w10 ⟨sA5, sc5, sA6, sc6, sA7, sc7, sA8, sc8, rfl, hh, hb⟩
  replace B := Aside0.mk (below_then B.out B.out.size hb)
  replace O := Aside0.mk (O.out.below hb)
  replace P := Aside0.mk (P.out.below hb)
  replace Q := Aside0.mk (Q.out.below hb)
  replace R := Aside0.mk (R.out.below hb)
  replace T1 := Aside0.mk (T1.out.below hb)
  replace ht1 := fun i => T1.out.cell i
  have S := Aside0.mk hh
  clear hb hh
  go_wp2_with fail
  refine (quant_x _ _ S.out).mono ?_
  rintro e w11 ⟨rfl, hb⟩
  replace B := Aside0.mk (below_then B.out B.out.size hb)
  replace O := Aside0.mk (O.out.below hb)
  replace P := Aside0.mk (P.out.below hb)
  replace Q := Aside0.mk (Q.out.below hb)
  replace R := Aside0.mk (R.out.below hb)
  replace S := Aside0.mk (S.out.below hb)
  replace T1 := Aside0.mk (T1.out.below hb)
  replace ht1 := fun i => T1.out.cell i
  clear hb
  go_wp2_with fail
  refine (quant_x0 _).mono ?_
  rintro e w12 ⟨rfl, hb⟩
  have hb0 := hb
  have hb := below_then (below_alloc (Below.refl w11.heap.size w11) (.cells #[.int .i64 2, .int .i64 0, .int .u64 1] 62)) ((below_alloc (Below.refl w11.heap.size w11) (.cells #[.int .i64 2, .int .i64 0, .int .u64 1] 62))).size hb
  replace B := Aside0.mk (below_then B.out B.out.size hb)
  replace O := Aside0.mk (O.out.below hb)
  replace P := Aside0.mk (P.out.below hb)
  replace Q := Aside0.mk (Q.out.below hb)
  replace R := Aside0.mk (R.out.below hb)
  replace S := Aside0.mk (S.out.below hb)
  replace T1 := Aside0.mk (T1.out.below hb)
  replace ht1 := fun i => T1.out.cell i
  have T3 := Aside0.mk (show Blk w12 w11.heap.size #[.int .i64 2, .int .i64 0, .int .u64 1] 62 from (Blk.new w11 #[.int .i64 2, .int .i64 0, .int .u64 1] 62).below hb0)
  have ht3 := fun i => T3.out.cell i
  clear hb hb0
  have hal := below_alloc (Below.refl w12.heap.size w12) (.cells #[.int .i64 0, .int .i64 0, .int .u64 0] 62)
  replace B := Aside0.mk (below_then B.out B.out.size hal)
  replace T1 := Aside0.mk (T1.out.alloc (.cells #[.int .i64 0, .int .i64 0, .int .u64 0] 62))
  replace ht1 := fun i => T1.out.cell i
  replace T3 := Aside0.mk (T3.out.alloc (.cells #[.int .i64 0, .int .i64 0, .int .u64 0] 62))
  replace ht3 := fun i => T3.out.cell i
  go_wp2_with fail
  go_ret
  exact ⟨rfl, B.out⟩
end Go.Proofs.Ytcabapilejagkaa.P
namespace Go.Proofs.Ytcabapilejagkaa.P
open Go.RowKit Go.Proofs.YtcabapilejagkaaW.PrintWords Go.Proofs.YtcabapilejagkaaW.PrintLast Go.Proofs.YtcabapilejagkaaW.PrintMore
attribute [local go_sem] max2_int min2_int max_two min_two max_three min_three max_four min_four
set_option linter.unusedVariables false
set_option linter.unusedSimpArgs false
mutual
def tidepoleref29_Rank.l0 : Nat → Int → Int → Int → Int → Int → Int → Option (Int)
 | 0, _, _, _, _, _, _ => none
 | k + 1, x0, x1, x2, x7, x8, x9 => if x9 ≥ 0 then (if x8 ≥ (IntKind.u64.wrap (x2 - x8)) then (tidepoleref29_Rank.j1 k x0 x1 x2 (IntKind.u64.wrap ((IntKind.u64.wrap (2 * x7)) + 1)) (IntKind.u64.wrap (x8 - (IntKind.u64.wrap (x2 - x8)))) x9) else (tidepoleref29_Rank.j1 k x0 x1 x2 (IntKind.u64.wrap (2 * x7)) (IntKind.u64.wrap (x8 + x8)) x9)) else (if x8 > 0 then (some (IntKind.u64.wrap (x7 + 1))) else (some x7))
def tidepoleref29_Rank.j1 : Nat → Int → Int → Int → Int → Int → Int → Option (Int)
 | 0, _, _, _, _, _, _ => none
 | k + 1, x0, x1, x2, x7, x8, x9 => if 0 ≤ (IntKind.u64.wrap (x9)) then (if (Int.tmod (shr .u64 x0 (IntKind.u64.wrap (x9))) 2) = 1 then (if x8 ≥ (IntKind.u64.wrap (x2 - x1)) then (tidepoleref29_Rank.l0 k x0 x1 x2 (IntKind.u64.wrap (x7 + 1)) (IntKind.u64.wrap (x8 - (IntKind.u64.wrap (x2 - x1)))) (wrap64 (x9 - 1))) else (tidepoleref29_Rank.l0 k x0 x1 x2 x7 (IntKind.u64.wrap (x8 + x1)) (wrap64 (x9 - 1)))) else (tidepoleref29_Rank.l0 k x0 x1 x2 x7 x8 (wrap64 (x9 - 1)))) else (none)
end
def tidepoleref29_Rank.f (k : Nat) (a0 : Int) (a1 : Int) (a2 : Int) : Option (Int) := tidepoleref29_Rank.l0 k a0 a1 a2 0 0 63
set_option maxHeartbeats 8000000 in
set_option maxRecDepth 100000 in
theorem tidepoleref29_Rank.calls (k : Nat) (a0 : Int) (a1 : Int) (a2 : Int) (r : Int) (w : World) (h : tidepoleref29_Rank.f k a0 a1 a2 = some r) :
  Calls Try.prog 44 #[.int .u64 a0, .int .u64 a1, .int .u64 a2] w fun e w' => e = .returned (.int .u64 r) ∧ Drawn0 w w' := by
 have H : (tidepoleref29_Rank.l0 k a0 a1 a2 0 0 63) = some r := h
 clear h
 have H' := Aside0.mk H
 clear H
 go_enter Try.func44, Try.ntmps44
 go_wp2
 go_loopg [7, 8, 9] k (fun kq v7 v8 v9 w' => ∃ (x7_1 : Int) (x8_1 : Int) (x9_1 : Int), v7 = .int .u64 x7_1 ∧ v8 = .int .u64 x8_1 ∧ v9 = .int .i64 x9_1 ∧ Aside0 (tidepoleref29_Rank.l0 kq a0 a1 a2 x7_1 x8_1 x9_1 = some r) ∧ Aside0 (kq ≤ k) ∧ Drawn0 w w')
 case atStart => exact ⟨(0), (0), (63), (by first | rfl | (simp; done) | (simp [*]; done)), (by first | rfl | (simp; done) | (simp [*]; done)), (by first | rfl | (simp; done) | (simp [*]; done)), H', ⟨Nat.le_refl _⟩, by repeat (first | exact Drawn0.refl _ | apply Drawn0.step)⟩
 case round =>
  clear H'
  try clear p2
  obtain ⟨x7_1, x8_1, x9_1, rfl, rfl, rfl, HA, HK1, ⟨m1, rfl⟩⟩ := hrel
  cases gk with
  | zero => exact absurd HA.out (by simp [tidepoleref29_Rank.l0])
  | succ k1 =>
   have H := HA.out
   clear HA
   simp only [tidepoleref29_Rank.l0] at H
   by_cases c4 : x9_1 ≥ 0
   ·rw [if_pos c4] at H
    have c4b0 : decide (0 ≤ x9_1) = true := decide_eq_true c4
    clear c4
    have HC5 := Aside0.mk H
    clear H
    go_upto_if 20 with (fail)
    go_cut [7, 8] (fun v7 v8 wc => ∃ (kq : Nat) (x7_4 : Int) (x8_4 : Int), v7 = .int .u64 x7_4 ∧ v8 = .int .u64 x8_4 ∧ Aside0 (tidepoleref29_Rank.j1 kq a0 a1 a2 x7_4 x8_4 x9_1 = some r) ∧ Aside0 (kq ≤ k1) ∧ Drawn0 w wc)
    case first =>
     have H := HC5.out
     clear HC5
     by_cases c6 : x8_1 ≥ (IntKind.u64.wrap (a2 - x8_1))
     ·rw [if_pos c6] at H
      have c6b0 : decide ((IntKind.u64.wrap (a2 - x8_1)) ≤ x8_1) = true := decide_eq_true c6
      clear c6
      (first | rw [c6b0] | (simp only [i64_w, i32_w]; rw [c6b0]) | skip)
      have H' := Aside0.mk H
      clear H
      go_wp2
      go_meet
      case rel => exact ⟨_, (IntKind.u64.wrap ((IntKind.u64.wrap (2 * x7_1)) + 1)), (IntKind.u64.wrap (x8_1 - (IntKind.u64.wrap (a2 - x8_1)))), (by first | rfl | (simp; done) | (simp [*]; done)), (by first | rfl | (simp; done) | (simp [*]; done)), H', ⟨by have := HK1.out; first | omega | exact Nat.le_refl _⟩, by repeat (first | exact Drawn0.refl _ | apply Drawn0.step)⟩
     ·rw [if_neg c6] at H
      have c6b0 : decide ((IntKind.u64.wrap (a2 - x8_1)) ≤ x8_1) = false := decide_eq_false c6
      clear c6
      (first | rw [c6b0] | (simp only [i64_w, i32_w]; rw [c6b0]) | skip)
      have H' := Aside0.mk H
      clear H
      go_wp2
      go_meet
      case rel => exact ⟨_, (IntKind.u64.wrap (2 * x7_1)), (IntKind.u64.wrap (x8_1 + x8_1)), (by first | rfl | (simp; done) | (simp [*]; done)), (by first | rfl | (simp; done) | (simp [*]; done)), H', ⟨by have := HK1.out; first | omega | exact Nat.le_refl _⟩, by repeat (first | exact Drawn0.refl _ | apply Drawn0.step)⟩
    case rest =>
     clear HC5
     try clear p2
     try clear c4
     try clear c4b0
     try clear c6
     try clear c6b0
     try clear p2
     obtain ⟨kq, x7_4, x8_4, rfl, rfl, HA, HJ4, ⟨mc4, rfl⟩⟩ := hcut
     cases kq with
     | zero => exact absurd HA.out (by simp [tidepoleref29_Rank.j1])
     | succ kj4 =>
      have H := HA.out
      clear HA
      simp only [tidepoleref29_Rank.j1] at H
      obtain ⟨ji7, hji7⟩ : ∃ j_ : Int, (IntKind.u64.wrap (x9_1)) = j_ := ⟨_, rfl⟩
      replace H : (if 0 ≤ (ji7) then (if (Int.tmod (shr .u64 a0 (ji7)) 2) = 1 then (if x8_4 ≥ (IntKind.u64.wrap (a2 - a1)) then (tidepoleref29_Rank.l0 kj4 a0 a1 a2 (IntKind.u64.wrap (x7_4 + 1)) (IntKind.u64.wrap (x8_4 - (IntKind.u64.wrap (a2 - a1)))) (wrap64 (x9_1 - 1))) else (tidepoleref29_Rank.l0 kj4 a0 a1 a2 x7_4 (IntKind.u64.wrap (x8_4 + a1)) (wrap64 (x9_1 - 1)))) else (tidepoleref29_Rank.l0 kj4 a0 a1 a2 x7_4 x8_4 (wrap64 (x9_1 - 1)))) else (none)) = some r := by first | (rw [hji7] at H; exact H) | (simp only [hji7] at H ⊢; exact H)
      by_cases c8 : 0 ≤ (ji7)
      ·rw [if_pos c8] at H
       have c8b0 := eq_true c8
       have c8b1 : decide (0 ≤ (ji7)) = true := decide_eq_true c8
       clear c8
       obtain ⟨ji9, hji9⟩ : ∃ j_ : Int, (shr .u64 a0 (ji7)) = j_ := ⟨_, rfl⟩
       replace H : (if (Int.tmod (ji9) 2) = 1 then (if x8_4 ≥ (IntKind.u64.wrap (a2 - a1)) then (tidepoleref29_Rank.l0 kj4 a0 a1 a2 (IntKind.u64.wrap (x7_4 + 1)) (IntKind.u64.wrap (x8_4 - (IntKind.u64.wrap (a2 - a1)))) (wrap64 (x9_1 - 1))) else (tidepoleref29_Rank.l0 kj4 a0 a1 a2 x7_4 (IntKind.u64.wrap (x8_4 + a1)) (wrap64 (x9_1 - 1)))) else (tidepoleref29_Rank.l0 kj4 a0 a1 a2 x7_4 x8_4 (wrap64 (x9_1 - 1)))) = some r := by first | (rw [hji9] at H; exact H) | (simp only [hji9] at H ⊢; exact H)
       have hji9_ : (a0 / 2 ^ min (ji7).toNat 64) = ji9 := hji9
       have hji9z : (ji7) ≤ 64 → (a0 / 2 ^ (ji7).toNat) = ji9 := shr_small hji9
       by_cases c10 : (Int.tmod (ji9) 2) = 1
       ·rw [if_pos c10] at H
        have c10b0 : ((Int.tmod (ji9) 2) == 1) = true := beq_iff_eq.mpr c10
        have c10b1 : ((Int.tmod (ji9) 2) != 1) = false := bne_eq_false_iff_eq.mpr c10
        clear c10
        by_cases c11 : x8_4 ≥ (IntKind.u64.wrap (a2 - a1))
        ·rw [if_pos c11] at H
         have c11b0 : decide ((IntKind.u64.wrap (a2 - a1)) ≤ x8_4) = true := decide_eq_true c11
         clear c11
         have H' := Aside0.mk H
         clear H
         go_wp2
         go_roundg kj4
         case measure => have := HK1.out; have := HJ4.out; omega
         case rel => exact ⟨(IntKind.u64.wrap (x7_4 + 1)), (IntKind.u64.wrap (x8_4 - (IntKind.u64.wrap (a2 - a1)))), (wrap64 (x9_1 - 1)), (by first | rfl | (simp; done) | (simp [*]; done)), (by first | rfl | (simp; done) | (simp [*]; done)), (by first | rfl | (simp; done) | (simp [*]; done)), H', ⟨by have := HK1.out; have := HJ4.out; omega⟩, by repeat (first | exact Drawn0.refl _ | apply Drawn0.step)⟩
        ·rw [if_neg c11] at H
         have c11b0 : decide ((IntKind.u64.wrap (a2 - a1)) ≤ x8_4) = false := decide_eq_false c11
         clear c11
         have H' := Aside0.mk H
         clear H
         go_wp2
         go_roundg kj4
         case measure => have := HK1.out; have := HJ4.out; omega
         case rel => exact ⟨(x7_4), (IntKind.u64.wrap (x8_4 + a1)), (wrap64 (x9_1 - 1)), (by first | rfl | (simp; done) | (simp [*]; done)), (by first | rfl | (simp; done) | (simp [*]; done)), (by first | rfl | (simp; done) | (simp [*]; done)), H', ⟨by have := HK1.out; have := HJ4.out; omega⟩, by repeat (first | exact Drawn0.refl _ | apply Drawn0.step)⟩
       ·rw [if_neg c10] at H
        have c10b0 : ((Int.tmod (ji9) 2) == 1) = false := beq_eq_false_iff_ne.mpr c10
        have c10b1 : ((Int.tmod (ji9) 2) != 1) = true := bne_iff_ne.mpr c10
        have H' := Aside0.mk H
        clear H
        go_wp2
        go_roundg kj4
        case measure => have := HK1.out; have := HJ4.out; omega
        case rel => exact ⟨(x7_4), (x8_4), (wrap64 (x9_1 - 1)), (by first | rfl | (simp; done) | (simp [*]; done)), (by first | rfl | (simp; done) | (simp [*]; done)), (by first | rfl | (simp; done) | (simp [*]; done)), H', ⟨by have := HK1.out; have := HJ4.out; omega⟩, by repeat (first | exact Drawn0.refl _ | apply Drawn0.step)⟩
      ·rw [if_neg c8] at H
       exact absurd H (by simp)
   ·rw [if_neg c4] at H
    have c4b0 : decide (0 ≤ x9_1) = false := decide_eq_false c4
    clear c4
    by_cases c12 : x8_1 > 0
    ·rw [if_pos c12] at H
     have c12b0 : decide (0 < x8_1) = true := decide_eq_true c12
     clear c12
     obtain rfl := Option.some.inj H
     go_wp2
     go_ret
     exact ⟨by first | rfl | (simp; done) | (simp [*]; done), by repeat (first | exact Drawn0.refl _ | apply Drawn0.step)⟩
    ·rw [if_neg c12] at H
     have c12b0 : decide (0 < x8_1) = false := decide_eq_false c12
     clear c12
     obtain rfl := Option.some.inj H
     go_wp2
     go_ret
     exact ⟨by first | rfl | (simp; done) | (simp [*]; done), by repeat (first | exact Drawn0.refl _ | apply Drawn0.step)⟩
end Go.Proofs.Ytcabapilejagkaa.P
namespace Go.Proofs.Ytcabapilejagkaa.P
open Go.RowKit Go.Shelf Go.Proofs.YtcabapilejagkaaW.PrintWords Go.Proofs.YtcabapilejagkaaW.PrintLast Go.Proofs.YtcabapilejagkaaW.PrintMore
set_option linter.unusedVariables false
set_option linter.unusedSimpArgs false
theorem u64w {x : Int} (h0 : 0 ≤ x) (h1 : x ≤ 18446744073709551615) : IntKind.u64.wrap x = x := u64_wrap ⟨h0, h1⟩
theorem shr_nat (t i : Nat) (ht : t < 18446744073709551616) (hi : i ≤ 63) : Int.tmod (shr .u64 (t : Int) (i : Int)) 2 = ((t / 2 ^ i % 2 : Nat) : Int) := by
  unfold shr
  rw [Int.toNat_natCast, show IntKind.u64.bits = 64 from rfl, Nat.min_eq_left (by omega)]
  rw [show ((t : Int) / 2 ^ i) = ((t / 2 ^ i : Nat) : Int) by simp]
  generalize t / 2 ^ i = m
  rw [Int.tmod_eq_emod_of_nonneg (by omega)]
  omega
theorem rank_l0 (t n d : Nat) (ht : t < 18446744073709551616) (hd : 0 < d) (hnd : n ≤ d) (hd2 : d < 18446744073709551616) : ∀ (i k : Nat) (q r : Nat), i ≤ 64 → 2 * i < k → q * d + r = t / 2 ^ i * n → r < d →
    tidepoleref29_Rank.l0 k (t : Int) (n : Int) (d : Int) (q : Int) (r : Int) ((i : Int) - 1) = some (((t * n / d + (if t * n % d = 0 then 0 else 1) : Nat) : Int)) := by
  intro i
  induction i with
  | zero =>
    intro k q r hi hk e hr
    obtain ⟨k, rfl⟩ : ∃ m, k = m + 1 := ⟨k - 1, by omega⟩
    rw [tidepoleref29_Rank.l0, if_neg (by omega)]
    rw [Nat.pow_zero, Nat.div_one] at e
    have e1 : t * n / d = q := by rw [← e, Nat.mul_comm, Nat.mul_add_div hd, Nat.div_eq_of_lt hr, Nat.add_zero]
    have e2 : t * n % d = r := by rw [← e, Nat.mul_comm, Nat.mul_add_mod, Nat.mod_eq_of_lt hr]
    rw [e1, e2]
    have hqt : q ≤ t := by rw [← e1]; exact Nat.div_le_of_le_mul (by rw [Nat.mul_comm]; exact Nat.mul_le_mul_right _ hnd)
    by_cases z : r = 0
    · rw [if_pos z, if_neg (by omega)]; simp
    · have hq1 : q < t := by
        rcases Nat.lt_or_ge q t with h | h
        · exact h
        · have : q = t := by omega
          subst this
          have h2 : q * n ≤ q * d := Nat.mul_le_mul_left _ hnd
          omega
      rw [if_neg z, if_pos (by omega), u64w (by omega) (by omega)]; simp
  | succ i ih =>
    intro k q r hi hk e hr
    obtain ⟨k, rfl⟩ : ∃ m, k = m + 2 := ⟨k - 2, by omega⟩
    have hT : t / 2 ^ i = 2 * (t / 2 ^ (i + 1)) + t / 2 ^ i % 2 := by
      rw [Nat.pow_succ, ← Nat.div_div_eq_div_mul]; omega
    have hTt : t / 2 ^ i ≤ t := Nat.div_le_self _ _
    have hqT : q ≤ t / 2 ^ (i + 1) := by
      have h2 : q * d ≤ t / 2 ^ (i + 1) * d := by
        have := Nat.mul_le_mul_left (t / 2 ^ (i + 1)) hnd
        omega
      exact Nat.le_of_mul_le_mul_right h2 hd
    have hshr := shr_nat t i ht (by omega)
    have hbit : t / 2 ^ i % 2 ≤ 1 := by omega
    generalize t / 2 ^ i % 2 = bit at *
    generalize t / 2 ^ (i + 1) = T at *
    rw [show ((i + 1 : Nat) : Int) - 1 = (i : Int) by omega, tidepoleref29_Rank.l0, if_pos (by omega), u64w (x := (d : Int) - r) (by omega) (by omega)]
    -- twice
    have hrec : ∀ q2 r2 : Nat, q2 * d + r2 = 2 * T * n → r2 < d → q2 ≤ 2 * T → tidepoleref29_Rank.j1 (k + 1) (t : Int) (n : Int) (d : Int) (q2 : Int) (r2 : Int) (i : Int) = some (((t * n / d + (if t * n % d = 0 then 0 else 1) : Nat) : Int)) := by
      intro q2 r2 e2 h2 hq2
      rw [tidepoleref29_Rank.j1, u64w (x := (i : Int)) (by omega) (by omega), if_pos (by omega), hshr, wrap_id (x := (i : Int) - 1) (by omega) (by omega), u64w (x := (d : Int) - n) (by omega) (by omega)]
      by_cases hb : bit = 1
      · subst hb
        rw [if_pos (by simp)]
        by_cases c : d - n ≤ r2
        · rw [if_pos (by omega), u64w (x := (q2 : Int) + 1) (by omega) (by omega), u64w (x := (r2 : Int) - ((d : Int) - n)) (by omega) (by omega)]
          have := ih k (q2 + 1) (r2 - (d - n)) (by omega) (by omega) (by rw [hT, Nat.add_mul, Nat.add_mul, ← e2]; omega) (by omega)
          rw [show ((q2 + 1 : Nat) : Int) = (q2 : Int) + 1 by omega, show ((r2 - (d - n) : Nat) : Int) = (r2 : Int) - ((d : Int) - n) by omega] at this
          exact this
        · rw [if_neg (by omega), u64w (x := (r2 : Int) + n) (by omega) (by omega)]
          have := ih k q2 (r2 + n) (by omega) (by omega) (by rw [hT, Nat.add_mul, ← e2]; omega) (by omega)
          rw [show ((r2 + n : Nat) : Int) = (r2 : Int) + n by omega] at this
          exact this
      · have hb0 : bit = 0 := by omega
        subst hb0
        rw [if_neg (by omega)]
        exact ih k q2 r2 (by omega) (by omega) (by rw [hT, Nat.add_zero, ← e2]) h2
    by_cases c : d - r ≤ r
    · rw [if_pos (by omega), u64w (x := 2 * (q : Int)) (by omega) (by omega), u64w (x := 2 * (q : Int) + 1) (by omega) (by omega), u64w (x := (r : Int) - ((d : Int) - r)) (by omega) (by omega)]
      have e2 : (2 * q + 1) * d + (r - (d - r)) = 2 * T * n := by rw [Nat.add_mul, Nat.mul_assoc, Nat.mul_assoc, ← e]; omega
      have hq2 : 2 * q + 1 ≤ 2 * T := by
        have h2 : (2 * q + 1) * d ≤ 2 * T * d := by
          have := Nat.mul_le_mul_left (2 * T) hnd
          omega
        exact Nat.le_of_mul_le_mul_right h2 hd
      have := hrec (2 * q + 1) (r - (d - r)) e2 (by omega) hq2
      rw [show ((2 * q + 1 : Nat) : Int) = 2 * (q : Int) + 1 by omega, show ((r - (d - r) : Nat) : Int) = (r : Int) - ((d : Int) - r) by omega] at this
      exact this
    · rw [if_neg (by omega), u64w (x := 2 * (q : Int)) (by omega) (by omega), u64w (x := (r : Int) + r) (by omega) (by omega)]
      have := hrec (2 * q) (r + r) (by rw [Nat.mul_assoc, Nat.mul_assoc, ← e]; omega) (by omega) (by omega)
      rw [show ((2 * q : Nat) : Int) = 2 * (q : Int) by omega, show ((r + r : Nat) : Int) = (r : Int) + r by omega] at this
      exact this
theorem refRank_eq (t n d : Int) (ht : u64 t) (hn : u64 n) (hd : u64 d) (h0 : d ≠ 0) (hnd : n ≤ d) (k : Nat) (hk : 130 ≤ k) : tidepoleref29_Rank.f k t n d = some (rankR t n d).1 := by
  unfold u64 at ht hn hd
  obtain ⟨t, rfl⟩ := Int.eq_ofNat_of_zero_le ht.1
  obtain ⟨n, rfl⟩ := Int.eq_ofNat_of_zero_le hn.1
  obtain ⟨d, rfl⟩ := Int.eq_ofNat_of_zero_le hd.1
  unfold tidepoleref29_Rank.f rankR
  rw [if_neg (by omega)]
  have := rank_l0 t n d (by omega) (by omega) (by omega) (by omega) 64 k 0 0 (by omega) (by omega) (by rw [Nat.div_eq_of_lt (by omega)]; simp) (by omega)
  rw [show ((64 : Nat) : Int) - 1 = 63 by omega] at this
  rw [show ((0 : Nat) : Int) = 0 from rfl] at this
  rw [this]
  have e_ : ((t : Int) * n) = ((t * n : Nat) : Int) := by simp
  simp only
  rw [e_, ceil_eq _ _ (by omega)]
  by_cases z : t * n % d = 0
  · rw [if_pos z, if_pos z]; simp
  · rw [if_neg z, if_neg z]; simp
end Go.Proofs.Ytcabapilejagkaa.P
namespace Go.Proofs.Ytcabapilejagkaa.P
open Go.RowKit Go.Shelf Go.Proofs.YtcabapilejagkaaW.PrintWords Go.Proofs.YtcabapilejagkaaW.PrintLast Go.Proofs.YtcabapilejagkaaW.PrintMore
set_option linter.unusedVariables false
set_option linter.unusedSimpArgs false
theorem rankR_le' (t n d : Int) (ht : u64 t) (hn : u64 n) (hd : u64 d) (h0 : d ≠ 0) (hnd : n ≤ d) : 0 ≤ (rankR t n d).1 ∧ (rankR t n d).1 ≤ t := by
  unfold rankR
  rw [if_neg (by omega)]
  unfold u64 at *
  have h1 : t * n ≤ t * d := Int.mul_le_mul_of_nonneg_left hnd ht.1
  have h2 : 0 ≤ t * n := Int.mul_nonneg ht.1 hn.1
  refine ⟨Int.ediv_nonneg (by omega) (by omega), ?_⟩
  refine Int.le_of_lt_add_one (Int.ediv_lt_of_lt_mul (by omega) ?_)
  show t * n + d - 1 < (t + 1) * d
  rw [Int.add_mul]
  omega
theorem rankR_mono (t n m d : Int) (ht : u64 t) (hd : u64 d) (h0 : d ≠ 0) (hnm : n ≤ m) (hmd : m ≤ d) : (rankR t n d).1 ≤ (rankR t m d).1 := by
  unfold rankR
  rw [if_neg (by omega), if_neg (by omega)]
  unfold u64 at *
  have h1 : t * n ≤ t * m := Int.mul_le_mul_of_nonneg_left hnm ht.1
  exact Int.ediv_le_ediv (by omega) (by omega)
theorem rank_u (t n d : Int) (ht : u64 t) (hn : u64 n) (hd : u64 d) (w : World) : Calls Try.prog 43 #[.int .u64 t, .int .u64 n, .int .u64 d] w fun e w' => e = .returned (.tuple #[.int .u64 (rankR t n d).1, .int .i64 (rankR t n d).2]) ∧ Below w.heap.size w w' :=
  rank_Rank.calls t n d (rankR t n d).1 (rankR t n d).2 w (if_pos ⟨ht, hn, hd⟩)
theorem refRank_u (t n d : Int) (ht : u64 t) (hn : u64 n) (hd : u64 d) (h0 : d ≠ 0) (hnd : n ≤ d) (w : World) : Calls Try.prog 44 #[.int .u64 t, .int .u64 n, .int .u64 d] w fun e w' => e = .returned (.int .u64 (rankR t n d).1) ∧ Below w.heap.size w w' :=
  (tidepoleref29_Rank.calls 130 t n d _ w (refRank_eq t n d ht hn hd h0 hnd 130 (Nat.le_refl _))).mono fun e w1 h => ⟨h.1, h.2.below⟩
set_option maxHeartbeats 16000000 in
set_option maxRecDepth 100000 in
theorem rankParts_c (t n m d : Int) (ht : u64 t) (hn : u64 n) (hm : u64 m) (hd : u64 d) (w : World) : Calls Try.prog 10 #[.int .u64 t, .agg #[.int .u64 n, .int .u64 m], .int .u64 d] w fun e w' => e = .returned (.bool true) ∧ Below w.heap.size w w' := by
  have RK := Aside0.mk (rank_u t n d ht hn hd)
  have RM := Aside0.mk (rank_u t m d ht hm hd)
  have X := Aside0.mk (Blk.new w #[.int .u64 n, .int .u64 m] 81)
  have hx := fun i => X.out.cell i
  have B := Aside0.mk (below_alloc (Below.refl w.heap.size w) (.cells #[.int .u64 n, .int .u64 m] 81))
  have hty := Try.underlying81
  by_cases c : d = 0 ∨ d < n
  · have hr : rankR t n d = (0, 11) := by unfold rankR; rw [if_pos c]
    rw [hr] at RK
    have RR := Aside0.mk trivial
    by_cases c0 : d = 0
    · have d1 : (d == 0) = true := beq_iff_eq.2 c0
      clear c c0 hr RM
      go_enter Try.func10, Try.ntmps10
      go_wp2_with (first | (go_at_call 43; (with_reducible refine (RK.out _).mono ?_); rintro e w1 ⟨rfl, hb⟩; replace B := Aside0.mk (below_then B.out B.out.size hb); replace X := Aside0.mk (X.out.below hb); replace hx := fun i => X.out.cell i; clear hb) | (go_at_call 43; (with_reducible refine (RM.out _).mono ?_); rintro e w4 ⟨rfl, hb⟩; replace B := Aside0.mk (below_then B.out B.out.size hb); replace X := Aside0.mk (X.out.below hb); replace hx := fun i => X.out.cell i; clear hb) | (go_at_call 44; (with_reducible refine (RR.out _).mono ?_); rintro e w3 ⟨rfl, hb⟩; replace B := Aside0.mk (below_then B.out B.out.size hb); replace X := Aside0.mk (X.out.below hb); replace hx := fun i => X.out.cell i; clear hb) | (go_at_call 34; (with_reducible refine (awake29_c _).mono ?_); rintro e w2 ⟨rfl, hb⟩; replace B := Aside0.mk (below_then B.out B.out.size hb); clear hb))
      go_ret
      exact ⟨rfl, B.out⟩
    · have d1 : (d == 0) = false := beq_eq_false_iff_ne.2 c0
      have d2 : decide (d < n) = true := decide_eq_true (by omega)
      clear c c0 hr RM
      go_enter Try.func10, Try.ntmps10
      go_wp2_with (first | (go_at_call 43; (with_reducible refine (RK.out _).mono ?_); rintro e w1 ⟨rfl, hb⟩; replace B := Aside0.mk (below_then B.out B.out.size hb); replace X := Aside0.mk (X.out.below hb); replace hx := fun i => X.out.cell i; clear hb) | (go_at_call 43; (with_reducible refine (RM.out _).mono ?_); rintro e w4 ⟨rfl, hb⟩; replace B := Aside0.mk (below_then B.out B.out.size hb); replace X := Aside0.mk (X.out.below hb); replace hx := fun i => X.out.cell i; clear hb) | (go_at_call 44; (with_reducible refine (RR.out _).mono ?_); rintro e w3 ⟨rfl, hb⟩; replace B := Aside0.mk (below_then B.out B.out.size hb); replace X := Aside0.mk (X.out.below hb); replace hx := fun i => X.out.cell i; clear hb) | (go_at_call 34; (with_reducible refine (awake29_c _).mono ?_); rintro e w2 ⟨rfl, hb⟩; replace B := Aside0.mk (below_then B.out B.out.size hb); clear hb))
      go_ret
      exact ⟨rfl, B.out⟩
  have hle := rankR_le' t n d ht hn hd (by omega) (by omega)
  have RR := Aside0.mk (refRank_u t n d ht hn hd (by omega) (by omega))
  have hr2 : (rankR t n d).2 = 0 := by unfold rankR; rw [if_neg c]
  have hmono := fun h1 h2 => rankR_mono t n m d ht hd (by omega) h1 h2
  have d1 : (d == 0) = false := beq_eq_false_iff_ne.2 (by omega)
  have d2 : decide (d < n) = false := decide_eq_false (by omega)
  have d0 : ∀ k : Int, ((k == k) = true) := fun k => beq_self_eq_true k
  rw [hr2] at RK
  obtain ⟨k, hk⟩ : ∃ k, k = (rankR t n d).1 := ⟨_, rfl⟩
  rw [← hk] at RK RR hle hmono
  have d3 : decide (t < k) = false := decide_eq_false (by omega)
  have d4 : (k != k) = false := by simp
  by_cases c1 : m < n
  · have d5 : decide (m < n) = true := decide_eq_true c1
    clear c c1 hr2 hmono hk hle RM d0
    go_enter Try.func10, Try.ntmps10
    go_wp2_with (first | (go_at_call 43; (with_reducible refine (RK.out _).mono ?_); rintro e w1 ⟨rfl, hb⟩; replace B := Aside0.mk (below_then B.out B.out.size hb); replace X := Aside0.mk (X.out.below hb); replace hx := fun i => X.out.cell i; clear hb) | (go_at_call 43; (with_reducible refine (RM.out _).mono ?_); rintro e w4 ⟨rfl, hb⟩; replace B := Aside0.mk (below_then B.out B.out.size hb); replace X := Aside0.mk (X.out.below hb); replace hx := fun i => X.out.cell i; clear hb) | (go_at_call 44; (with_reducible refine (RR.out _).mono ?_); rintro e w3 ⟨rfl, hb⟩; replace B := Aside0.mk (below_then B.out B.out.size hb); replace X := Aside0.mk (X.out.below hb); replace hx := fun i => X.out.cell i; clear hb) | (go_at_call 34; (with_reducible refine (awake29_c _).mono ?_); rintro e w2 ⟨rfl, hb⟩; replace B := Aside0.mk (below_then B.out B.out.size hb); clear hb))
    go_ret
    exact ⟨rfl, B.out⟩
  have d5 : decide (m < n) = false := decide_eq_false c1
  by_cases c2 : d < m
  · have d6 : decide (d < m) = true := decide_eq_true c2
    clear c c1 c2 hr2 hmono hk hle RM d0
    go_enter Try.func10, Try.ntmps10
    go_wp2_with (first | (go_at_call 43; (with_reducible refine (RK.out _).mono ?_); rintro e w1 ⟨rfl, hb⟩; replace B := Aside0.mk (below_then B.out B.out.size hb); replace X := Aside0.mk (X.out.below hb); replace hx := fun i => X.out.cell i; clear hb) | (go_at_call 43; (with_reducible refine (RM.out _).mono ?_); rintro e w4 ⟨rfl, hb⟩; replace B := Aside0.mk (below_then B.out B.out.size hb); replace X := Aside0.mk (X.out.below hb); replace hx := fun i => X.out.cell i; clear hb) | (go_at_call 44; (with_reducible refine (RR.out _).mono ?_); rintro e w3 ⟨rfl, hb⟩; replace B := Aside0.mk (below_then B.out B.out.size hb); replace X := Aside0.mk (X.out.below hb); replace hx := fun i => X.out.cell i; clear hb) | (go_at_call 34; (with_reducible refine (awake29_c _).mono ?_); rintro e w2 ⟨rfl, hb⟩; replace B := Aside0.mk (below_then B.out B.out.size hb); clear hb))
    go_ret
    exact ⟨rfl, B.out⟩
  have d6 : decide (d < m) = false := decide_eq_false c2
  have hr3 : (rankR t m d).2 = 0 := by unfold rankR; rw [if_neg (by omega)]
  rw [hr3] at RM
  have hkm := hmono (by omega) (by omega)
  obtain ⟨km, hkm_⟩ : ∃ q, q = (rankR t m d).1 := ⟨_, rfl⟩
  rw [← hkm_] at RM hkm
  have d7 : decide (k ≤ km) = true := decide_eq_true hkm
  clear c c1 c2 hr2 hmono hk hle d0 hkm hr3 hkm_
  go_enter Try.func10, Try.ntmps10
  go_wp2_with (first | (go_at_call 43; (with_reducible refine (RK.out _).mono ?_); rintro e w1 ⟨rfl, hb⟩; replace B := Aside0.mk (below_then B.out B.out.size hb); replace X := Aside0.mk (X.out.below hb); replace hx := fun i => X.out.cell i; clear hb) | (go_at_call 43; (with_reducible refine (RM.out _).mono ?_); rintro e w4 ⟨rfl, hb⟩; replace B := Aside0.mk (below_then B.out B.out.size hb); replace X := Aside0.mk (X.out.below hb); replace hx := fun i => X.out.cell i; clear hb) | (go_at_call 44; (with_reducible refine (RR.out _).mono ?_); rintro e w3 ⟨rfl, hb⟩; replace B := Aside0.mk (below_then B.out B.out.size hb); replace X := Aside0.mk (X.out.below hb); replace hx := fun i => X.out.cell i; clear hb) | (go_at_call 34; (with_reducible refine (awake29_c _).mono ?_); rintro e w2 ⟨rfl, hb⟩; replace B := Aside0.mk (below_then B.out B.out.size hb); clear hb))
  go_ret
  exact ⟨rfl, B.out⟩
end Go.Proofs.Ytcabapilejagkaa.P
namespace Go.Proofs.Ytcabapilejagkaa.rankParts
open Go.ChangeShapes Go.WideShapes Go.ChangeAt Go.RowKit Go.Proofs.Ytcabapilejagkaa.P Go.Proofs.YtcabapilejagkaaW.PrintWords
set_option linter.unusedVariables false
theorem own : ownKnob Try.prog.godebug = none := by kernel_rfl
theorem laidOut : laidOutB Try.prog = true := by kernel_rfl
theorem okWide_arr {P : Program} {w : World} {r : Reach} {base : Nat} {t e : TypeId} {n : Nat} {v : Value} (ht : P.underlying t = some (.array n e)) (h : Value.okWide P w r base t v) : ∃ cs, v = .agg cs := by
  simp only [Value.okWide, ht] at h
  obtain ⟨cs, h1, _⟩ := h
  exact ⟨cs, h1⟩
set_option maxRecDepth 100000 in
theorem opens81 {H : Type} (enc : TypeId × Value → H) (w : World) (base : Nat) (sp : Nat → Bool) (held : Bool) (fuel : Nat) (cs : List Value) (x : DataW H × List MemPlace) (h : DataW.trod enc Try.prog w base sp held fuel 81 cs = some x) :
    ∃ y0 y1 : Int, cs = [.int .u64 y0, .int .u64 y1] ∧ inI .u64 y0 ∧ inI .u64 y1 := by
  obtain ⟨xs, n, rfl, _, hl, hxl, hf⟩ := DataW.trod_array Try.underlying81 h
  have hc : cs.length = 2 := hl.trans (by kernel_rfl)
  match cs, hc with
  | [c0, c1], _ =>
    have hce : Try.prog.cellsOf 33 = 1 := by kernel_rfl
    have g0 : DataW.trod enc Try.prog w base sp held n 33 [c0] = xs[0]? := by have g := hf 0 (by decide); rw [hce] at g; exact g
    have g1 : DataW.trod enc Try.prog w base sp held n 33 [c1] = xs[1]? := by have g := hf 1 (by decide); rw [hce] at g; exact g
    have e0 : xs[0]? = some (xs[0]'(by omega)) := List.getElem?_eq_getElem _
    have e1 : xs[1]? = some (xs[1]'(by omega)) := List.getElem?_eq_getElem _
    obtain ⟨y0, hk0, hw0⟩ := (opens_int Try.underlying33) enc w base sp held n [c0] _ (g0.trans e0)
    injection (show [c0] = [Value.int .u64 y0] from hk0) with he0 _
    subst he0
    obtain ⟨y1, hk1, hw1⟩ := (opens_int Try.underlying33) enc w base sp held n [c1] _ (g1.trans e1)
    injection (show [c1] = [Value.int .u64 y1] from hk1) with he1 _
    subst he1
    exact ⟨y0, y1, rfl, hw0, hw1⟩
set_option maxRecDepth 100000 in
set_option maxHeartbeats 4000000 in
theorem lifted (os : Os) (started : os.Started) (H : Type) (enc : TypeId × Value → H) :
    ReturnsInHanded {} Try.checked os 10 .any (Rows.rankPartsSpec.pre6 enc Try.prog Try.f10 Rows.rankPartsRow.domain false) (Rows.rankPartsSpec.post enc Try.prog Try.f10 false true false false) := by
  refine returnsInHanded_of_change_sized (C := Try.checked) own started (by kernel_rfl) Try.func10
    (ChangeSpec.witness6 (enc := enc) (C := Try.checked) false ⟨#[], #[.int .u64 0, .agg #[.int .u64 0, .int .u64 0], .int .u64 0], []⟩ 8 (by kernel_rfl) (by kernel_rfl) (by kernel_rfl) (by kernel_rfl)) ?_
  intro W base args ds gs before hval0 hW hcnd hsz0 _
  have hval : ∀ (j : Nat) t v, Try.f10.params[j]? = some t → args[j]? = some v → Value.okWide Try.prog W .any base t v := hval0
  have hW' := hW
  obtain ⟨p, q, hA0, hV, rfl, hfz, hnd⟩ := hW
  have hA : DataW.TrodAll enc Try.prog W 0 (fun _ => true) true Try.f10.params.toList args.toList ds p := hA0
  rw [Try.params10] at hA hval
  obtain ⟨v0, vs0, d0, ds0, p0, q0, hargs, rfl, rfl, h0, r0⟩ := trodAll_cons hA
  obtain ⟨v1, vs1, d1, ds1, p1, q1, rfl, rfl, rfl, h1, r1⟩ := trodAll_cons r0
  obtain ⟨v2, vs2, d2, ds2, p2, q2, rfl, rfl, rfl, h2, r2⟩ := trodAll_cons r1
  obtain ⟨rfl, rfl, rfl⟩ := trodAll_nil r2
  obtain rfl : args = #[v0, v1, v2] := by cases args; simp_all
  obtain ⟨rfl, rfl⟩ := trodVars_none hV
  obtain ⟨a0, rfl, rfl, rfl, w0⟩ := open_int Try.underlying33 (hval 0 33 v0 rfl rfl) h0
  have k1 := h1
  have lt1 : ∀ x ∈ p1, x.block < W.heap.size := by obtain ⟨m, hm⟩ := k1; exact DataW.trod_lt m _ _ _ hm
  obtain ⟨fu1, hf1⟩ := h1
  obtain ⟨y0, y1, hc1, w10, w11⟩ := opens81 enc W 0 _ true fu1 _ _ hf1
  obtain ⟨cs1, rfl⟩ := okWide_arr Try.underlying81 (hval 1 81 v1 rfl rfl)
  obtain rfl : cs1 = #[.int .u64 y0, .int .u64 y1] := by
    have he : cs1.toList = _ := hc1
    exact Array.toList_inj.1 he
  obtain ⟨a2, rfl, rfl, rfl, w2⟩ := open_int Try.underlying33 (hval 2 33 v2 rfl rfl) h2
  clear hA0 hval0 hsz0
  refine (P.rankParts_c a0 y0 y1 a2 (u64_of w0) (u64_of w10) (u64_of w11) (u64_of w2) W).mono fun e W' ⟨he, bel⟩ => ?_
  subst he
  exact ⟨_, rfl, _, _, _, [], _, [], hW', trodAll_mk1 (shut_bool Try.underlying4 _), (trodAll_cons_mk (shut_int Try.underlying33 w0) (trodAll_cons_mk (Below.trod laidOut (by kernel_rfl) (of_decide_eq_true (by kernel_rfl)) k1 bel lt1) (trodAll_cons_mk (shut_int Try.underlying33 w2) trodAll_mk0))), rfl, bel.frame _, fun h => by cases h⟩
theorem cf0 : (Rows.rankPartsRow.wf (OpenSpec.ofChange Rows.rankPartsSpec)) = true := by kernel_rfl
theorem cf1 : (laidOutB Try.prog) = true := P.head_laidOut
theorem cf2 : (mapsRowed Try.prog) = true := P.head_mapsRowed
theorem cf3 : (Try.f10.params.all (Try.prog.readableRec ·)) = true := by kernel_rfl
theorem cf4 : (namedTie Try.prog Rows.rankPartsRow.named Rows.rankPartsSpec.vars) = true := by kernel_rfl
theorem cf5 : ((Rows.rankPartsRow.stops == [])) = true := by kernel_rfl
theorem cf6 : ((Try.prog.stops == [])) = true := P.head_stops
theorem cf7 : ((Rows.rankPartsRow.knobs == [])) = true := by kernel_rfl
theorem cf8 : ((Try.prog.stopKnobs == [])) = true := P.head_stopKnobs
theorem cf9 : ((Rows.rankPartsRow.inPlace == Try.prog.inPlace 10)) = true := by kernel_rfl
theorem cf10 : ((Rows.rankPartsRow.unfollowed == Try.prog.unfollowed 10)) = true := by kernel_rfl
theorem cf11 : ((Rows.rankPartsRow.recurses == Try.prog.recurses 10)) = true := by kernel_rfl
theorem cf12 : ((Rows.rankPartsRow.named == Try.prog.varsNamed 10)) = true := by kernel_rfl
theorem cf13 : ((Rows.rankPartsRow.maps == (Try.f10.params.toList ++ Rows.rankPartsSpec.plain.varTypes Try.prog).any (Try.prog.mapsRec ·))) = true := by kernel_rfl
theorem cf14 : ((Rows.rankPartsRow.ifaces == (Try.f10.params.toList ++ Rows.rankPartsSpec.plain.varTypes Try.prog).any (Try.prog.ifacesRec ·))) = true := by kernel_rfl
theorem cf15 : ((Rows.rankPartsRow.mapsOut == Try.prog.mapsAmong Try.f10.resultTypes.toList)) = true := by kernel_rfl
theorem cf16 : ((Rows.rankPartsRow.loops == (Try.f10.params.toList ++ Rows.rankPartsSpec.plain.varTypes Try.prog).any (Try.prog.loopsFrom ·))) = true := by kernel_rfl
theorem cf17 : ((Rows.rankPartsRow.wideKeys == (Try.f10.params.toList ++ Rows.rankPartsSpec.plain.varTypes Try.prog ++ Try.f10.resultTypes.toList).any (Try.prog.wideKeysFrom ·))) = true := by kernel_rfl
theorem cf18 : (Rows.rankPartsSpec.vars.all (Try.prog.varReadable ·)) = true := by kernel_rfl
theorem cf19 : (Try.f10.resultTypes.all (fun t => Try.prog.readableRec t && decide (t < Try.prog.types.size))) = true := by kernel_rfl
theorem cf20 : ((Rows.rankPartsRow.ifacesOut == Try.f10.resultTypes.toList.any (Try.prog.ifacesRec ·))) = true := by kernel_rfl
theorem cf21 : ((Rows.rankPartsRow.loopsOut == Try.f10.resultTypes.toList.any (Try.prog.loopsFrom ·))) = true := by kernel_rfl
theorem cf22 : ((Rows.rankPartsRow.plainKeys == Try.prog.plainKeys)) = true := by rw [P.head_plainKeys]; kernel_rfl
theorem cf23 : (Rows.rankPartsRow.shortTexts.isNone) = true := by kernel_rfl
theorem cf24 : (Try.prog.stopsHeard) = true := P.head_stopsHeard
theorem cf25 : (Try.prog.mayEnter) = true := P.head_mayEnter
theorem cf26 : ((Rows.rankPartsRow.lifted == Try.prog.liftsFinal)) = true := by rw [P.head_liftsFinal]; kernel_rfl
theorem cf27 : ((Try.prog.make == some Rows.rankPartsRow.make)) = true := by rw [P.head_make]; kernel_rfl
theorem cf28 : ((Rows.rankPartsRow.kinds == (if Rows.rankPartsRow.domain.isEmpty then [] else Try.f10.params.toList.map fun t => match Try.prog.underlying t with | some (.int k) => some k | _ => none))) = true := by kernel_rfl
theorem cf29 : ((Rows.rankPartsRow.pinned == Rows.rankPartsRow.pinnedBy)) = true := by kernel_rfl
theorem cf30 : ((Rows.rankPartsRow.veiled == (Try.f10.params.toList ++ Rows.rankPartsSpec.plain.varTypes Try.prog ++ Try.f10.resultTypes.toList).any (Try.prog.veiledRec ·))) = true := by kernel_rfl
theorem cf31 : (Rows.rankPartsRow.veiledFits Try.prog Try.f10.params.toList (Try.f10.params.toList ++ Rows.rankPartsSpec.plain.varTypes Try.prog ++ Try.f10.resultTypes.toList)) = true := by kernel_rfl
theorem band_mk {a b : Bool} (h : a = true) (k : b = true) : (a && b) = true := by rw [h, k]; rfl
theorem closed : joinedFacts Try.prog 10 Try.f10 Rows.rankPartsSpec Rows.rankPartsRow = true := by unfold joinedFacts; exact (band_mk (band_mk (band_mk (band_mk (band_mk (band_mk (band_mk (band_mk (band_mk (band_mk (band_mk (band_mk (band_mk (band_mk (band_mk (band_mk (band_mk (band_mk (band_mk (band_mk (band_mk (band_mk (band_mk (band_mk (band_mk (band_mk (band_mk (band_mk (band_mk (band_mk (band_mk cf0 cf1) cf2) cf3) cf4) cf5) cf6) cf7) cf8) cf9) cf10) cf11) cf12) cf13) cf14) cf15) cf16) cf17) cf18) cf19) cf20) cf21) cf22) cf23) cf24) cf25) cf26) cf27) (by kernel_rfl)) cf29) cf30) cf31)
theorem over : Rows.rankPartsRow.holds Try.pinned (OpenSpec.ofChange Rows.rankPartsSpec) :=
  OpenClaim.holds_of_wide 10 Try.f10 rfl rfl rfl rfl rfl rfl rfl ⟨rfl, rfl, rfl, rfl, rfl⟩ rfl rfl rfl rfl rfl (by kernel_rfl) Try.func10 closed
    (of_decide_eq_true (by kernel_rfl)) (by unfold Func.isWrapper; first | (rw [if_pos (by decide +kernel)]; kernel_rfl) | (rw [if_neg (by decide +kernel)]; exact ⟨rfl, rfl⟩))
    (fun os started H enc _ => lifted os started H enc)
theorem proved : Rows.RankPartsSaid := over
#print axioms proved
end Go.Proofs.Ytcabapilejagkaa.rankParts
namespace Go.Proofs.Ytcabapilejagkaa
theorem rankParts_holds : Rows.RankPartsSaid := rankParts.proved
end Go.Proofs.Ytcabapilejagkaa
