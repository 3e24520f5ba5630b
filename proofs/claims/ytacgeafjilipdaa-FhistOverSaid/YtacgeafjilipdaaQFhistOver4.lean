/- FhistOver: the part that this text bears of the proof that the statement answers true for every input. No condition. -/
import Derived.Test.YtacgeafjilipdaaProg
import Derived.Below
import Derived.Deep.Draws
import Derived.Deep.AppendLies
import Derived.Maps.AppendAt
import Derived.OwnWalk
import Derived.Laws.BytesArg
import Derived.Laws.MakeOwn
import Derived.Laws.OwnMore
import Derived.Deep.OwnRows
import Derived.Tactics
import Derived.Lib.ConvBytes
import Derived.Laws.Slices
import Derived.WalkKit
import Derived.KernelRfl
import Derived.RowKit3
import Derived.Deep.LoopGhost
import Derived.Deep.QuietTactic
import Derived.BigQuiet
import Derived.WideLaws
import Derived.Deep.DeepCutAuto
import Derived.Deep.CutBlock
import Derived.Deep.RegionHeld3
import Derived.Laws.Rows
import Derived.Lib.AppendStr
import Derived.ArgAppend
import Derived.Laws.IdiomCopy
import Derived.OrdersHeld
import Derived.Laws.BitsLemmas
import Derived.RowKit
import Derived.Deep.Slices
import Derived.ChangeArms
import Derived.Shelf.Abstract
import Derived.WalkSpells
import Derived.RangeFuncNested
import Derived.RangeFuncBound
import Derived.RangeFuncCalls
import Derived.RangeFuncLeaves
import Derived.RangeFuncBox
import Derived.OwnWalkIn
import Derived.TacticsInMore
import Derived.LoopNIn
import Derived.LoopIn
import Derived.RegionIn
import Derived.Sort.QuietTacIn
import Derived.Deep.RegionWith
import Derived.Laws.BitsAllLaws
import Derived.ChangeKeysEq
import Derived.Great.Frames
import Derived.Laws.Externs
import Derived.ProofKit
import Derived.JoinedOf
import Derived.OpenShut
import Derived.ShutString
import Derived.ChangeOld
import Derived.SizedLaws
import Derived.Test.YtacgeafjilipdaaQFhistOverWWords
import Derived.Test.YtacgeafjilipdaaQFhistOverWLast
import Derived.Test.YtacgeafjilipdaaQFhistOverWTab
import Derived.Test.YtacgeafjilipdaaQFhistOverWFour
import Derived.Test.YtacgeafjilipdaaQFhistOverWQPut
import Derived.Test.YtacgeafjilipdaaQFhistOverWApart
import Derived.Test.YtacgeafjilipdaaQFhistOverWArr
import Derived.Test.YtacgeafjilipdaaQFhistOverWZeros
import Derived.Test.YtacgeafjilipdaaQFhistOverWFoot
import Derived.Test.YtacgeafjilipdaaQFhistOverWKept
import Derived.Test.YtacgeafjilipdaaQFhistOverWShare
import Derived.Test.YtacgeafjilipdaaQFhistOverWN
import Derived.Test.YtacgeafjilipdaaQFhistOverWFootNe
import Derived.Test.YtacgeafjilipdaaQFhistOverWAt
import Derived.Test.YtacgeafjilipdaaQFhistOverWEqStruct
import Derived.Test.YtacgeafjilipdaaQFhistOverWRepsOne
import Derived.Test.YtacgeafjilipdaaQFhistOverWInv
import Derived.Test.YtacgeafjilipdaaQFhistOverWInvWords
import Derived.Test.YtacgeafjilipdaaQFhistOverWGuard
import Derived.Test.YtacgeafjilipdaaQFhistOverWNEv
import Derived.Test.YtacgeafjilipdaaQFhistOverWMore
import Derived.Test.YtacgeafjilipdaaRows
import Derived.Test.YtacgeafjilipdaaQFhistOver0
import Derived.Test.YtacgeafjilipdaaQFhistOver1
import Derived.Test.YtacgeafjilipdaaQFhistOver2
import Derived.Test.YtacgeafjilipdaaQFhistOver3
namespace Go.Proofs.Ytacgeafjilipdaa.P
open Go.RowKit Go.Shelf Go.Proofs.YtacgeafjilipdaaW.PrintWords Go.Proofs.YtacgeafjilipdaaW.PrintLast Go.Proofs.YtacgeafjilipdaaW.PrintMore
set_option linter.unusedVariables false
set_option linter.unusedSimpArgs false
abbrev ontoPu (l : List Pu) (ps : List Int) : List Int × List Pu := onto (fun p : Pu => p.f0) (fun p : Pu => p.f1) l ps
theorem ontoPu_cons (x : Pu) (l : List Pu) (p : Int) (ps : List Int) : ontoPu (x :: l) (p :: ps) = if x.f0 = p then (x.f1 :: (ontoPu l ps).1, (ontoPu l ps).2) else (0 :: (ontoPu (x :: l) ps).1, (ontoPu (x :: l) ps).2) := rfl
theorem ontoPu_nil (p : Int) (ps : List Int) : ontoPu [] (p :: ps) = (0 :: (ontoPu [] ps).1, (ontoPu [] ps).2) := rfl
theorem ontoU_len : ∀ (ps : List Int) (l : List Pu), (ontoPu l ps).1.length = ps.length
  | [], l => by simp [ontoPu, onto]
  | p :: ps, [] => by rw [ontoPu_nil]; simp [ontoU_len ps []]
  | p :: ps, y :: l => by rw [ontoPu_cons]; split <;> simp [ontoU_len ps]
theorem ontoU_some0 : ∀ (ps : List Int) (l : List Pu), some0U (List.zipWith (fun p x => (⟨p, x⟩ : Pu)) ps (ontoPu l ps).1) ++ some0U (ontoPu l ps).2 = some0U l
  | [], l => by simp [ontoPu, onto, some0U]
  | p :: ps, [] => by
    have ih := ontoU_some0 ps []
    rw [ontoPu_nil]
    simp only [List.zipWith_cons_cons]
    have e : some0U ((⟨p, 0⟩ : Pu) :: List.zipWith (fun p x => (⟨p, x⟩ : Pu)) ps (ontoPu [] ps).1) = some0U (List.zipWith (fun p x => (⟨p, x⟩ : Pu)) ps (ontoPu [] ps).1) := by unfold some0U; rw [List.filter_cons]; simp
    rw [e]; exact ih
  | p :: ps, y :: l => by
    rw [ontoPu_cons]
    by_cases c : y.f0 = p
    · have ih := ontoU_some0 ps l
      rw [if_pos c]
      simp only [List.zipWith_cons_cons]
      have ey : (⟨p, y.f1⟩ : Pu) = y := by rw [← c]
      rw [ey]
      have e1 : ∀ t : List Pu, some0U (y :: t) = (if y.f1 = 0 then [] else [y]) ++ some0U t := fun t => by
        unfold some0U; rw [List.filter_cons]
        by_cases d : y.f1 = 0
        · simp [d]
        · simp [d]
      rw [e1, e1, List.append_assoc, ih]
    · have ih := ontoU_some0 ps (y :: l)
      rw [if_neg c]
      simp only [List.zipWith_cons_cons]
      have e : some0U ((⟨p, 0⟩ : Pu) :: List.zipWith (fun p x => (⟨p, x⟩ : Pu)) ps (ontoPu (y :: l) ps).1) = some0U (List.zipWith (fun p x => (⟨p, x⟩ : Pu)) ps (ontoPu (y :: l) ps).1) := by unfold some0U; rw [List.filter_cons]; simp
      rw [e]; exact ih
theorem fSt_onto (l : List Pu) (D : List Int) : ∀ (ps out : List Int) (j k : Nat), D.drop j = ps → out.length = j → k ≤ l.length →
    ((List.range' j ps.length).foldl (fStep l D) (out ++ List.replicate ps.length 0, k)).1 = out ++ (ontoPu (l.drop k) ps).1 ∧ l.drop ((List.range' j ps.length).foldl (fStep l D) (out ++ List.replicate ps.length 0, k)).2 = (ontoPu (l.drop k) ps).2 ∧ ((List.range' j ps.length).foldl (fStep l D) (out ++ List.replicate ps.length 0, k)).2 ≤ l.length
  | [], out, j, k, hD, ho, hk => ⟨by simp [ontoPu, onto], rfl, hk⟩
  | p :: ps, out, j, k, hD, ho, hk => by
    have hj : j < D.length := by
      rcases Nat.lt_or_ge j D.length with h | h
      · exact h
      · rw [List.drop_eq_nil_of_le h] at hD; cases hD
    have hd1 := drop_at hj
    rw [hD] at hd1
    injection hd1 with e1 e2
    have hg : D.getD j 0 = p := by simp [List.getD, hj, ← e1]
    have hset : ∀ v, (out ++ List.replicate (p :: ps).length 0).set j v = (out ++ [v]) ++ List.replicate ps.length 0 := fun v => by
      rw [List.length_cons, List.replicate_succ, List.set_append_right _ _ (by omega), ← ho, Nat.sub_self, List.set_cons_zero, List.append_assoc]; rfl
    have hkeep : out ++ List.replicate (p :: ps).length 0 = (out ++ [0]) ++ List.replicate ps.length 0 := by
      rw [List.length_cons, List.replicate_succ, List.append_assoc]; rfl
    rw [List.length_cons, List.range'_succ, List.foldl_cons]
    rw [← List.length_cons (a := p)]
    by_cases hlt : k < l.length
    · have hgl : l.getD k ⟨0, 0⟩ = l[k] := by simp [List.getD, hlt]
      rw [drop_at hlt, ontoPu_cons]
      by_cases c : l[k].f0 = p
      · have hs : fStep l D (out ++ List.replicate (p :: ps).length 0, k) j = ((out ++ [l[k].f1]) ++ List.replicate ps.length 0, k + 1) := by
          unfold fStep; simp only [hgl, hg]; rw [if_pos ⟨hlt, c⟩, hset]
        obtain ⟨h1, h2, h3⟩ := fSt_onto l D ps (out ++ [l[k].f1]) (j + 1) (k + 1) e2.symm (by simp [ho]) (by omega)
        rw [hs, if_pos c]
        exact ⟨by rw [h1]; simp, h2, h3⟩
      · have hs : fStep l D (out ++ List.replicate (p :: ps).length 0, k) j = ((out ++ [0]) ++ List.replicate ps.length 0, k) := by
          unfold fStep; simp only [hgl, hg]; rw [if_neg (fun h => c h.2), hkeep]
        obtain ⟨h1, h2, h3⟩ := fSt_onto l D ps (out ++ [0]) (j + 1) k e2.symm (by simp [ho]) hk
        rw [drop_at hlt] at h1 h2
        rw [hs, if_neg c]
        exact ⟨by rw [h1]; simp, h2, h3⟩
    · have hd : l.drop k = [] := drop_end (by omega)
      have hs : fStep l D (out ++ List.replicate (p :: ps).length 0, k) j = ((out ++ [0]) ++ List.replicate ps.length 0, k) := by
        unfold fStep; rw [if_neg (fun h => hlt h.1), hkeep]
      obtain ⟨h1, h2, h3⟩ := fSt_onto l D ps (out ++ [0]) (j + 1) k e2.symm (by simp [ho]) hk
      rw [hd] at h1 h2 ⊢
      rw [ontoPu_nil, hs]
      exact ⟨by rw [h1]; simp, h2, h3⟩
theorem fSt_all (l : List Pu) (D : List Int) : (fSt l D (List.range D.length)).1 = (ontoPu l D).1 ∧ l.drop (fSt l D (List.range D.length)).2 = (ontoPu l D).2 ∧ (fSt l D (List.range D.length)).2 ≤ l.length := by
  have := fSt_onto l D D [] 0 0 rfl rfl (Nat.zero_le _)
  rw [List.range_eq_range']
  simpa [fSt] using this
theorem ontoU_right : ∀ (ps : List Int) (l : List Pu), (∀ q ∈ l, rightF q.f1 = true ∧ u64 q.f1) → ∀ x ∈ (ontoPu l ps).1, rightF x = true ∧ u64 x
  | [], l, _, x, hx => by simp [ontoPu, onto] at hx
  | p :: ps, [], h, x, hx => by
    rw [ontoPu_nil] at hx
    rcases List.mem_cons.1 hx with e | hx
    · subst e; exact ⟨by decide, by decide⟩
    · exact ontoU_right ps [] h x hx
  | p :: ps, y :: l, h, x, hx => by
    rw [ontoPu_cons] at hx
    split at hx
    · rcases List.mem_cons.1 hx with e | hx
      · rw [e]; exact h y (List.mem_cons_self ..)
      · exact ontoU_right ps l (fun q hq => h q (List.mem_cons_of_mem _ hq)) x hx
    · rcases List.mem_cons.1 hx with e | hx
      · subst e; exact ⟨by decide, by decide⟩
      · exact ontoU_right ps (y :: l) h x hx
theorem spreadF_flag {l : List Pu} (h : RowOKU l) {on : List Sp} (hk : spCheck on = 0) : (spreadF l on).2 = decide (∀ x ∈ l.map (fun q : Pu => q.f0), x ∈ plN 0 on) := by
  obtain ⟨-, h2, h3⟩ := fSt_all l (plN 0 on)
  unfold spreadF
  rw [decide_eq_decide]
  constructor
  · intro e x hx
    obtain ⟨q, hq, rfl⟩ := List.mem_map.1 hx
    have : (ontoPu l (plN 0 on)).2 = [] := by rw [← h2, e]; exact List.drop_length
    exact onto_left _ _ this q hq
  · intro hall
    have : (ontoPu l (plN 0 on)).2 = [] := by
      have := onto_all (key := fun p : Pu => p.f0) (val := fun p : Pu => p.f1) (plN 0 on) l h.ups (right_places hk) (fun q hq => hall _ (List.mem_map_of_mem hq))
      show (onto _ _ l (plN 0 on)).2 = []
      rw [this]
    rw [this] at h2
    have := congrArg List.length h2
    simp at this
    omega
theorem spreadF_side {l : List Pu} (h : RowOKU l) {on : List Sp} (hk : spCheck on = 0) (hf : (spreadF l on).2 = true) :
    ∃ q : List Pu, sideF on (spreadF l on).1 = (q, 0) ∧ some0U q = some0U l ∧ u64s (spreadF l on).1 ∧ (spreadF l on).1.length ≤ 4096 := by
  obtain ⟨h1, h2, h3⟩ := fSt_all l (plN 0 on)
  have hf' : (fSt l (plN 0 on) (List.range (plN 0 on).length)).2 = l.length := by unfold spreadF at hf; simpa using hf
  have hrest : (ontoPu l (plN 0 on)).2 = [] := by rw [← h2, hf']; exact List.drop_length
  have hd : (spreadF l on).1 = (ontoPu l (plN 0 on)).1 := h1
  have hc := ontoU_right (plN 0 on) l (fun q hq => ⟨h.cnt q hq, (h.wf.1 q hq).2⟩)
  have hlen := ontoU_len (plN 0 on) l
  have hpl := plN_length on 0 (fun s hs => (spRight_pos on _ _ _ (spCheck_zero hk).2 s hs).1)
  have hp4 := places_len hk
  have hs0 := ontoU_some0 (plN 0 on) l
  rw [hrest] at hs0
  have hs0' : some0U (List.zipWith (fun p x => (⟨p, x⟩ : Pu)) (plN 0 on) (ontoPu l (plN 0 on)).1) = some0U l := by rw [← hs0]; simp [some0U]
  refine ⟨_, ?_, hs0', ?_, by rw [hd]; omega⟩
  · unfold sideF
    rw [if_pos hk, hd, if_pos (by omega), if_neg]
    rw [Bool.not_eq_true, List.any_eq_false]
    intro x hx
    rw [(hc x hx).1]; simp
  · rw [hd]; exact fun x hx => (hc x hx).2
theorem overF_right {h : Fh} (hw : wfF h) (hc : checkF h = 0) {pos neg : List Sp} (wp : wfSps pos) (wn : wfSps neg) (kp : spCheck pos = 0) (kn : spCheck neg = 0) (f1 : (spreadF (openF h).1 pos).2 = true) (f2 : (spreadF (openF h).2.1 neg).2 = true) :
    ∃ o : Fh, overF h pos neg = (o, 0) ∧ o.f5 = pos ∧ o.f6 = neg ∧ equalF o h = true ∧ wfF o ∧ sameNumsF o h := by
  obtain ⟨z1, z2, z3⟩ := checkF_zero hc
  have ho := openF_right hc
  have rr := openF_row hw
  obtain ⟨q1, s1, t1, i1, l1⟩ := spreadF_side rr.1 kp f1
  obtain ⟨q2, s2, t2, i2, l2⟩ := spreadF_side rr.2 kn f2
  have hE : overEF h pos neg = 0 := by unfold overEF; rw [if_pos hc, if_pos kp]; exact kn
  have hW : wfF ⟨h.f0, h.f1, h.f2, h.f3, h.f4, pos, neg, (spreadF (openF h).1 pos).1, (spreadF (openF h).2.1 neg).1⟩ :=
    ⟨hw.1, hw.2.1, hw.2.2.1, hw.2.2.2.1, hw.2.2.2.2.1, wp, wn, i1, i2, by simp only; omega, by simp only; omega⟩
  have hO : overF h pos neg = (⟨h.f0, h.f1, h.f2, h.f3, h.f4, pos, neg, (spreadF (openF h).1 pos).1, (spreadF (openF h).2.1 neg).1⟩, 0) := by
    unfold overF
    rw [if_neg (by simp [hE]), f1, f2]; simp
  have hck : checkF ⟨h.f0, h.f1, h.f2, h.f3, h.f4, pos, neg, (spreadF (openF h).1 pos).1, (spreadF (openF h).2.1 neg).1⟩ = 0 := checkF_right z1 (by simp only [s1]) (by simp only [s2])
  refine ⟨_, hO, rfl, rfl, ?_, hW, rfl, rfl, rfl, rfl, rfl⟩
  unfold equalF
  rw [decide_eq_true (show sameNumsF ⟨h.f0, h.f1, h.f2, h.f3, h.f4, pos, neg, (spreadF (openF h).1 pos).1, (spreadF (openF h).2.1 neg).1⟩ h from ⟨rfl, rfl, rfl, rfl, rfl⟩), decide_eq_true hck, decide_eq_true hc, openF_right hck]
  simp only [s1, s2, t1, t2]
  simp
theorem open_placesF {h : Fh} (hc : checkF h = 0) : (openF h).1.map (fun q : Pu => q.f0) = plN 0 h.f5 ∧ (openF h).2.1.map (fun q : Pu => q.f0) = plN 0 h.f6 ∧ spCheck h.f5 = 0 ∧ spCheck h.f6 = 0 := by
  obtain ⟨z1, z2, z3⟩ := checkF_zero hc
  rw [openF_right hc]
  have a := sideF_bounds z2
  have b := sideF_bounds z3
  exact ⟨a.2.2.1, b.2.2.1, a.2.2.2.1, b.2.2.2.1⟩
abbrev mrg (a b : List Int) : List Int := mergeW (fun x : Int => x) (fun x _ => x) a b
theorem refMerge_loop (a b : List Int) (ha : a.length < 4611686018427387904) (hb : b.length < 4611686018427387904) : ∀ (n k i j : Nat) (acc : List Int), (a.length - i) + (b.length - j) ≤ n → 3 * n + 2 < k → i ≤ a.length → j ≤ b.length → acc.length + n < 17592186044416 →
    tidepoleref06_Merge.l0 k a b acc (i : Int) (j : Int) = some (acc ++ mrg (a.drop i) (b.drop j)) := by
  intro n
  induction n with
  | zero =>
    intro k i j acc hn hk hi hj hl
    obtain ⟨k, rfl⟩ : ∃ m, k = m + 2 := ⟨k - 2, by omega⟩
    rw [tidepoleref06_Merge.l0, if_neg (by omega), decide_eq_false (by omega), tidepoleref06_Merge.j1, if_neg (by simp), drop_end (by omega), drop_end (by omega)]
    simp [mrg, mergeW]
  | succ n ih =>
    intro k i j acc hn hk hi hj hl
    obtain ⟨k, rfl⟩ : ∃ m, k = m + 3 := ⟨k - 3, by omega⟩
    have hal : ∀ v : Int, (acc ++ [v]).length = acc.length + 1 := fun v => by simp
    by_cases h1 : i < a.length
    · rw [tidepoleref06_Merge.l0, if_pos (by omega), tidepoleref06_Merge.j1, if_pos rfl]
      by_cases h2 : j < b.length
      · rw [if_neg (by omega), if_pos (by omega), if_pos (by omega), if_pos (by omega), if_pos (by omega), rd_at h1, rd_at h2, tidepoleref06_Merge.j2, drop_at h1, drop_at h2, mrg, mergeW_cons]
        by_cases c1 : a[i] < b[j]
        · rw [if_pos (decide_eq_true c1), if_pos (by omega), if_pos (by omega), if_pos (by omega), rd_at h1, wrap_succ (by omega), ih k (i + 1) j _ (by omega) (by omega) (by omega) hj (by rw [hal]; omega), if_pos c1, drop_at h2]
          simp
        · rw [if_neg (by rw [decide_eq_false c1]; simp), if_neg (by omega), if_pos (by omega), if_pos (by omega), if_pos (by omega), if_pos (by omega), rd_at h1, rd_at h2, if_neg c1]
          by_cases c2 : b[j] < a[i]
          · rw [if_pos c2, if_pos (by omega), wrap_succ (by omega), ih k i (j + 1) _ (by omega) (by omega) hi (by omega) (by rw [hal]; omega), if_pos c2, drop_at h1]
            simp
          · rw [if_neg c2, if_pos (by omega), wrap_succ (by omega), wrap_succ (by omega), if_neg c2, ih k (i + 1) (j + 1) _ (by omega) (by omega) (by omega) (by omega) (by rw [hal]; omega)]
            simp
      · rw [if_pos (by omega), tidepoleref06_Merge.j2, if_pos rfl, if_pos (by omega), if_pos (by omega), if_pos (by omega), rd_at h1, wrap_succ (by omega), ih k (i + 1) j _ (by omega) (by omega) (by omega) hj (by rw [hal]; omega), drop_end (l := b) (by omega), mrg, mergeW_nil_right, mrg, mergeW_nil_right, drop_at h1]
        simp
    · by_cases h2 : j < b.length
      · rw [tidepoleref06_Merge.l0, if_neg (by omega), decide_eq_true (by omega), tidepoleref06_Merge.j1, if_pos rfl, if_neg (by omega), if_neg (by omega), tidepoleref06_Merge.j2, if_neg (by simp), if_pos (by omega), if_pos (by omega), if_pos (by omega), if_pos (by omega), rd_at h2, wrap_succ (by omega), ih k i (j + 1) _ (by omega) (by omega) hi (by omega) (by rw [hal]; omega), drop_end (l := a) (by omega), mrg, mergeW_nil_left, mrg, mergeW_nil_left, drop_at h2]
        simp
      · rw [tidepoleref06_Merge.l0, if_neg (by omega), decide_eq_false (by omega), tidepoleref06_Merge.j1, if_neg (by simp), drop_end (by omega), drop_end (by omega)]
        simp [mrg, mergeW]
theorem mrg_len : ∀ (n : Nat) (a b : List Int), a.length + b.length = n → a.Pairwise (· < ·) → b.Pairwise (· < ·) → (mrg a b).length = b.length + (a.filter (fun x => !b.contains x)).length := by
  intro n
  induction n using Nat.strongRecOn with
  | ind n ih =>
    intro a b hn pa pb
    cases a with
    | nil => rw [mrg, mergeW_nil_left]; simp
    | cons x a =>
      cases b with
      | nil => rw [mrg, mergeW_nil_right, List.filter_eq_self.2 (fun x _ => by simp)]; simp
      | cons y b =>
        rw [mrg, mergeW_cons]
        have pa' := List.pairwise_cons.1 pa
        have pb' := List.pairwise_cons.1 pb
        simp only [List.length_cons] at hn
        by_cases c1 : x < y
        · rw [if_pos c1, List.length_cons, ih (a.length + (y :: b).length) (by simp; omega) a (y :: b) rfl pa'.2 pb, List.filter_cons]
          have : (y :: b).contains x = false := by
            rw [List.contains_eq_mem, decide_eq_false_iff_not]
            intro h
            rcases List.mem_cons.1 h with e | h
            · omega
            · have := pb'.1 x h; omega
          rw [this]; simp; omega
        · rw [if_neg c1]
          have hf : ∀ l : List Int, (∀ z ∈ l, y < z) → l.filter (fun z => !(y :: b).contains z) = l.filter (fun z => !b.contains z) := fun l hl => by
            apply List.filter_congr
            intro z hz
            have := hl z hz
            rw [List.contains_cons, beq_false_of_ne (by omega), Bool.false_or]
          by_cases c2 : y < x
          · rw [if_pos c2, List.length_cons, ih ((x :: a).length + b.length) (by simp; omega) (x :: a) b rfl pa pb'.2, hf (x :: a) (by
              intro z hz
              rcases List.mem_cons.1 hz with e | hz
              · omega
              · have := pa'.1 z hz; omega)]
            simp only [List.length_cons]; omega
          · have e : x = y := by omega
            subst e
            rw [if_neg c2, List.length_cons, ih (a.length + b.length) (by omega) a b rfl pa'.2 pb'.2, List.filter_cons]
            rw [hf a (fun z hz => pa'.1 z hz)]
            simp; omega
theorem refMerge_eq (a b : List Int) (ha : a.length ≤ 4096) (hb : b.length ≤ 4096) (k : Nat) (hk : 30000 < k) : tidepoleref06_Merge.f k a b = some (mrg a b) := by
  have := refMerge_loop a b (by omega) (by omega) (a.length + b.length) k 0 0 [] (by omega) (by omega) (by omega) (by omega) (by simp; omega)
  simpa [tidepoleref06_Merge.f] using this
theorem mrg_within {a b : List Int} (pa : a.Pairwise (· < ·)) (pb : b.Pairwise (· < ·)) : (((mrg a b).length : Int) == (b.length : Int)) = decide (∀ x ∈ a, x ∈ b) := by
  rw [mrg_len _ a b rfl pa pb, Bool.eq_iff_iff, beq_iff_eq, decide_eq_true_eq]
  constructor
  · intro h x hx
    have h0 : (a.filter (fun x => !b.contains x)).length = 0 := by omega
    have h1 := List.eq_nil_of_length_eq_zero h0
    have := (List.filter_eq_nil_iff.1 h1) x hx
    simpa using this
  · intro h
    have h1 : a.filter (fun x => !b.contains x) = [] := by
      rw [List.filter_eq_nil_iff]; intro x hx; simpa using h x hx
    rw [h1]; simp
end Go.Proofs.Ytacgeafjilipdaa.P
namespace Go.Proofs.Ytacgeafjilipdaa.P
open Go.RowKit Go.Shelf Go.Proofs.YtacgeafjilipdaaW.PrintWords Go.Proofs.YtacgeafjilipdaaW.PrintLast Go.Proofs.YtacgeafjilipdaaW.PrintMore
set_option linter.unusedVariables false
set_option linter.unusedSimpArgs false
theorem refSpCheck_c (l : List Sp) (hw : wfSps l) (w : World) (v : Value) (hv : SI kRsp w v (l.map toR)) : Calls Try.prog 46 #[v] w fun e w' => e = .returned (.int .i64 (spCheck l)) ∧ Below w.heap.size w w' := by
  obtain ⟨A, c, rfl, hc, hr⟩ := hv
  exact tidepoleref06_Check.calls 5120001 A c _ _ w hr hc (refCheck_eq l hw _ (by omega))
theorem alike10_eq (l : List Sp) (hm : l.length < 17592186044416) (k : Nat) (hk : l.length < k) : tidepolelaw10_alike.f k l l = some true := by
  unfold tidepolelaw10_alike.f
  rw [if_pos rfl]
  have : ∀ (d k i : Nat), l.length - i = d → d < k → i ≤ l.length → tidepolelaw10_alike.l0 k l l (l.length : Int) (i : Int) = some true := by
    intro d
    induction d with
    | zero =>
      intro k i hd hk hi
      obtain ⟨k, rfl⟩ : ∃ m, k = m + 1 := ⟨k - 1, by omega⟩
      rw [tidepolelaw10_alike.l0, if_neg (by omega)]
    | succ d ih =>
      intro k i hd hk hi
      obtain ⟨k, rfl⟩ : ∃ m, k = m + 1 := ⟨k - 1, by omega⟩
      rw [tidepolelaw10_alike.l0, if_pos (by omega), if_pos (by omega), if_pos (by omega), if_pos (by omega), if_neg (by simp), wrap_succ (by omega)]
      exact ih k (i + 1) (by omega) (by omega) (by omega)
  exact this l.length k 0 (by omega) (by omega) (by omega)
theorem alike10_c (l : List Sp) (hl : l.length ≤ 4096) (w : World) (u v : Value) (hu : SI kSp w u l) (hv : SI kSp w v l) : Calls Try.prog 110 #[u, v] w fun e w' => e = .returned (.bool true) ∧ Below w.heap.size w w' := by
  obtain ⟨A, c, rfl, hcc, hr⟩ := hu
  obtain ⟨A1, c1, rfl, hcc1, hr1⟩ := hv
  exact (tidepolelaw10_alike.calls (l.length + 1) A c l A1 c1 l true w hr hcc hr1 hcc1 (alike10_eq l (by omega) _ (by omega))).mono fun e w1 h => ⟨h.1, h.2.below⟩
theorem within10_eq (l m : List Sp) (hl : l.length ≤ 4096) (hm : m.length ≤ 4096) (kl : spCheck l = 0) (km : spCheck m = 0) (k : Nat) (hk : 5120000 < k) : tidepolelaw10_within.f k l m = some (decide (∀ x ∈ plN 0 l, x ∈ plN 0 m)) := by
  unfold tidepolelaw10_within.f
  rw [spans10_eq m (by omega) _ (by omega), Option.bind_some, refPlaces_eq m km _ (by omega), Option.bind_some, spans10_eq l (by omega) _ (by omega), Option.bind_some, refPlaces_eq l kl _ (by omega), Option.bind_some, refMerge_eq _ _ (places_len kl) (places_len km) _ (by omega), Option.bind_some, mrg_within (right_places kl) (right_places km)]
theorem within10_c (l m : List Sp) (hl : l.length ≤ 4096) (hm : m.length ≤ 4096) (kl : spCheck l = 0) (km : spCheck m = 0) (w : World) (u v : Value) (hu : SI kSp w u l) (hv : SI kSp w v m) : Calls Try.prog 108 #[u, v] w fun e w' => e = .returned (.bool (decide (∀ x ∈ plN 0 l, x ∈ plN 0 m))) ∧ Below w.heap.size w w' := by
  obtain ⟨A, c, rfl, hcc, hr⟩ := hu
  obtain ⟨A1, c1, rfl, hcc1, hr1⟩ := hv
  exact (tidepolelaw10_within.calls 5120001 A c l A1 c1 m _ w hr hcc hr1 hcc1 (within10_eq l m hl hm kl km _ (by omega)))
theorem empty10_x (a5 a6 a7 a8 : Option Addr) (c5 c6 c7 c8 : Nat) (w : World) :
    Calls Try.prog 109 #[.agg #[.int .i64 0, .int .u64 0, .int .u64 0, .int .u64 0, .int .u64 0, .slice a5 0 c5, .slice a6 0 c6, .slice a7 0 c7, .slice a8 0 c8]] w fun e w' => e = .returned (.bool true) ∧ Below w.heap.size w w' := by
  have hu := Try.underlying79
  go_enter Try.func109, Try.ntmps109
  go_wp2
  go_ret
  exact ⟨rfl, below_alloc (Below.refl _ _) _⟩
theorem GF.empty_ {b : Nat} {w : World} {v : Value} (h : GF b w v emptyF) : ∃ A5 c5 A6 c6 A7 c7 A8 c8, v = .agg #[.int .i64 0, .int .u64 0, .int .u64 0, .int .u64 0, .int .u64 0, .slice A5 0 c5, .slice A6 0 c6, .slice A7 0 c7, .slice A8 0 c8] := by
  obtain ⟨A5, c5, A6, c6, A7, c7, A8, c8, e⟩ := h.open_
  exact ⟨A5, c5, A6, c6, A7, c7, A8, c8, e⟩
end Go.Proofs.Ytacgeafjilipdaa.P
namespace Go.Proofs.Ytacgeafjilipdaa.P
open Go.RowKit Go.Shelf Go.Proofs.YtacgeafjilipdaaW.PrintWords Go.Proofs.YtacgeafjilipdaaW.PrintLast Go.Proofs.YtacgeafjilipdaaW.PrintMore
set_option linter.unusedVariables false
set_option linter.unusedSimpArgs false
set_option maxHeartbeats 64000000 in
set_option maxRecDepth 100000 in
theorem fhistOver_a1 (a : Fh) (pos neg : List Sp) (hW : wfF a) (wp : wfSps pos) (wn : wfSps neg) (n5 : a.f5.length ≤ 400) (n6 : a.f6.length ≤ 400) (np : pos.length ≤ 400) (nn : neg.length ≤ 400) (cs : ∀ (w : World) (v : Value), GI w v a → Calls Try.prog 94 #[v] w fun e w' => e = .returned (.bool true) ∧ Below w.heap.size w w') (fp : ∀ (w : World) (v : Value), SI kSp w v pos → Calls Try.prog 105 #[v] w fun e w' => e = .returned (.bool true) ∧ Below w.heap.size w w') (fn : ∀ (w : World) (v : Value), SI kSp w v neg → Calls Try.prog 105 #[v] w fun e w' => e = .returned (.bool true) ∧ Below w.heap.size w w') (hr : checkF a ≠ 0) (w : World) (u : Value) (ap an : Option Addr) (cp cn : Nat) (hua : GI w u a) (hvp : SI kSp w (.slice ap pos.length cp) pos) (hvn : SI kSp w (.slice an neg.length cn) neg) : Calls Try.prog 24 #[u, .slice ap pos.length cp, .slice an neg.length cn] w fun e w' => e = .returned (.bool true) ∧ Below w.heap.size w w' := by
  have hud := Try.underlying79
  have cr := ref10_c a (by omega) (by omega)
  have cq := refCheckF_c a hW
  have cp_ := spans10_c pos (by omega)
  have cn_ := spans10_c neg (by omega)
  have kp := refSpCheck_c pos wp
  have kn := refSpCheck_c neg wn
  have co := fover_c a hW pos neg wp wn
  rw [show overF a pos neg = (emptyF, checkF a) by unfold overF overEF; rw [if_neg hr, if_pos hr]] at co
  generalize checkF a = r at *
  have d : (r != 0) = true := bne_iff_ne.2 hr
  have d2 : (r == 0) = false := beq_eq_false_iff_ne.2 hr
  have CS := Aside0.mk cs
  have FP := Aside0.mk fp
  have FN := Aside0.mk fn
  have CR := Aside0.mk cr
  have CQ := Aside0.mk cq
  have CP := Aside0.mk cp_
  have CN := Aside0.mk cn_
  have KP := Aside0.mk kp
  have KN := Aside0.mk kn
  have CO := Aside0.mk co
  clear cs fp fn cr cq cp_ cn_ kp kn co
  clear hr hW wp wn n5 n6 np nn
  obtain ⟨A5a, c5a, A6a, c6a, A7a, c7a, A8a, c8a, e, k5a, k6a, k7a, k8a⟩ := hua.open_
  subst e
  have B := Aside0.mk (below_alloc (Below.refl w.heap.size w) (.cells #[.int .i64 a.f0, .int .u64 a.f1, .int .u64 a.f2, .int .u64 a.f3, .int .u64 a.f4, .slice A5a a.f5.length c5a, .slice A6a a.f6.length c6a, .slice A7a a.f7.length c7a, .slice A8a a.f8.length c8a] 79))
  have X := Aside0.mk (Blk.new w #[.int .i64 a.f0, .int .u64 a.f1, .int .u64 a.f2, .int .u64 a.f3, .int .u64 a.f4, .slice A5a a.f5.length c5a, .slice A6a a.f6.length c6a, .slice A7a a.f7.length c7a, .slice A8a a.f8.length c8a] 79)
  have hx := fun i => X.out.cell i
  have HA := Aside0.mk (hua.below B.out)
  have K5a := Aside0.mk (k5a.below B.out)
  have K6a := Aside0.mk (k6a.below B.out)
  have K7a := Aside0.mk (k7a.below B.out)
  have K8a := Aside0.mk (k8a.below B.out)
  have HP := Aside0.mk (hvp.below B.out)
  have HN := Aside0.mk (hvn.below B.out)
  clear hua k5a k6a k7a k8a hvp hvn
  go_enter Try.func24, Try.ntmps24
  go_wp2_with (first | (go_at_call 94; (with_reducible refine (CS.out _ _ HA.out).mono ?_); rintro e W1 ⟨rfl, hb⟩; replace B := Aside0.mk (below_then B.out B.out.size hb); replace HA := Aside0.mk (HA.out.below hb); replace HP := Aside0.mk (HP.out.below hb); replace HN := Aside0.mk (HN.out.below hb); replace K5a := Aside0.mk (K5a.out.below hb); replace K6a := Aside0.mk (K6a.out.below hb); replace X := Aside0.mk (X.out.below hb); replace hx := fun i => X.out.cell i; clear  hb) | (go_at_call 105; (with_reducible refine (FP.out _ _ HP.out).mono ?_); rintro e W2 ⟨rfl, hb⟩; replace B := Aside0.mk (below_then B.out B.out.size hb); replace HA := Aside0.mk (HA.out.below hb); replace HP := Aside0.mk (HP.out.below hb); replace HN := Aside0.mk (HN.out.below hb); replace K5a := Aside0.mk (K5a.out.below hb); replace K6a := Aside0.mk (K6a.out.below hb); replace X := Aside0.mk (X.out.below hb); replace hx := fun i => X.out.cell i; clear  hb) | (go_at_call 105; (with_reducible refine (FN.out _ _ HN.out).mono ?_); rintro e W3 ⟨rfl, hb⟩; replace B := Aside0.mk (below_then B.out B.out.size hb); replace HA := Aside0.mk (HA.out.below hb); replace HP := Aside0.mk (HP.out.below hb); replace HN := Aside0.mk (HN.out.below hb); replace K5a := Aside0.mk (K5a.out.below hb); replace K6a := Aside0.mk (K6a.out.below hb); replace X := Aside0.mk (X.out.below hb); replace hx := fun i => X.out.cell i; clear  hb) | (go_at_call 106; (with_reducible refine (CO.out _ _ _ _ HA.out HP.out HN.out).mono ?_); rintro e W4 ⟨ov, rfl, ho, hb⟩; replace B := Aside0.mk (below_then B.out B.out.size hb); replace HA := Aside0.mk (HA.out.below hb); replace HP := Aside0.mk (HP.out.below hb); replace HN := Aside0.mk (HN.out.below hb); replace K5a := Aside0.mk (K5a.out.below hb); replace K6a := Aside0.mk (K6a.out.below hb); replace X := Aside0.mk (X.out.below hb); replace hx := fun i => X.out.cell i; obtain ⟨oA5, oc5, oA6, oc6, oA7, oc7, oA8, oc8, ec⟩ := ho.empty_; clear ho; subst ec; have hxa := fun i => (X.out.alloc (.cells #[.int .i64 0, .int .u64 0, .int .u64 0, .int .u64 0, .int .u64 0, .slice oA5 0 oc5, .slice oA6 0 oc6, .slice oA7 0 oc7, .slice oA8 0 oc8] 79)).cell i; clear hb))
  (try clear hxa)
  have hal := below_alloc (Below.refl W4.heap.size W4) (.cells #[.int .i64 0, .int .u64 0, .int .u64 0, .int .u64 0, .int .u64 0, .slice oA5 0 oc5, .slice oA6 0 oc6, .slice oA7 0 oc7, .slice oA8 0 oc8] 79)
  replace B := Aside0.mk (below_then B.out B.out.size hal)
  replace HA := Aside0.mk (HA.out.below hal)
  replace HP := Aside0.mk (HP.out.below hal)
  replace HN := Aside0.mk (HN.out.below hal)
  replace K5a := Aside0.mk (K5a.out.below hal)
  replace K6a := Aside0.mk (K6a.out.below hal)
  replace X := Aside0.mk (X.out.alloc (.cells #[.int .i64 0, .int .u64 0, .int .u64 0, .int .u64 0, .int .u64 0, .slice oA5 0 oc5, .slice oA6 0 oc6, .slice oA7 0 oc7, .slice oA8 0 oc8] 79)); replace hx := fun i => X.out.cell i
  have T7 := Aside0.mk (Blk.new W4 #[.int .i64 0, .int .u64 0, .int .u64 0, .int .u64 0, .int .u64 0, .slice oA5 0 oc5, .slice oA6 0 oc6, .slice oA7 0 oc7, .slice oA8 0 oc8] 79); have ht7 := fun i => T7.out.cell i; clear hal
  go_wp2_with (first | (go_at_call 97; (with_reducible refine (CR.out _ _ HA.out).mono ?_); rintro e W5 ⟨rv, rfl, hr, hb⟩; replace B := Aside0.mk (below_then B.out B.out.size hb); replace HA := Aside0.mk (HA.out.below hb); replace HP := Aside0.mk (HP.out.below hb); replace HN := Aside0.mk (HN.out.below hb); replace K5a := Aside0.mk (K5a.out.below hb); replace K6a := Aside0.mk (K6a.out.below hb); replace X := Aside0.mk (X.out.below hb); replace hx := fun i => X.out.cell i; replace T7 := Aside0.mk (T7.out.below hb); replace ht7 := fun i => T7.out.cell i; have RV := Aside0.mk hr; clear hr hb) | (go_at_call 63; (with_reducible refine (CQ.out _ _ RV.out).mono ?_); rintro e W6 ⟨rfl, hb⟩; replace B := Aside0.mk (below_then B.out B.out.size hb); replace HA := Aside0.mk (HA.out.below hb); replace HP := Aside0.mk (HP.out.below hb); replace HN := Aside0.mk (HN.out.below hb); replace K5a := Aside0.mk (K5a.out.below hb); replace K6a := Aside0.mk (K6a.out.below hb); replace RV := Aside0.mk (RV.out.below hb); replace X := Aside0.mk (X.out.below hb); replace hx := fun i => X.out.cell i; replace T7 := Aside0.mk (T7.out.below hb); replace ht7 := fun i => T7.out.cell i; clear  hb) | (go_at_call 109; (with_reducible refine (empty10_x _ _ _ _ _ _ _ _ _).mono ?_); rintro e W7 ⟨rfl, hb⟩; replace B := Aside0.mk (below_then B.out B.out.size hb); replace HA := Aside0.mk (HA.out.below hb); replace HP := Aside0.mk (HP.out.below hb); replace HN := Aside0.mk (HN.out.below hb); replace K5a := Aside0.mk (K5a.out.below hb); replace K6a := Aside0.mk (K6a.out.below hb); replace X := Aside0.mk (X.out.below hb); replace hx := fun i => X.out.cell i; replace T7 := Aside0.mk (T7.out.below hb); replace ht7 := fun i => T7.out.cell i; clear  hb) | (go_at_call 95; (with_reducible refine (awake10_c _).mono ?_); rintro e W8 ⟨rfl, hb⟩; replace B := Aside0.mk (below_then B.out B.out.size hb); replace HA := Aside0.mk (HA.out.below hb); replace HP := Aside0.mk (HP.out.below hb); replace HN := Aside0.mk (HN.out.below hb); replace K5a := Aside0.mk (K5a.out.below hb); replace K6a := Aside0.mk (K6a.out.below hb); replace X := Aside0.mk (X.out.below hb); replace hx := fun i => X.out.cell i; replace T7 := Aside0.mk (T7.out.below hb); replace ht7 := fun i => T7.out.cell i; clear  hb))
  go_ret
  exact ⟨rfl, B.out⟩
set_option maxHeartbeats 64000000 in
set_option maxRecDepth 100000 in
theorem fhistOver_b1 (a : Fh) (pos neg : List Sp) (hW : wfF a) (wp : wfSps pos) (wn : wfSps neg) (n5 : a.f5.length ≤ 400) (n6 : a.f6.length ≤ 400) (np : pos.length ≤ 400) (nn : neg.length ≤ 400) (cs : ∀ (w : World) (v : Value), GI w v a → Calls Try.prog 94 #[v] w fun e w' => e = .returned (.bool true) ∧ Below w.heap.size w w') (fp : ∀ (w : World) (v : Value), SI kSp w v pos → Calls Try.prog 105 #[v] w fun e w' => e = .returned (.bool true) ∧ Below w.heap.size w w') (fn : ∀ (w : World) (v : Value), SI kSp w v neg → Calls Try.prog 105 #[v] w fun e w' => e = .returned (.bool true) ∧ Below w.heap.size w w') (hc : checkF a = 0) (hr : spCheck pos ≠ 0) (w : World) (u : Value) (ap an : Option Addr) (cp cn : Nat) (hua : GI w u a) (hvp : SI kSp w (.slice ap pos.length cp) pos) (hvn : SI kSp w (.slice an neg.length cn) neg) : Calls Try.prog 24 #[u, .slice ap pos.length cp, .slice an neg.length cn] w fun e w' => e = .returned (.bool true) ∧ Below w.heap.size w w' := by
  have hud := Try.underlying79
  have cr := ref10_c a (by omega) (by omega)
  have cq := refCheckF_c a hW
  have cp_ := spans10_c pos (by omega)
  have cn_ := spans10_c neg (by omega)
  have kp := refSpCheck_c pos wp
  have kn := refSpCheck_c neg wn
  have co := fover_c a hW pos neg wp wn
  rw [show overF a pos neg = (emptyF, spCheck pos) by unfold overF overEF; rw [if_pos hc, if_neg hr, if_pos hr]] at co
  rw [hc] at cq
  generalize spCheck pos = r at *
  have d : (r != 0) = true := bne_iff_ne.2 hr
  have d2 : (r == 0) = false := beq_eq_false_iff_ne.2 hr
  have CS := Aside0.mk cs
  have FP := Aside0.mk fp
  have FN := Aside0.mk fn
  have CR := Aside0.mk cr
  have CQ := Aside0.mk cq
  have CP := Aside0.mk cp_
  have CN := Aside0.mk cn_
  have KP := Aside0.mk kp
  have KN := Aside0.mk kn
  have CO := Aside0.mk co
  clear cs fp fn cr cq cp_ cn_ kp kn co
  clear hr hW wp wn n5 n6 np nn hc
  obtain ⟨A5a, c5a, A6a, c6a, A7a, c7a, A8a, c8a, e, k5a, k6a, k7a, k8a⟩ := hua.open_
  subst e
  have B := Aside0.mk (below_alloc (Below.refl w.heap.size w) (.cells #[.int .i64 a.f0, .int .u64 a.f1, .int .u64 a.f2, .int .u64 a.f3, .int .u64 a.f4, .slice A5a a.f5.length c5a, .slice A6a a.f6.length c6a, .slice A7a a.f7.length c7a, .slice A8a a.f8.length c8a] 79))
  have X := Aside0.mk (Blk.new w #[.int .i64 a.f0, .int .u64 a.f1, .int .u64 a.f2, .int .u64 a.f3, .int .u64 a.f4, .slice A5a a.f5.length c5a, .slice A6a a.f6.length c6a, .slice A7a a.f7.length c7a, .slice A8a a.f8.length c8a] 79)
  have hx := fun i => X.out.cell i
  have HA := Aside0.mk (hua.below B.out)
  have K5a := Aside0.mk (k5a.below B.out)
  have K6a := Aside0.mk (k6a.below B.out)
  have K7a := Aside0.mk (k7a.below B.out)
  have K8a := Aside0.mk (k8a.below B.out)
  have HP := Aside0.mk (hvp.below B.out)
  have HN := Aside0.mk (hvn.below B.out)
  clear hua k5a k6a k7a k8a hvp hvn
  go_enter Try.func24, Try.ntmps24
  go_wp2_with (first | (go_at_call 94; (with_reducible refine (CS.out _ _ HA.out).mono ?_); rintro e W1 ⟨rfl, hb⟩; replace B := Aside0.mk (below_then B.out B.out.size hb); replace HA := Aside0.mk (HA.out.below hb); replace HP := Aside0.mk (HP.out.below hb); replace HN := Aside0.mk (HN.out.below hb); replace K5a := Aside0.mk (K5a.out.below hb); replace K6a := Aside0.mk (K6a.out.below hb); replace X := Aside0.mk (X.out.below hb); replace hx := fun i => X.out.cell i; clear  hb) | (go_at_call 105; (with_reducible refine (FP.out _ _ HP.out).mono ?_); rintro e W2 ⟨rfl, hb⟩; replace B := Aside0.mk (below_then B.out B.out.size hb); replace HA := Aside0.mk (HA.out.below hb); replace HP := Aside0.mk (HP.out.below hb); replace HN := Aside0.mk (HN.out.below hb); replace K5a := Aside0.mk (K5a.out.below hb); replace K6a := Aside0.mk (K6a.out.below hb); replace X := Aside0.mk (X.out.below hb); replace hx := fun i => X.out.cell i; clear  hb) | (go_at_call 105; (with_reducible refine (FN.out _ _ HN.out).mono ?_); rintro e W3 ⟨rfl, hb⟩; replace B := Aside0.mk (below_then B.out B.out.size hb); replace HA := Aside0.mk (HA.out.below hb); replace HP := Aside0.mk (HP.out.below hb); replace HN := Aside0.mk (HN.out.below hb); replace K5a := Aside0.mk (K5a.out.below hb); replace K6a := Aside0.mk (K6a.out.below hb); replace X := Aside0.mk (X.out.below hb); replace hx := fun i => X.out.cell i; clear  hb) | (go_at_call 106; (with_reducible refine (CO.out _ _ _ _ HA.out HP.out HN.out).mono ?_); rintro e W4 ⟨ov, rfl, ho, hb⟩; replace B := Aside0.mk (below_then B.out B.out.size hb); replace HA := Aside0.mk (HA.out.below hb); replace HP := Aside0.mk (HP.out.below hb); replace HN := Aside0.mk (HN.out.below hb); replace K5a := Aside0.mk (K5a.out.below hb); replace K6a := Aside0.mk (K6a.out.below hb); replace X := Aside0.mk (X.out.below hb); replace hx := fun i => X.out.cell i; obtain ⟨oA5, oc5, oA6, oc6, oA7, oc7, oA8, oc8, ec⟩ := ho.empty_; clear ho; subst ec; have hxa := fun i => (X.out.alloc (.cells #[.int .i64 0, .int .u64 0, .int .u64 0, .int .u64 0, .int .u64 0, .slice oA5 0 oc5, .slice oA6 0 oc6, .slice oA7 0 oc7, .slice oA8 0 oc8] 79)).cell i; clear hb))
  (try clear hxa)
  have hal := below_alloc (Below.refl W4.heap.size W4) (.cells #[.int .i64 0, .int .u64 0, .int .u64 0, .int .u64 0, .int .u64 0, .slice oA5 0 oc5, .slice oA6 0 oc6, .slice oA7 0 oc7, .slice oA8 0 oc8] 79)
  replace B := Aside0.mk (below_then B.out B.out.size hal)
  replace HA := Aside0.mk (HA.out.below hal)
  replace HP := Aside0.mk (HP.out.below hal)
  replace HN := Aside0.mk (HN.out.below hal)
  replace K5a := Aside0.mk (K5a.out.below hal)
  replace K6a := Aside0.mk (K6a.out.below hal)
  replace X := Aside0.mk (X.out.alloc (.cells #[.int .i64 0, .int .u64 0, .int .u64 0, .int .u64 0, .int .u64 0, .slice oA5 0 oc5, .slice oA6 0 oc6, .slice oA7 0 oc7, .slice oA8 0 oc8] 79)); replace hx := fun i => X.out.cell i
  have T7 := Aside0.mk (Blk.new W4 #[.int .i64 0, .int .u64 0, .int .u64 0, .int .u64 0, .int .u64 0, .slice oA5 0 oc5, .slice oA6 0 oc6, .slice oA7 0 oc7, .slice oA8 0 oc8] 79); have ht7 := fun i => T7.out.cell i; clear hal
  go_wp2_with (first | (go_at_call 97; (with_reducible refine (CR.out _ _ HA.out).mono ?_); rintro e W5 ⟨rv, rfl, hr, hb⟩; replace B := Aside0.mk (below_then B.out B.out.size hb); replace HA := Aside0.mk (HA.out.below hb); replace HP := Aside0.mk (HP.out.below hb); replace HN := Aside0.mk (HN.out.below hb); replace K5a := Aside0.mk (K5a.out.below hb); replace K6a := Aside0.mk (K6a.out.below hb); replace X := Aside0.mk (X.out.below hb); replace hx := fun i => X.out.cell i; replace T7 := Aside0.mk (T7.out.below hb); replace ht7 := fun i => T7.out.cell i; have RV := Aside0.mk hr; clear hr hb) | (go_at_call 63; (with_reducible refine (CQ.out _ _ RV.out).mono ?_); rintro e W6 ⟨rfl, hb⟩; replace B := Aside0.mk (below_then B.out B.out.size hb); replace HA := Aside0.mk (HA.out.below hb); replace HP := Aside0.mk (HP.out.below hb); replace HN := Aside0.mk (HN.out.below hb); replace K5a := Aside0.mk (K5a.out.below hb); replace K6a := Aside0.mk (K6a.out.below hb); replace RV := Aside0.mk (RV.out.below hb); replace X := Aside0.mk (X.out.below hb); replace hx := fun i => X.out.cell i; replace T7 := Aside0.mk (T7.out.below hb); replace ht7 := fun i => T7.out.cell i; clear  hb) | (go_at_call 107; (with_reducible refine (CP.out _ _ HP.out).mono ?_); rintro e W7 ⟨sp, rfl, hs, hb⟩; replace B := Aside0.mk (below_then B.out B.out.size hb); replace HA := Aside0.mk (HA.out.below hb); replace HP := Aside0.mk (HP.out.below hb); replace HN := Aside0.mk (HN.out.below hb); replace K5a := Aside0.mk (K5a.out.below hb); replace K6a := Aside0.mk (K6a.out.below hb); replace X := Aside0.mk (X.out.below hb); replace hx := fun i => X.out.cell i; replace T7 := Aside0.mk (T7.out.below hb); replace ht7 := fun i => T7.out.cell i; have SP := Aside0.mk hs; clear hs hb) | (go_at_call 46; (with_reducible refine (KP.out _ _ SP.out).mono ?_); rintro e W8 ⟨rfl, hb⟩; replace B := Aside0.mk (below_then B.out B.out.size hb); replace HA := Aside0.mk (HA.out.below hb); replace HP := Aside0.mk (HP.out.below hb); replace HN := Aside0.mk (HN.out.below hb); replace K5a := Aside0.mk (K5a.out.below hb); replace K6a := Aside0.mk (K6a.out.below hb); replace SP := Aside0.mk (SP.out.below hb); replace X := Aside0.mk (X.out.below hb); replace hx := fun i => X.out.cell i; replace T7 := Aside0.mk (T7.out.below hb); replace ht7 := fun i => T7.out.cell i; clear  hb) | (go_at_call 109; (with_reducible refine (empty10_x _ _ _ _ _ _ _ _ _).mono ?_); rintro e W9 ⟨rfl, hb⟩; replace B := Aside0.mk (below_then B.out B.out.size hb); replace HA := Aside0.mk (HA.out.below hb); replace HP := Aside0.mk (HP.out.below hb); replace HN := Aside0.mk (HN.out.below hb); replace K5a := Aside0.mk (K5a.out.below hb); replace K6a := Aside0.mk (K6a.out.below hb); replace SP := Aside0.mk (SP.out.below hb); replace X := Aside0.mk (X.out.below hb); replace hx := fun i => X.out.cell i; replace T7 := Aside0.mk (T7.out.below hb); replace ht7 := fun i => T7.out.cell i; clear  hb) | (go_at_call 95; (with_reducible refine (awake10_c _).mono ?_); rintro e W10 ⟨rfl, hb⟩; replace B := Aside0.mk (below_then B.out B.out.size hb); replace HA := Aside0.mk (HA.out.below hb); replace HP := Aside0.mk (HP.out.below hb); replace HN := Aside0.mk (HN.out.below hb); replace K5a := Aside0.mk (K5a.out.below hb); replace K6a := Aside0.mk (K6a.out.below hb); replace SP := Aside0.mk (SP.out.below hb); replace X := Aside0.mk (X.out.below hb); replace hx := fun i => X.out.cell i; replace T7 := Aside0.mk (T7.out.below hb); replace ht7 := fun i => T7.out.cell i; clear  hb))
  go_ret
  exact ⟨rfl, B.out⟩
set_option maxHeartbeats 64000000 in
set_option maxRecDepth 100000 in
theorem fhistOver_c1 (a : Fh) (pos neg : List Sp) (hW : wfF a) (wp : wfSps pos) (wn : wfSps neg) (n5 : a.f5.length ≤ 400) (n6 : a.f6.length ≤ 400) (np : pos.length ≤ 400) (nn : neg.length ≤ 400) (cs : ∀ (w : World) (v : Value), GI w v a → Calls Try.prog 94 #[v] w fun e w' => e = .returned (.bool true) ∧ Below w.heap.size w w') (fp : ∀ (w : World) (v : Value), SI kSp w v pos → Calls Try.prog 105 #[v] w fun e w' => e = .returned (.bool true) ∧ Below w.heap.size w w') (fn : ∀ (w : World) (v : Value), SI kSp w v neg → Calls Try.prog 105 #[v] w fun e w' => e = .returned (.bool true) ∧ Below w.heap.size w w') (hc : checkF a = 0) (hp : spCheck pos = 0) (hr : spCheck neg ≠ 0) (w : World) (u : Value) (ap an : Option Addr) (cp cn : Nat) (hua : GI w u a) (hvp : SI kSp w (.slice ap pos.length cp) pos) (hvn : SI kSp w (.slice an neg.length cn) neg) : Calls Try.prog 24 #[u, .slice ap pos.length cp, .slice an neg.length cn] w fun e w' => e = .returned (.bool true) ∧ Below w.heap.size w w' := by
  have hud := Try.underlying79
  have cr := ref10_c a (by omega) (by omega)
  have cq := refCheckF_c a hW
  have cp_ := spans10_c pos (by omega)
  have cn_ := spans10_c neg (by omega)
  have kp := refSpCheck_c pos wp
  have kn := refSpCheck_c neg wn
  have co := fover_c a hW pos neg wp wn
  rw [show overF a pos neg = (emptyF, spCheck neg) by unfold overF overEF; rw [if_pos hc, if_pos hp, if_pos hr]] at co
  rw [hc] at cq
  rw [hp] at kp
  generalize spCheck neg = r at *
  have d : (r != 0) = true := bne_iff_ne.2 hr
  have d2 : (r == 0) = false := beq_eq_false_iff_ne.2 hr
  have CS := Aside0.mk cs
  have FP := Aside0.mk fp
  have FN := Aside0.mk fn
  have CR := Aside0.mk cr
  have CQ := Aside0.mk cq
  have CP := Aside0.mk cp_
  have CN := Aside0.mk cn_
  have KP := Aside0.mk kp
  have KN := Aside0.mk kn
  have CO := Aside0.mk co
  clear cs fp fn cr cq cp_ cn_ kp kn co
  clear hr hW wp wn n5 n6 np nn hc hp
  obtain ⟨A5a, c5a, A6a, c6a, A7a, c7a, A8a, c8a, e, k5a, k6a, k7a, k8a⟩ := hua.open_
  subst e
  have B := Aside0.mk (below_alloc (Below.refl w.heap.size w) (.cells #[.int .i64 a.f0, .int .u64 a.f1, .int .u64 a.f2, .int .u64 a.f3, .int .u64 a.f4, .slice A5a a.f5.length c5a, .slice A6a a.f6.length c6a, .slice A7a a.f7.length c7a, .slice A8a a.f8.length c8a] 79))
  have X := Aside0.mk (Blk.new w #[.int .i64 a.f0, .int .u64 a.f1, .int .u64 a.f2, .int .u64 a.f3, .int .u64 a.f4, .slice A5a a.f5.length c5a, .slice A6a a.f6.length c6a, .slice A7a a.f7.length c7a, .slice A8a a.f8.length c8a] 79)
  have hx := fun i => X.out.cell i
  have HA := Aside0.mk (hua.below B.out)
  have K5a := Aside0.mk (k5a.below B.out)
  have K6a := Aside0.mk (k6a.below B.out)
  have K7a := Aside0.mk (k7a.below B.out)
  have K8a := Aside0.mk (k8a.below B.out)
  have HP := Aside0.mk (hvp.below B.out)
  have HN := Aside0.mk (hvn.below B.out)
  clear hua k5a k6a k7a k8a hvp hvn
  go_enter Try.func24, Try.ntmps24
  go_wp2_with (first | (go_at_call 94; (with_reducible refine (CS.out _ _ HA.out).mono ?_); rintro e W1 ⟨rfl, hb⟩; replace B := Aside0.mk (below_then B.out B.out.size hb); replace HA := Aside0.mk (HA.out.below hb); replace HP := Aside0.mk (HP.out.below hb); replace HN := Aside0.mk (HN.out.below hb); replace K5a := Aside0.mk (K5a.out.below hb); replace K6a := Aside0.mk (K6a.out.below hb); replace X := Aside0.mk (X.out.below hb); replace hx := fun i => X.out.cell i; clear  hb) | (go_at_call 105; (with_reducible refine (FP.out _ _ HP.out).mono ?_); rintro e W2 ⟨rfl, hb⟩; replace B := Aside0.mk (below_then B.out B.out.size hb); replace HA := Aside0.mk (HA.out.below hb); replace HP := Aside0.mk (HP.out.below hb); replace HN := Aside0.mk (HN.out.below hb); replace K5a := Aside0.mk (K5a.out.below hb); replace K6a := Aside0.mk (K6a.out.below hb); replace X := Aside0.mk (X.out.below hb); replace hx := fun i => X.out.cell i; clear  hb) | (go_at_call 105; (with_reducible refine (FN.out _ _ HN.out).mono ?_); rintro e W3 ⟨rfl, hb⟩; replace B := Aside0.mk (below_then B.out B.out.size hb); replace HA := Aside0.mk (HA.out.below hb); replace HP := Aside0.mk (HP.out.below hb); replace HN := Aside0.mk (HN.out.below hb); replace K5a := Aside0.mk (K5a.out.below hb); replace K6a := Aside0.mk (K6a.out.below hb); replace X := Aside0.mk (X.out.below hb); replace hx := fun i => X.out.cell i; clear  hb) | (go_at_call 106; (with_reducible refine (CO.out _ _ _ _ HA.out HP.out HN.out).mono ?_); rintro e W4 ⟨ov, rfl, ho, hb⟩; replace B := Aside0.mk (below_then B.out B.out.size hb); replace HA := Aside0.mk (HA.out.below hb); replace HP := Aside0.mk (HP.out.below hb); replace HN := Aside0.mk (HN.out.below hb); replace K5a := Aside0.mk (K5a.out.below hb); replace K6a := Aside0.mk (K6a.out.below hb); replace X := Aside0.mk (X.out.below hb); replace hx := fun i => X.out.cell i; obtain ⟨oA5, oc5, oA6, oc6, oA7, oc7, oA8, oc8, ec⟩ := ho.empty_; clear ho; subst ec; have hxa := fun i => (X.out.alloc (.cells #[.int .i64 0, .int .u64 0, .int .u64 0, .int .u64 0, .int .u64 0, .slice oA5 0 oc5, .slice oA6 0 oc6, .slice oA7 0 oc7, .slice oA8 0 oc8] 79)).cell i; clear hb))
  (try clear hxa)
  have hal := below_alloc (Below.refl W4.heap.size W4) (.cells #[.int .i64 0, .int .u64 0, .int .u64 0, .int .u64 0, .int .u64 0, .slice oA5 0 oc5, .slice oA6 0 oc6, .slice oA7 0 oc7, .slice oA8 0 oc8] 79)
  replace B := Aside0.mk (below_then B.out B.out.size hal)
  replace HA := Aside0.mk (HA.out.below hal)
  replace HP := Aside0.mk (HP.out.below hal)
  replace HN := Aside0.mk (HN.out.below hal)
  replace K5a := Aside0.mk (K5a.out.below hal)
  replace K6a := Aside0.mk (K6a.out.below hal)
  replace X := Aside0.mk (X.out.alloc (.cells #[.int .i64 0, .int .u64 0, .int .u64 0, .int .u64 0, .int .u64 0, .slice oA5 0 oc5, .slice oA6 0 oc6, .slice oA7 0 oc7, .slice oA8 0 oc8] 79)); replace hx := fun i => X.out.cell i
  have T7 := Aside0.mk (Blk.new W4 #[.int .i64 0, .int .u64 0, .int .u64 0, .int .u64 0, .int .u64 0, .slice oA5 0 oc5, .slice oA6 0 oc6, .slice oA7 0 oc7, .slice oA8 0 oc8] 79); have ht7 := fun i => T7.out.cell i; clear hal
  go_wp2_with (first | (go_at_call 97; (with_reducible refine (CR.out _ _ HA.out).mono ?_); rintro e W5 ⟨rv, rfl, hr, hb⟩; replace B := Aside0.mk (below_then B.out B.out.size hb); replace HA := Aside0.mk (HA.out.below hb); replace HP := Aside0.mk (HP.out.below hb); replace HN := Aside0.mk (HN.out.below hb); replace K5a := Aside0.mk (K5a.out.below hb); replace K6a := Aside0.mk (K6a.out.below hb); replace X := Aside0.mk (X.out.below hb); replace hx := fun i => X.out.cell i; replace T7 := Aside0.mk (T7.out.below hb); replace ht7 := fun i => T7.out.cell i; have RV := Aside0.mk hr; clear hr hb) | (go_at_call 63; (with_reducible refine (CQ.out _ _ RV.out).mono ?_); rintro e W6 ⟨rfl, hb⟩; replace B := Aside0.mk (below_then B.out B.out.size hb); replace HA := Aside0.mk (HA.out.below hb); replace HP := Aside0.mk (HP.out.below hb); replace HN := Aside0.mk (HN.out.below hb); replace K5a := Aside0.mk (K5a.out.below hb); replace K6a := Aside0.mk (K6a.out.below hb); replace RV := Aside0.mk (RV.out.below hb); replace X := Aside0.mk (X.out.below hb); replace hx := fun i => X.out.cell i; replace T7 := Aside0.mk (T7.out.below hb); replace ht7 := fun i => T7.out.cell i; clear  hb) | (go_at_call 107; (with_reducible refine (CP.out _ _ HP.out).mono ?_); rintro e W7 ⟨sp, rfl, hs, hb⟩; replace B := Aside0.mk (below_then B.out B.out.size hb); replace HA := Aside0.mk (HA.out.below hb); replace HP := Aside0.mk (HP.out.below hb); replace HN := Aside0.mk (HN.out.below hb); replace K5a := Aside0.mk (K5a.out.below hb); replace K6a := Aside0.mk (K6a.out.below hb); replace X := Aside0.mk (X.out.below hb); replace hx := fun i => X.out.cell i; replace T7 := Aside0.mk (T7.out.below hb); replace ht7 := fun i => T7.out.cell i; have SP := Aside0.mk hs; clear hs hb) | (go_at_call 46; (with_reducible refine (KP.out _ _ SP.out).mono ?_); rintro e W8 ⟨rfl, hb⟩; replace B := Aside0.mk (below_then B.out B.out.size hb); replace HA := Aside0.mk (HA.out.below hb); replace HP := Aside0.mk (HP.out.below hb); replace HN := Aside0.mk (HN.out.below hb); replace K5a := Aside0.mk (K5a.out.below hb); replace K6a := Aside0.mk (K6a.out.below hb); replace SP := Aside0.mk (SP.out.below hb); replace X := Aside0.mk (X.out.below hb); replace hx := fun i => X.out.cell i; replace T7 := Aside0.mk (T7.out.below hb); replace ht7 := fun i => T7.out.cell i; clear  hb) | (go_at_call 107; (with_reducible refine (CN.out _ _ HN.out).mono ?_); rintro e W9 ⟨sn, rfl, hs, hb⟩; replace B := Aside0.mk (below_then B.out B.out.size hb); replace HA := Aside0.mk (HA.out.below hb); replace HP := Aside0.mk (HP.out.below hb); replace HN := Aside0.mk (HN.out.below hb); replace K5a := Aside0.mk (K5a.out.below hb); replace K6a := Aside0.mk (K6a.out.below hb); replace X := Aside0.mk (X.out.below hb); replace hx := fun i => X.out.cell i; replace T7 := Aside0.mk (T7.out.below hb); replace ht7 := fun i => T7.out.cell i; have SN := Aside0.mk hs; clear hs hb) | (go_at_call 46; (with_reducible refine (KN.out _ _ SN.out).mono ?_); rintro e W10 ⟨rfl, hb⟩; replace B := Aside0.mk (below_then B.out B.out.size hb); replace HA := Aside0.mk (HA.out.below hb); replace HP := Aside0.mk (HP.out.below hb); replace HN := Aside0.mk (HN.out.below hb); replace K5a := Aside0.mk (K5a.out.below hb); replace K6a := Aside0.mk (K6a.out.below hb); replace SN := Aside0.mk (SN.out.below hb); replace X := Aside0.mk (X.out.below hb); replace hx := fun i => X.out.cell i; replace T7 := Aside0.mk (T7.out.below hb); replace ht7 := fun i => T7.out.cell i; clear  hb) | (go_at_call 109; (with_reducible refine (empty10_x _ _ _ _ _ _ _ _ _).mono ?_); rintro e W11 ⟨rfl, hb⟩; replace B := Aside0.mk (below_then B.out B.out.size hb); replace HA := Aside0.mk (HA.out.below hb); replace HP := Aside0.mk (HP.out.below hb); replace HN := Aside0.mk (HN.out.below hb); replace K5a := Aside0.mk (K5a.out.below hb); replace K6a := Aside0.mk (K6a.out.below hb); replace SN := Aside0.mk (SN.out.below hb); replace X := Aside0.mk (X.out.below hb); replace hx := fun i => X.out.cell i; replace T7 := Aside0.mk (T7.out.below hb); replace ht7 := fun i => T7.out.cell i; clear  hb) | (go_at_call 95; (with_reducible refine (awake10_c _).mono ?_); rintro e W12 ⟨rfl, hb⟩; replace B := Aside0.mk (below_then B.out B.out.size hb); replace HA := Aside0.mk (HA.out.below hb); replace HP := Aside0.mk (HP.out.below hb); replace HN := Aside0.mk (HN.out.below hb); replace K5a := Aside0.mk (K5a.out.below hb); replace K6a := Aside0.mk (K6a.out.below hb); replace SN := Aside0.mk (SN.out.below hb); replace X := Aside0.mk (X.out.below hb); replace hx := fun i => X.out.cell i; replace T7 := Aside0.mk (T7.out.below hb); replace ht7 := fun i => T7.out.cell i; clear  hb))
  go_ret
  exact ⟨rfl, B.out⟩
set_option maxHeartbeats 64000000 in
set_option maxRecDepth 100000 in
theorem fhistOver_d1 (a : Fh) (pos neg : List Sp) (hW : wfF a) (wp : wfSps pos) (wn : wfSps neg) (n5 : a.f5.length ≤ 400) (n6 : a.f6.length ≤ 400) (np : pos.length ≤ 400) (nn : neg.length ≤ 400) (cs : ∀ (w : World) (v : Value), GI w v a → Calls Try.prog 94 #[v] w fun e w' => e = .returned (.bool true) ∧ Below w.heap.size w w') (fp : ∀ (w : World) (v : Value), SI kSp w v pos → Calls Try.prog 105 #[v] w fun e w' => e = .returned (.bool true) ∧ Below w.heap.size w w') (fn : ∀ (w : World) (v : Value), SI kSp w v neg → Calls Try.prog 105 #[v] w fun e w' => e = .returned (.bool true) ∧ Below w.heap.size w w') (hc : checkF a = 0) (hp : spCheck pos = 0) (hn : spCheck neg = 0) (f1 : (spreadF (openF a).1 pos).2 = false) (w : World) (u : Value) (ap an : Option Addr) (cp cn : Nat) (hua : GI w u a) (hvp : SI kSp w (.slice ap pos.length cp) pos) (hvn : SI kSp w (.slice an neg.length cn) neg) : Calls Try.prog 24 #[u, .slice ap pos.length cp, .slice an neg.length cn] w fun e w' => e = .returned (.bool true) ∧ Below w.heap.size w w' := by
  have hud := Try.underlying79
  have cr := ref10_c a (by omega) (by omega)
  have cq := refCheckF_c a hW
  have cp_ := spans10_c pos (by omega)
  have cn_ := spans10_c neg (by omega)
  have kp := refSpCheck_c pos wp
  have kn := refSpCheck_c neg wn
  have co := fover_c a hW pos neg wp wn
  rw [hc] at cq
  rw [hp] at kp
  rw [hn] at kn
  obtain ⟨y1, y2, k5, k6⟩ := open_placesF hc
  have rr := openF_row hW
  have e1 := spreadF_flag rr.1 hp
  have e2 := spreadF_flag rr.2 hn
  rw [y1] at e1
  rw [y2] at e2
  have w5 := within10_c a.f5 pos (by omega) (by omega) k5 hp
  have w6 := within10_c a.f6 neg (by omega) (by omega) k6 hn
  rw [← e1] at w5
  rw [← e2] at w6
  rw [show overF a pos neg = (emptyF, 23) by unfold overF overEF; rw [if_pos hc, if_pos hp, if_neg (by simp [hn]), f1]; simp] at co
  rw [f1] at w5
  have CS := Aside0.mk cs
  have FP := Aside0.mk fp
  have FN := Aside0.mk fn
  have CR := Aside0.mk cr
  have CQ := Aside0.mk cq
  have CP := Aside0.mk cp_
  have CN := Aside0.mk cn_
  have KP := Aside0.mk kp
  have KN := Aside0.mk kn
  have CO := Aside0.mk co
  clear cs fp fn cr cq cp_ cn_ kp kn co
  have IN5 := Aside0.mk w5
  have IN6 := Aside0.mk w6
  clear w5 w6
  clear e1 e2 f1 hc hp hn hW wp wn n5 n6 np nn y1 y2 k5 k6 rr
  obtain ⟨A5a, c5a, A6a, c6a, A7a, c7a, A8a, c8a, e, k5a, k6a, k7a, k8a⟩ := hua.open_
  subst e
  have B := Aside0.mk (below_alloc (Below.refl w.heap.size w) (.cells #[.int .i64 a.f0, .int .u64 a.f1, .int .u64 a.f2, .int .u64 a.f3, .int .u64 a.f4, .slice A5a a.f5.length c5a, .slice A6a a.f6.length c6a, .slice A7a a.f7.length c7a, .slice A8a a.f8.length c8a] 79))
  have X := Aside0.mk (Blk.new w #[.int .i64 a.f0, .int .u64 a.f1, .int .u64 a.f2, .int .u64 a.f3, .int .u64 a.f4, .slice A5a a.f5.length c5a, .slice A6a a.f6.length c6a, .slice A7a a.f7.length c7a, .slice A8a a.f8.length c8a] 79)
  have hx := fun i => X.out.cell i
  have HA := Aside0.mk (hua.below B.out)
  have K5a := Aside0.mk (k5a.below B.out)
  have K6a := Aside0.mk (k6a.below B.out)
  have K7a := Aside0.mk (k7a.below B.out)
  have K8a := Aside0.mk (k8a.below B.out)
  have HP := Aside0.mk (hvp.below B.out)
  have HN := Aside0.mk (hvn.below B.out)
  clear hua k5a k6a k7a k8a hvp hvn
  go_enter Try.func24, Try.ntmps24
  go_wp2_with (first | (go_at_call 94; (with_reducible refine (CS.out _ _ HA.out).mono ?_); rintro e W1 ⟨rfl, hb⟩; replace B := Aside0.mk (below_then B.out B.out.size hb); replace HA := Aside0.mk (HA.out.below hb); replace HP := Aside0.mk (HP.out.below hb); replace HN := Aside0.mk (HN.out.below hb); replace K5a := Aside0.mk (K5a.out.below hb); replace K6a := Aside0.mk (K6a.out.below hb); replace X := Aside0.mk (X.out.below hb); replace hx := fun i => X.out.cell i; clear  hb) | (go_at_call 105; (with_reducible refine (FP.out _ _ HP.out).mono ?_); rintro e W2 ⟨rfl, hb⟩; replace B := Aside0.mk (below_then B.out B.out.size hb); replace HA := Aside0.mk (HA.out.below hb); replace HP := Aside0.mk (HP.out.below hb); replace HN := Aside0.mk (HN.out.below hb); replace K5a := Aside0.mk (K5a.out.below hb); replace K6a := Aside0.mk (K6a.out.below hb); replace X := Aside0.mk (X.out.below hb); replace hx := fun i => X.out.cell i; clear  hb) | (go_at_call 105; (with_reducible refine (FN.out _ _ HN.out).mono ?_); rintro e W3 ⟨rfl, hb⟩; replace B := Aside0.mk (below_then B.out B.out.size hb); replace HA := Aside0.mk (HA.out.below hb); replace HP := Aside0.mk (HP.out.below hb); replace HN := Aside0.mk (HN.out.below hb); replace K5a := Aside0.mk (K5a.out.below hb); replace K6a := Aside0.mk (K6a.out.below hb); replace X := Aside0.mk (X.out.below hb); replace hx := fun i => X.out.cell i; clear  hb) | (go_at_call 106; (with_reducible refine (CO.out _ _ _ _ HA.out HP.out HN.out).mono ?_); rintro e W4 ⟨ov, rfl, ho, hb⟩; replace B := Aside0.mk (below_then B.out B.out.size hb); replace HA := Aside0.mk (HA.out.below hb); replace HP := Aside0.mk (HP.out.below hb); replace HN := Aside0.mk (HN.out.below hb); replace K5a := Aside0.mk (K5a.out.below hb); replace K6a := Aside0.mk (K6a.out.below hb); replace X := Aside0.mk (X.out.below hb); replace hx := fun i => X.out.cell i; obtain ⟨oA5, oc5, oA6, oc6, oA7, oc7, oA8, oc8, ec⟩ := ho.empty_; clear ho; subst ec; have hxa := fun i => (X.out.alloc (.cells #[.int .i64 0, .int .u64 0, .int .u64 0, .int .u64 0, .int .u64 0, .slice oA5 0 oc5, .slice oA6 0 oc6, .slice oA7 0 oc7, .slice oA8 0 oc8] 79)).cell i; clear hb))
  (try clear hxa)
  have hal := below_alloc (Below.refl W4.heap.size W4) (.cells #[.int .i64 0, .int .u64 0, .int .u64 0, .int .u64 0, .int .u64 0, .slice oA5 0 oc5, .slice oA6 0 oc6, .slice oA7 0 oc7, .slice oA8 0 oc8] 79)
  replace B := Aside0.mk (below_then B.out B.out.size hal)
  replace HA := Aside0.mk (HA.out.below hal)
  replace HP := Aside0.mk (HP.out.below hal)
  replace HN := Aside0.mk (HN.out.below hal)
  replace K5a := Aside0.mk (K5a.out.below hal)
  replace K6a := Aside0.mk (K6a.out.below hal)
  replace X := Aside0.mk (X.out.alloc (.cells #[.int .i64 0, .int .u64 0, .int .u64 0, .int .u64 0, .int .u64 0, .slice oA5 0 oc5, .slice oA6 0 oc6, .slice oA7 0 oc7, .slice oA8 0 oc8] 79)); replace hx := fun i => X.out.cell i
  have T7 := Aside0.mk (Blk.new W4 #[.int .i64 0, .int .u64 0, .int .u64 0, .int .u64 0, .int .u64 0, .slice oA5 0 oc5, .slice oA6 0 oc6, .slice oA7 0 oc7, .slice oA8 0 oc8] 79); have ht7 := fun i => T7.out.cell i; clear hal
  go_wp2_with (first | (go_at_call 97; (with_reducible refine (CR.out _ _ HA.out).mono ?_); rintro e W5 ⟨rv, rfl, hr, hb⟩; replace B := Aside0.mk (below_then B.out B.out.size hb); replace HA := Aside0.mk (HA.out.below hb); replace HP := Aside0.mk (HP.out.below hb); replace HN := Aside0.mk (HN.out.below hb); replace K5a := Aside0.mk (K5a.out.below hb); replace K6a := Aside0.mk (K6a.out.below hb); replace X := Aside0.mk (X.out.below hb); replace hx := fun i => X.out.cell i; replace T7 := Aside0.mk (T7.out.below hb); replace ht7 := fun i => T7.out.cell i; have RV := Aside0.mk hr; clear hr hb) | (go_at_call 63; (with_reducible refine (CQ.out _ _ RV.out).mono ?_); rintro e W6 ⟨rfl, hb⟩; replace B := Aside0.mk (below_then B.out B.out.size hb); replace HA := Aside0.mk (HA.out.below hb); replace HP := Aside0.mk (HP.out.below hb); replace HN := Aside0.mk (HN.out.below hb); replace K5a := Aside0.mk (K5a.out.below hb); replace K6a := Aside0.mk (K6a.out.below hb); replace RV := Aside0.mk (RV.out.below hb); replace X := Aside0.mk (X.out.below hb); replace hx := fun i => X.out.cell i; replace T7 := Aside0.mk (T7.out.below hb); replace ht7 := fun i => T7.out.cell i; clear  hb) | (go_at_call 107; (with_reducible refine (CP.out _ _ HP.out).mono ?_); rintro e W7 ⟨sp, rfl, hs, hb⟩; replace B := Aside0.mk (below_then B.out B.out.size hb); replace HA := Aside0.mk (HA.out.below hb); replace HP := Aside0.mk (HP.out.below hb); replace HN := Aside0.mk (HN.out.below hb); replace K5a := Aside0.mk (K5a.out.below hb); replace K6a := Aside0.mk (K6a.out.below hb); replace X := Aside0.mk (X.out.below hb); replace hx := fun i => X.out.cell i; replace T7 := Aside0.mk (T7.out.below hb); replace ht7 := fun i => T7.out.cell i; have SP := Aside0.mk hs; clear hs hb) | (go_at_call 46; (with_reducible refine (KP.out _ _ SP.out).mono ?_); rintro e W8 ⟨rfl, hb⟩; replace B := Aside0.mk (below_then B.out B.out.size hb); replace HA := Aside0.mk (HA.out.below hb); replace HP := Aside0.mk (HP.out.below hb); replace HN := Aside0.mk (HN.out.below hb); replace K5a := Aside0.mk (K5a.out.below hb); replace K6a := Aside0.mk (K6a.out.below hb); replace SP := Aside0.mk (SP.out.below hb); replace X := Aside0.mk (X.out.below hb); replace hx := fun i => X.out.cell i; replace T7 := Aside0.mk (T7.out.below hb); replace ht7 := fun i => T7.out.cell i; clear  hb) | (go_at_call 107; (with_reducible refine (CN.out _ _ HN.out).mono ?_); rintro e W9 ⟨sn, rfl, hs, hb⟩; replace B := Aside0.mk (below_then B.out B.out.size hb); replace HA := Aside0.mk (HA.out.below hb); replace HP := Aside0.mk (HP.out.below hb); replace HN := Aside0.mk (HN.out.below hb); replace K5a := Aside0.mk (K5a.out.below hb); replace K6a := Aside0.mk (K6a.out.below hb); replace X := Aside0.mk (X.out.below hb); replace hx := fun i => X.out.cell i; replace T7 := Aside0.mk (T7.out.below hb); replace ht7 := fun i => T7.out.cell i; have SN := Aside0.mk hs; clear hs hb) | (go_at_call 46; (with_reducible refine (KN.out _ _ SN.out).mono ?_); rintro e W10 ⟨rfl, hb⟩; replace B := Aside0.mk (below_then B.out B.out.size hb); replace HA := Aside0.mk (HA.out.below hb); replace HP := Aside0.mk (HP.out.below hb); replace HN := Aside0.mk (HN.out.below hb); replace K5a := Aside0.mk (K5a.out.below hb); replace K6a := Aside0.mk (K6a.out.below hb); replace SN := Aside0.mk (SN.out.below hb); replace X := Aside0.mk (X.out.below hb); replace hx := fun i => X.out.cell i; replace T7 := Aside0.mk (T7.out.below hb); replace ht7 := fun i => T7.out.cell i; clear  hb) | (go_at_call 108; (with_reducible refine (IN5.out _ _ _ K5a.out HP.out).mono ?_); rintro e W11 ⟨rfl, hb⟩; replace B := Aside0.mk (below_then B.out B.out.size hb); replace HA := Aside0.mk (HA.out.below hb); replace HP := Aside0.mk (HP.out.below hb); replace HN := Aside0.mk (HN.out.below hb); replace K5a := Aside0.mk (K5a.out.below hb); replace K6a := Aside0.mk (K6a.out.below hb); replace X := Aside0.mk (X.out.below hb); replace hx := fun i => X.out.cell i; replace T7 := Aside0.mk (T7.out.below hb); replace ht7 := fun i => T7.out.cell i; clear  hb) | (go_at_call 109; (with_reducible refine (empty10_x _ _ _ _ _ _ _ _ _).mono ?_); rintro e W12 ⟨rfl, hb⟩; replace B := Aside0.mk (below_then B.out B.out.size hb); replace HA := Aside0.mk (HA.out.below hb); replace HP := Aside0.mk (HP.out.below hb); replace HN := Aside0.mk (HN.out.below hb); replace K5a := Aside0.mk (K5a.out.below hb); replace K6a := Aside0.mk (K6a.out.below hb); replace X := Aside0.mk (X.out.below hb); replace hx := fun i => X.out.cell i; replace T7 := Aside0.mk (T7.out.below hb); replace ht7 := fun i => T7.out.cell i; clear  hb) | (go_at_call 95; (with_reducible refine (awake10_c _).mono ?_); rintro e W13 ⟨rfl, hb⟩; replace B := Aside0.mk (below_then B.out B.out.size hb); replace HA := Aside0.mk (HA.out.below hb); replace HP := Aside0.mk (HP.out.below hb); replace HN := Aside0.mk (HN.out.below hb); replace K5a := Aside0.mk (K5a.out.below hb); replace K6a := Aside0.mk (K6a.out.below hb); replace X := Aside0.mk (X.out.below hb); replace hx := fun i => X.out.cell i; replace T7 := Aside0.mk (T7.out.below hb); replace ht7 := fun i => T7.out.cell i; clear  hb))
  go_ret
  exact ⟨rfl, B.out⟩
set_option maxHeartbeats 64000000 in
set_option maxRecDepth 100000 in
theorem fhistOver_e1 (a : Fh) (pos neg : List Sp) (hW : wfF a) (wp : wfSps pos) (wn : wfSps neg) (n5 : a.f5.length ≤ 400) (n6 : a.f6.length ≤ 400) (np : pos.length ≤ 400) (nn : neg.length ≤ 400) (cs : ∀ (w : World) (v : Value), GI w v a → Calls Try.prog 94 #[v] w fun e w' => e = .returned (.bool true) ∧ Below w.heap.size w w') (fp : ∀ (w : World) (v : Value), SI kSp w v pos → Calls Try.prog 105 #[v] w fun e w' => e = .returned (.bool true) ∧ Below w.heap.size w w') (fn : ∀ (w : World) (v : Value), SI kSp w v neg → Calls Try.prog 105 #[v] w fun e w' => e = .returned (.bool true) ∧ Below w.heap.size w w') (hc : checkF a = 0) (hp : spCheck pos = 0) (hn : spCheck neg = 0) (f1 : (spreadF (openF a).1 pos).2 = true) (f2 : (spreadF (openF a).2.1 neg).2 = false) (w : World) (u : Value) (ap an : Option Addr) (cp cn : Nat) (hua : GI w u a) (hvp : SI kSp w (.slice ap pos.length cp) pos) (hvn : SI kSp w (.slice an neg.length cn) neg) : Calls Try.prog 24 #[u, .slice ap pos.length cp, .slice an neg.length cn] w fun e w' => e = .returned (.bool true) ∧ Below w.heap.size w w' := by
  have hud := Try.underlying79
  have cr := ref10_c a (by omega) (by omega)
  have cq := refCheckF_c a hW
  have cp_ := spans10_c pos (by omega)
  have cn_ := spans10_c neg (by omega)
  have kp := refSpCheck_c pos wp
  have kn := refSpCheck_c neg wn
  have co := fover_c a hW pos neg wp wn
  rw [hc] at cq
  rw [hp] at kp
  rw [hn] at kn
  obtain ⟨y1, y2, k5, k6⟩ := open_placesF hc
  have rr := openF_row hW
  have e1 := spreadF_flag rr.1 hp
  have e2 := spreadF_flag rr.2 hn
  rw [y1] at e1
  rw [y2] at e2
  have w5 := within10_c a.f5 pos (by omega) (by omega) k5 hp
  have w6 := within10_c a.f6 neg (by omega) (by omega) k6 hn
  rw [← e1] at w5
  rw [← e2] at w6
  rw [show overF a pos neg = (emptyF, 23) by unfold overF overEF; rw [if_pos hc, if_pos hp, if_neg (by simp [hn]), f1, f2]; simp] at co
  rw [f1] at w5
  rw [f2] at w6
  have CS := Aside0.mk cs
  have FP := Aside0.mk fp
  have FN := Aside0.mk fn
  have CR := Aside0.mk cr
  have CQ := Aside0.mk cq
  have CP := Aside0.mk cp_
  have CN := Aside0.mk cn_
  have KP := Aside0.mk kp
  have KN := Aside0.mk kn
  have CO := Aside0.mk co
  clear cs fp fn cr cq cp_ cn_ kp kn co
  have IN5 := Aside0.mk w5
  have IN6 := Aside0.mk w6
  clear w5 w6
  clear e1 e2 f1 f2 hc hp hn hW wp wn n5 n6 np nn y1 y2 k5 k6 rr
  obtain ⟨A5a, c5a, A6a, c6a, A7a, c7a, A8a, c8a, e, k5a, k6a, k7a, k8a⟩ := hua.open_
  subst e
  have B := Aside0.mk (below_alloc (Below.refl w.heap.size w) (.cells #[.int .i64 a.f0, .int .u64 a.f1, .int .u64 a.f2, .int .u64 a.f3, .int .u64 a.f4, .slice A5a a.f5.length c5a, .slice A6a a.f6.length c6a, .slice A7a a.f7.length c7a, .slice A8a a.f8.length c8a] 79))
  have X := Aside0.mk (Blk.new w #[.int .i64 a.f0, .int .u64 a.f1, .int .u64 a.f2, .int .u64 a.f3, .int .u64 a.f4, .slice A5a a.f5.length c5a, .slice A6a a.f6.length c6a, .slice A7a a.f7.length c7a, .slice A8a a.f8.length c8a] 79)
  have hx := fun i => X.out.cell i
  have HA := Aside0.mk (hua.below B.out)
  have K5a := Aside0.mk (k5a.below B.out)
  have K6a := Aside0.mk (k6a.below B.out)
  have K7a := Aside0.mk (k7a.below B.out)
  have K8a := Aside0.mk (k8a.below B.out)
  have HP := Aside0.mk (hvp.below B.out)
  have HN := Aside0.mk (hvn.below B.out)
  clear hua k5a k6a k7a k8a hvp hvn
  go_enter Try.func24, Try.ntmps24
  go_wp2_with (first | (go_at_call 94; (with_reducible refine (CS.out _ _ HA.out).mono ?_); rintro e W1 ⟨rfl, hb⟩; replace B := Aside0.mk (below_then B.out B.out.size hb); replace HA := Aside0.mk (HA.out.below hb); replace HP := Aside0.mk (HP.out.below hb); replace HN := Aside0.mk (HN.out.below hb); replace K5a := Aside0.mk (K5a.out.below hb); replace K6a := Aside0.mk (K6a.out.below hb); replace X := Aside0.mk (X.out.below hb); replace hx := fun i => X.out.cell i; clear  hb) | (go_at_call 105; (with_reducible refine (FP.out _ _ HP.out).mono ?_); rintro e W2 ⟨rfl, hb⟩; replace B := Aside0.mk (below_then B.out B.out.size hb); replace HA := Aside0.mk (HA.out.below hb); replace HP := Aside0.mk (HP.out.below hb); replace HN := Aside0.mk (HN.out.below hb); replace K5a := Aside0.mk (K5a.out.below hb); replace K6a := Aside0.mk (K6a.out.below hb); replace X := Aside0.mk (X.out.below hb); replace hx := fun i => X.out.cell i; clear  hb) | (go_at_call 105; (with_reducible refine (FN.out _ _ HN.out).mono ?_); rintro e W3 ⟨rfl, hb⟩; replace B := Aside0.mk (below_then B.out B.out.size hb); replace HA := Aside0.mk (HA.out.below hb); replace HP := Aside0.mk (HP.out.below hb); replace HN := Aside0.mk (HN.out.below hb); replace K5a := Aside0.mk (K5a.out.below hb); replace K6a := Aside0.mk (K6a.out.below hb); replace X := Aside0.mk (X.out.below hb); replace hx := fun i => X.out.cell i; clear  hb) | (go_at_call 106; (with_reducible refine (CO.out _ _ _ _ HA.out HP.out HN.out).mono ?_); rintro e W4 ⟨ov, rfl, ho, hb⟩; replace B := Aside0.mk (below_then B.out B.out.size hb); replace HA := Aside0.mk (HA.out.below hb); replace HP := Aside0.mk (HP.out.below hb); replace HN := Aside0.mk (HN.out.below hb); replace K5a := Aside0.mk (K5a.out.below hb); replace K6a := Aside0.mk (K6a.out.below hb); replace X := Aside0.mk (X.out.below hb); replace hx := fun i => X.out.cell i; obtain ⟨oA5, oc5, oA6, oc6, oA7, oc7, oA8, oc8, ec⟩ := ho.empty_; clear ho; subst ec; have hxa := fun i => (X.out.alloc (.cells #[.int .i64 0, .int .u64 0, .int .u64 0, .int .u64 0, .int .u64 0, .slice oA5 0 oc5, .slice oA6 0 oc6, .slice oA7 0 oc7, .slice oA8 0 oc8] 79)).cell i; clear hb))
  (try clear hxa)
  have hal := below_alloc (Below.refl W4.heap.size W4) (.cells #[.int .i64 0, .int .u64 0, .int .u64 0, .int .u64 0, .int .u64 0, .slice oA5 0 oc5, .slice oA6 0 oc6, .slice oA7 0 oc7, .slice oA8 0 oc8] 79)
  replace B := Aside0.mk (below_then B.out B.out.size hal)
  replace HA := Aside0.mk (HA.out.below hal)
  replace HP := Aside0.mk (HP.out.below hal)
  replace HN := Aside0.mk (HN.out.below hal)
  replace K5a := Aside0.mk (K5a.out.below hal)
  replace K6a := Aside0.mk (K6a.out.below hal)
  replace X := Aside0.mk (X.out.alloc (.cells #[.int .i64 0, .int .u64 0, .int .u64 0, .int .u64 0, .int .u64 0, .slice oA5 0 oc5, .slice oA6 0 oc6, .slice oA7 0 oc7, .slice oA8 0 oc8] 79)); replace hx := fun i => X.out.cell i
  have T7 := Aside0.mk (Blk.new W4 #[.int .i64 0, .int .u64 0, .int .u64 0, .int .u64 0, .int .u64 0, .slice oA5 0 oc5, .slice oA6 0 oc6, .slice oA7 0 oc7, .slice oA8 0 oc8] 79); have ht7 := fun i => T7.out.cell i; clear hal
  go_wp2_with (first | (go_at_call 97; (with_reducible refine (CR.out _ _ HA.out).mono ?_); rintro e W5 ⟨rv, rfl, hr, hb⟩; replace B := Aside0.mk (below_then B.out B.out.size hb); replace HA := Aside0.mk (HA.out.below hb); replace HP := Aside0.mk (HP.out.below hb); replace HN := Aside0.mk (HN.out.below hb); replace K5a := Aside0.mk (K5a.out.below hb); replace K6a := Aside0.mk (K6a.out.below hb); replace X := Aside0.mk (X.out.below hb); replace hx := fun i => X.out.cell i; replace T7 := Aside0.mk (T7.out.below hb); replace ht7 := fun i => T7.out.cell i; have RV := Aside0.mk hr; clear hr hb) | (go_at_call 63; (with_reducible refine (CQ.out _ _ RV.out).mono ?_); rintro e W6 ⟨rfl, hb⟩; replace B := Aside0.mk (below_then B.out B.out.size hb); replace HA := Aside0.mk (HA.out.below hb); replace HP := Aside0.mk (HP.out.below hb); replace HN := Aside0.mk (HN.out.below hb); replace K5a := Aside0.mk (K5a.out.below hb); replace K6a := Aside0.mk (K6a.out.below hb); replace RV := Aside0.mk (RV.out.below hb); replace X := Aside0.mk (X.out.below hb); replace hx := fun i => X.out.cell i; replace T7 := Aside0.mk (T7.out.below hb); replace ht7 := fun i => T7.out.cell i; clear  hb) | (go_at_call 107; (with_reducible refine (CP.out _ _ HP.out).mono ?_); rintro e W7 ⟨sp, rfl, hs, hb⟩; replace B := Aside0.mk (below_then B.out B.out.size hb); replace HA := Aside0.mk (HA.out.below hb); replace HP := Aside0.mk (HP.out.below hb); replace HN := Aside0.mk (HN.out.below hb); replace K5a := Aside0.mk (K5a.out.below hb); replace K6a := Aside0.mk (K6a.out.below hb); replace X := Aside0.mk (X.out.below hb); replace hx := fun i => X.out.cell i; replace T7 := Aside0.mk (T7.out.below hb); replace ht7 := fun i => T7.out.cell i; have SP := Aside0.mk hs; clear hs hb) | (go_at_call 46; (with_reducible refine (KP.out _ _ SP.out).mono ?_); rintro e W8 ⟨rfl, hb⟩; replace B := Aside0.mk (below_then B.out B.out.size hb); replace HA := Aside0.mk (HA.out.below hb); replace HP := Aside0.mk (HP.out.below hb); replace HN := Aside0.mk (HN.out.below hb); replace K5a := Aside0.mk (K5a.out.below hb); replace K6a := Aside0.mk (K6a.out.below hb); replace SP := Aside0.mk (SP.out.below hb); replace X := Aside0.mk (X.out.below hb); replace hx := fun i => X.out.cell i; replace T7 := Aside0.mk (T7.out.below hb); replace ht7 := fun i => T7.out.cell i; clear  hb) | (go_at_call 107; (with_reducible refine (CN.out _ _ HN.out).mono ?_); rintro e W9 ⟨sn, rfl, hs, hb⟩; replace B := Aside0.mk (below_then B.out B.out.size hb); replace HA := Aside0.mk (HA.out.below hb); replace HP := Aside0.mk (HP.out.below hb); replace HN := Aside0.mk (HN.out.below hb); replace K5a := Aside0.mk (K5a.out.below hb); replace K6a := Aside0.mk (K6a.out.below hb); replace X := Aside0.mk (X.out.below hb); replace hx := fun i => X.out.cell i; replace T7 := Aside0.mk (T7.out.below hb); replace ht7 := fun i => T7.out.cell i; have SN := Aside0.mk hs; clear hs hb) | (go_at_call 46; (with_reducible refine (KN.out _ _ SN.out).mono ?_); rintro e W10 ⟨rfl, hb⟩; replace B := Aside0.mk (below_then B.out B.out.size hb); replace HA := Aside0.mk (HA.out.below hb); replace HP := Aside0.mk (HP.out.below hb); replace HN := Aside0.mk (HN.out.below hb); replace K5a := Aside0.mk (K5a.out.below hb); replace K6a := Aside0.mk (K6a.out.below hb); replace SN := Aside0.mk (SN.out.below hb); replace X := Aside0.mk (X.out.below hb); replace hx := fun i => X.out.cell i; replace T7 := Aside0.mk (T7.out.below hb); replace ht7 := fun i => T7.out.cell i; clear  hb) | (go_at_call 108; (with_reducible refine (IN5.out _ _ _ K5a.out HP.out).mono ?_); rintro e W11 ⟨rfl, hb⟩; replace B := Aside0.mk (below_then B.out B.out.size hb); replace HA := Aside0.mk (HA.out.below hb); replace HP := Aside0.mk (HP.out.below hb); replace HN := Aside0.mk (HN.out.below hb); replace K5a := Aside0.mk (K5a.out.below hb); replace K6a := Aside0.mk (K6a.out.below hb); replace X := Aside0.mk (X.out.below hb); replace hx := fun i => X.out.cell i; replace T7 := Aside0.mk (T7.out.below hb); replace ht7 := fun i => T7.out.cell i; clear  hb) | (go_at_call 108; (with_reducible refine (IN6.out _ _ _ K6a.out HN.out).mono ?_); rintro e W12 ⟨rfl, hb⟩; replace B := Aside0.mk (below_then B.out B.out.size hb); replace HA := Aside0.mk (HA.out.below hb); replace HP := Aside0.mk (HP.out.below hb); replace HN := Aside0.mk (HN.out.below hb); replace K5a := Aside0.mk (K5a.out.below hb); replace K6a := Aside0.mk (K6a.out.below hb); replace X := Aside0.mk (X.out.below hb); replace hx := fun i => X.out.cell i; replace T7 := Aside0.mk (T7.out.below hb); replace ht7 := fun i => T7.out.cell i; clear  hb) | (go_at_call 109; (with_reducible refine (empty10_x _ _ _ _ _ _ _ _ _).mono ?_); rintro e W13 ⟨rfl, hb⟩; replace B := Aside0.mk (below_then B.out B.out.size hb); replace HA := Aside0.mk (HA.out.below hb); replace HP := Aside0.mk (HP.out.below hb); replace HN := Aside0.mk (HN.out.below hb); replace K5a := Aside0.mk (K5a.out.below hb); replace K6a := Aside0.mk (K6a.out.below hb); replace X := Aside0.mk (X.out.below hb); replace hx := fun i => X.out.cell i; replace T7 := Aside0.mk (T7.out.below hb); replace ht7 := fun i => T7.out.cell i; clear  hb) | (go_at_call 95; (with_reducible refine (awake10_c _).mono ?_); rintro e W14 ⟨rfl, hb⟩; replace B := Aside0.mk (below_then B.out B.out.size hb); replace HA := Aside0.mk (HA.out.below hb); replace HP := Aside0.mk (HP.out.below hb); replace HN := Aside0.mk (HN.out.below hb); replace K5a := Aside0.mk (K5a.out.below hb); replace K6a := Aside0.mk (K6a.out.below hb); replace X := Aside0.mk (X.out.below hb); replace hx := fun i => X.out.cell i; replace T7 := Aside0.mk (T7.out.below hb); replace ht7 := fun i => T7.out.cell i; clear  hb))
  go_ret
  exact ⟨rfl, B.out⟩
set_option maxHeartbeats 64000000 in
set_option maxRecDepth 100000 in
theorem fhistOver_f1 (a : Fh) (pos neg : List Sp) (hW : wfF a) (wp : wfSps pos) (wn : wfSps neg) (n5 : a.f5.length ≤ 400) (n6 : a.f6.length ≤ 400) (np : pos.length ≤ 400) (nn : neg.length ≤ 400) (cs : ∀ (w : World) (v : Value), GI w v a → Calls Try.prog 94 #[v] w fun e w' => e = .returned (.bool true) ∧ Below w.heap.size w w') (fp : ∀ (w : World) (v : Value), SI kSp w v pos → Calls Try.prog 105 #[v] w fun e w' => e = .returned (.bool true) ∧ Below w.heap.size w w') (fn : ∀ (w : World) (v : Value), SI kSp w v neg → Calls Try.prog 105 #[v] w fun e w' => e = .returned (.bool true) ∧ Below w.heap.size w w') (hc : checkF a = 0) (hp : spCheck pos = 0) (hn : spCheck neg = 0) (f1 : (spreadF (openF a).1 pos).2 = true) (f2 : (spreadF (openF a).2.1 neg).2 = true) (w : World) (u : Value) (ap an : Option Addr) (cp cn : Nat) (hua : GI w u a) (hvp : SI kSp w (.slice ap pos.length cp) pos) (hvn : SI kSp w (.slice an neg.length cn) neg) : Calls Try.prog 24 #[u, .slice ap pos.length cp, .slice an neg.length cn] w fun e w' => e = .returned (.bool true) ∧ Below w.heap.size w w' := by
  have hud := Try.underlying79
  have cr := ref10_c a (by omega) (by omega)
  have cq := refCheckF_c a hW
  have cp_ := spans10_c pos (by omega)
  have cn_ := spans10_c neg (by omega)
  have kp := refSpCheck_c pos wp
  have kn := refSpCheck_c neg wn
  have co := fover_c a hW pos neg wp wn
  rw [hc] at cq
  rw [hp] at kp
  rw [hn] at kn
  obtain ⟨y1, y2, k5, k6⟩ := open_placesF hc
  have rr := openF_row hW
  have e1 := spreadF_flag rr.1 hp
  have e2 := spreadF_flag rr.2 hn
  rw [y1] at e1
  rw [y2] at e2
  have w5 := within10_c a.f5 pos (by omega) (by omega) k5 hp
  have w6 := within10_c a.f6 neg (by omega) (by omega) k6 hn
  rw [← e1] at w5
  rw [← e2] at w6
  obtain ⟨o, q1, q2, q3, q4, hWo, hsn⟩ := overF_right hW hc wp wn hp hn f1 f2
  rw [q1] at co
  have co' : ∀ (w : World) (v vp vn : Value), GI w v a → SI kSp w vp pos → SI kSp w vn neg → Calls Try.prog 106 #[v, vp, vn] w fun e w' => ∃ v', e = .returned (.tuple #[v', .int .i64 0]) ∧ GI w' v' o ∧ Below w.heap.size w w' := fun w v vp vn h1 h2 h3 => (co w v vp vn h1 h2 h3).mono fun e w1 ⟨v', e1, e2, e3⟩ => ⟨v', e1, e2.now, e3⟩
  clear co
  have co := co'
  have ce := refEqualF_c o a hWo hW
  rw [q4] at ce
  have ow := hWo
  obtain ⟨o0, o1, o2, o3, o4, o5, o6, o7, o8⟩ := o
  obtain ⟨s0, s1, s2, s3, s4⟩ := hsn
  simp only at s0 s1 s2 s3 s4 q2 q3
  subst s0; subst s1; subst s2; subst s3; subst s4; subst q2; subst q3
  have cro := ref10_c ⟨a.f0, a.f1, a.f2, a.f3, a.f4, o5, o6, o7, o8⟩ (by simp only; omega) (by simp only; omega)
  have z5 := alike10_c o5 (by omega)
  have z6 := alike10_c o6 (by omega)
  have CE := Aside0.mk ce
  have CRo := Aside0.mk cro
  have Z5 := Aside0.mk z5
  have Z6 := Aside0.mk z6
  rw [f1] at w5
  rw [f2] at w6
  have CS := Aside0.mk cs
  have FP := Aside0.mk fp
  have FN := Aside0.mk fn
  have CR := Aside0.mk cr
  have CQ := Aside0.mk cq
  have CP := Aside0.mk cp_
  have CN := Aside0.mk cn_
  have KP := Aside0.mk kp
  have KN := Aside0.mk kn
  have CO := Aside0.mk co
  clear cs fp fn cr cq cp_ cn_ kp kn co
  have IN5 := Aside0.mk w5
  have IN6 := Aside0.mk w6
  clear w5 w6
  clear co' ce cro z5 z6 ow q1 q4 hWo e1 e2 f1 f2 hc hp hn hW wp wn n5 n6 np nn y1 y2 k5 k6 rr
  obtain ⟨A5a, c5a, A6a, c6a, A7a, c7a, A8a, c8a, e, k5a, k6a, k7a, k8a⟩ := hua.open_
  subst e
  have B := Aside0.mk (below_alloc (Below.refl w.heap.size w) (.cells #[.int .i64 a.f0, .int .u64 a.f1, .int .u64 a.f2, .int .u64 a.f3, .int .u64 a.f4, .slice A5a a.f5.length c5a, .slice A6a a.f6.length c6a, .slice A7a a.f7.length c7a, .slice A8a a.f8.length c8a] 79))
  have X := Aside0.mk (Blk.new w #[.int .i64 a.f0, .int .u64 a.f1, .int .u64 a.f2, .int .u64 a.f3, .int .u64 a.f4, .slice A5a a.f5.length c5a, .slice A6a a.f6.length c6a, .slice A7a a.f7.length c7a, .slice A8a a.f8.length c8a] 79)
  have hx := fun i => X.out.cell i
  have HA := Aside0.mk (hua.below B.out)
  have K5a := Aside0.mk (k5a.below B.out)
  have K6a := Aside0.mk (k6a.below B.out)
  have K7a := Aside0.mk (k7a.below B.out)
  have K8a := Aside0.mk (k8a.below B.out)
  have HP := Aside0.mk (hvp.below B.out)
  have HN := Aside0.mk (hvn.below B.out)
  clear hua k5a k6a k7a k8a hvp hvn
  go_enter Try.func24, Try.ntmps24
  go_wp2_with (first | (go_at_call 94; (with_reducible refine (CS.out _ _ HA.out).mono ?_); rintro e W1 ⟨rfl, hb⟩; replace B := Aside0.mk (below_then B.out B.out.size hb); replace HA := Aside0.mk (HA.out.below hb); replace HP := Aside0.mk (HP.out.below hb); replace HN := Aside0.mk (HN.out.below hb); replace K5a := Aside0.mk (K5a.out.below hb); replace K6a := Aside0.mk (K6a.out.below hb); replace X := Aside0.mk (X.out.below hb); replace hx := fun i => X.out.cell i; clear  hb) | (go_at_call 105; (with_reducible refine (FP.out _ _ HP.out).mono ?_); rintro e W2 ⟨rfl, hb⟩; replace B := Aside0.mk (below_then B.out B.out.size hb); replace HA := Aside0.mk (HA.out.below hb); replace HP := Aside0.mk (HP.out.below hb); replace HN := Aside0.mk (HN.out.below hb); replace K5a := Aside0.mk (K5a.out.below hb); replace K6a := Aside0.mk (K6a.out.below hb); replace X := Aside0.mk (X.out.below hb); replace hx := fun i => X.out.cell i; clear  hb) | (go_at_call 105; (with_reducible refine (FN.out _ _ HN.out).mono ?_); rintro e W3 ⟨rfl, hb⟩; replace B := Aside0.mk (below_then B.out B.out.size hb); replace HA := Aside0.mk (HA.out.below hb); replace HP := Aside0.mk (HP.out.below hb); replace HN := Aside0.mk (HN.out.below hb); replace K5a := Aside0.mk (K5a.out.below hb); replace K6a := Aside0.mk (K6a.out.below hb); replace X := Aside0.mk (X.out.below hb); replace hx := fun i => X.out.cell i; clear  hb) | (go_at_call 106; (with_reducible refine (CO.out _ _ _ _ HA.out HP.out HN.out).mono ?_); rintro e W4 ⟨ov, rfl, ho, hb⟩; replace B := Aside0.mk (below_then B.out B.out.size hb); replace HA := Aside0.mk (HA.out.below hb); replace HP := Aside0.mk (HP.out.below hb); replace HN := Aside0.mk (HN.out.below hb); replace K5a := Aside0.mk (K5a.out.below hb); replace K6a := Aside0.mk (K6a.out.below hb); replace X := Aside0.mk (X.out.below hb); replace hx := fun i => X.out.cell i; have O := Aside0.mk ho; have ho' := O.out; obtain ⟨oA5, oc5, oA6, oc6, oA7, oc7, oA8, oc8, ec, h5, h6, h7, h8⟩ := ho'.open_; dsimp only at ec h5 h6 h7 h8; subst ec; have O5 := Aside0.mk h5; have O6 := Aside0.mk h6; clear h5 h6 h7 h8; have hxa := fun i => (X.out.alloc (.cells #[.int .i64 a.f0, .int .u64 a.f1, .int .u64 a.f2, .int .u64 a.f3, .int .u64 a.f4, .slice oA5 o5.length oc5, .slice oA6 o6.length oc6, .slice oA7 o7.length oc7, .slice oA8 o8.length oc8] 79)).cell i; clear ho hb))
  (try clear hxa)
  have hal := below_alloc (Below.refl W4.heap.size W4) (.cells #[.int .i64 a.f0, .int .u64 a.f1, .int .u64 a.f2, .int .u64 a.f3, .int .u64 a.f4, .slice oA5 o5.length oc5, .slice oA6 o6.length oc6, .slice oA7 o7.length oc7, .slice oA8 o8.length oc8] 79)
  replace B := Aside0.mk (below_then B.out B.out.size hal)
  replace HA := Aside0.mk (HA.out.below hal)
  replace HP := Aside0.mk (HP.out.below hal)
  replace HN := Aside0.mk (HN.out.below hal)
  replace K5a := Aside0.mk (K5a.out.below hal)
  replace K6a := Aside0.mk (K6a.out.below hal)
  replace O := Aside0.mk (O.out.below hal)
  replace O5 := Aside0.mk (O5.out.below hal)
  replace O6 := Aside0.mk (O6.out.below hal)
  replace X := Aside0.mk (X.out.alloc (.cells #[.int .i64 a.f0, .int .u64 a.f1, .int .u64 a.f2, .int .u64 a.f3, .int .u64 a.f4, .slice oA5 o5.length oc5, .slice oA6 o6.length oc6, .slice oA7 o7.length oc7, .slice oA8 o8.length oc8] 79)); replace hx := fun i => X.out.cell i
  have T7 := Aside0.mk (Blk.new W4 #[.int .i64 a.f0, .int .u64 a.f1, .int .u64 a.f2, .int .u64 a.f3, .int .u64 a.f4, .slice oA5 o5.length oc5, .slice oA6 o6.length oc6, .slice oA7 o7.length oc7, .slice oA8 o8.length oc8] 79); have ht7 := fun i => T7.out.cell i; clear hal
  go_wp2_with (first | (go_at_call 97; (with_reducible refine (CR.out _ _ HA.out).mono ?_); rintro e W5 ⟨rv, rfl, hr, hb⟩; replace B := Aside0.mk (below_then B.out B.out.size hb); replace HA := Aside0.mk (HA.out.below hb); replace HP := Aside0.mk (HP.out.below hb); replace HN := Aside0.mk (HN.out.below hb); replace K5a := Aside0.mk (K5a.out.below hb); replace K6a := Aside0.mk (K6a.out.below hb); replace O := Aside0.mk (O.out.below hb); replace O5 := Aside0.mk (O5.out.below hb); replace O6 := Aside0.mk (O6.out.below hb); replace X := Aside0.mk (X.out.below hb); replace hx := fun i => X.out.cell i; replace T7 := Aside0.mk (T7.out.below hb); replace ht7 := fun i => T7.out.cell i; have RV := Aside0.mk hr; clear hr hb) | (go_at_call 63; (with_reducible refine (CQ.out _ _ RV.out).mono ?_); rintro e W6 ⟨rfl, hb⟩; replace B := Aside0.mk (below_then B.out B.out.size hb); replace HA := Aside0.mk (HA.out.below hb); replace HP := Aside0.mk (HP.out.below hb); replace HN := Aside0.mk (HN.out.below hb); replace K5a := Aside0.mk (K5a.out.below hb); replace K6a := Aside0.mk (K6a.out.below hb); replace O := Aside0.mk (O.out.below hb); replace O5 := Aside0.mk (O5.out.below hb); replace O6 := Aside0.mk (O6.out.below hb); replace RV := Aside0.mk (RV.out.below hb); replace X := Aside0.mk (X.out.below hb); replace hx := fun i => X.out.cell i; replace T7 := Aside0.mk (T7.out.below hb); replace ht7 := fun i => T7.out.cell i; clear  hb) | (go_at_call 107; (with_reducible refine (CP.out _ _ HP.out).mono ?_); rintro e W7 ⟨sp, rfl, hs, hb⟩; replace B := Aside0.mk (below_then B.out B.out.size hb); replace HA := Aside0.mk (HA.out.below hb); replace HP := Aside0.mk (HP.out.below hb); replace HN := Aside0.mk (HN.out.below hb); replace K5a := Aside0.mk (K5a.out.below hb); replace K6a := Aside0.mk (K6a.out.below hb); replace O := Aside0.mk (O.out.below hb); replace O5 := Aside0.mk (O5.out.below hb); replace O6 := Aside0.mk (O6.out.below hb); replace X := Aside0.mk (X.out.below hb); replace hx := fun i => X.out.cell i; replace T7 := Aside0.mk (T7.out.below hb); replace ht7 := fun i => T7.out.cell i; have SP := Aside0.mk hs; clear hs hb) | (go_at_call 46; (with_reducible refine (KP.out _ _ SP.out).mono ?_); rintro e W8 ⟨rfl, hb⟩; replace B := Aside0.mk (below_then B.out B.out.size hb); replace HA := Aside0.mk (HA.out.below hb); replace HP := Aside0.mk (HP.out.below hb); replace HN := Aside0.mk (HN.out.below hb); replace K5a := Aside0.mk (K5a.out.below hb); replace K6a := Aside0.mk (K6a.out.below hb); replace O := Aside0.mk (O.out.below hb); replace O5 := Aside0.mk (O5.out.below hb); replace O6 := Aside0.mk (O6.out.below hb); replace SP := Aside0.mk (SP.out.below hb); replace X := Aside0.mk (X.out.below hb); replace hx := fun i => X.out.cell i; replace T7 := Aside0.mk (T7.out.below hb); replace ht7 := fun i => T7.out.cell i; clear  hb) | (go_at_call 107; (with_reducible refine (CN.out _ _ HN.out).mono ?_); rintro e W9 ⟨sn, rfl, hs, hb⟩; replace B := Aside0.mk (below_then B.out B.out.size hb); replace HA := Aside0.mk (HA.out.below hb); replace HP := Aside0.mk (HP.out.below hb); replace HN := Aside0.mk (HN.out.below hb); replace K5a := Aside0.mk (K5a.out.below hb); replace K6a := Aside0.mk (K6a.out.below hb); replace O := Aside0.mk (O.out.below hb); replace O5 := Aside0.mk (O5.out.below hb); replace O6 := Aside0.mk (O6.out.below hb); replace X := Aside0.mk (X.out.below hb); replace hx := fun i => X.out.cell i; replace T7 := Aside0.mk (T7.out.below hb); replace ht7 := fun i => T7.out.cell i; have SN := Aside0.mk hs; clear hs hb) | (go_at_call 46; (with_reducible refine (KN.out _ _ SN.out).mono ?_); rintro e W10 ⟨rfl, hb⟩; replace B := Aside0.mk (below_then B.out B.out.size hb); replace HA := Aside0.mk (HA.out.below hb); replace HP := Aside0.mk (HP.out.below hb); replace HN := Aside0.mk (HN.out.below hb); replace K5a := Aside0.mk (K5a.out.below hb); replace K6a := Aside0.mk (K6a.out.below hb); replace O := Aside0.mk (O.out.below hb); replace O5 := Aside0.mk (O5.out.below hb); replace O6 := Aside0.mk (O6.out.below hb); replace SN := Aside0.mk (SN.out.below hb); replace X := Aside0.mk (X.out.below hb); replace hx := fun i => X.out.cell i; replace T7 := Aside0.mk (T7.out.below hb); replace ht7 := fun i => T7.out.cell i; clear  hb) | (go_at_call 108; (with_reducible refine (IN5.out _ _ _ K5a.out HP.out).mono ?_); rintro e W11 ⟨rfl, hb⟩; replace B := Aside0.mk (below_then B.out B.out.size hb); replace HA := Aside0.mk (HA.out.below hb); replace HP := Aside0.mk (HP.out.below hb); replace HN := Aside0.mk (HN.out.below hb); replace K5a := Aside0.mk (K5a.out.below hb); replace K6a := Aside0.mk (K6a.out.below hb); replace O := Aside0.mk (O.out.below hb); replace O5 := Aside0.mk (O5.out.below hb); replace O6 := Aside0.mk (O6.out.below hb); replace X := Aside0.mk (X.out.below hb); replace hx := fun i => X.out.cell i; replace T7 := Aside0.mk (T7.out.below hb); replace ht7 := fun i => T7.out.cell i; clear  hb) | (go_at_call 108; (with_reducible refine (IN6.out _ _ _ K6a.out HN.out).mono ?_); rintro e W12 ⟨rfl, hb⟩; replace B := Aside0.mk (below_then B.out B.out.size hb); replace HA := Aside0.mk (HA.out.below hb); replace HP := Aside0.mk (HP.out.below hb); replace HN := Aside0.mk (HN.out.below hb); replace K5a := Aside0.mk (K5a.out.below hb); replace K6a := Aside0.mk (K6a.out.below hb); replace O := Aside0.mk (O.out.below hb); replace O5 := Aside0.mk (O5.out.below hb); replace O6 := Aside0.mk (O6.out.below hb); replace X := Aside0.mk (X.out.below hb); replace hx := fun i => X.out.cell i; replace T7 := Aside0.mk (T7.out.below hb); replace ht7 := fun i => T7.out.cell i; clear  hb))
  replace HA := Aside0.mk (HA.out.below (below_drew (Below.refl _ _)))
  replace HP := Aside0.mk (HP.out.below (below_drew (Below.refl _ _)))
  replace HN := Aside0.mk (HN.out.below (below_drew (Below.refl _ _)))
  replace O := Aside0.mk (O.out.below (below_drew (Below.refl _ _)))
  replace O5 := Aside0.mk (O5.out.below (below_drew (Below.refl _ _)))
  replace O6 := Aside0.mk (O6.out.below (below_drew (Below.refl _ _)))
  replace X := Aside0.mk (X.out.below (below_drew (Below.refl _ _)))
  replace T7 := Aside0.mk (T7.out.below (below_drew (Below.refl _ _)))
  replace B := Aside0.mk (below_drew B.out)
  go_region_held3 (fun W => (∀ i, W.cell? ⟨w.heap.size, i, none⟩ = (#[.int .i64 a.f0, .int .u64 a.f1, .int .u64 a.f2, .int .u64 a.f3, .int .u64 a.f4, .slice A5a a.f5.length c5a, .slice A6a a.f6.length c6a, .slice A7a a.f7.length c7a, .slice A8a a.f8.length c8a] : Array Value)[i]?) ∧ (∀ i, W.cell? ⟨W4.heap.size, i, none⟩ = (#[.int .i64 a.f0, .int .u64 a.f1, .int .u64 a.f2, .int .u64 a.f3, .int .u64 a.f4, .slice oA5 o5.length oc5, .slice oA6 o6.length oc6, .slice oA7 o7.length oc7, .slice oA8 o8.length oc8] : Array Value)[i]?)) (exact ⟨fun i => X.out.cell i, fun i => T7.out.cell i⟩) (first | (go_at_call 110; (with_reducible refine (Z5.out _ _ _ O5.out HP.out).mono ?_); rintro e W13 ⟨rfl, hb⟩; replace B := Aside0.mk (below_then B.out B.out.size hb); replace HA := Aside0.mk (HA.out.below hb); replace HP := Aside0.mk (HP.out.below hb); replace HN := Aside0.mk (HN.out.below hb); replace O := Aside0.mk (O.out.below hb); replace O5 := Aside0.mk (O5.out.below hb); replace O6 := Aside0.mk (O6.out.below hb); replace X := Aside0.mk (X.out.below hb); replace hx := fun i => X.out.cell i; replace T7 := Aside0.mk (T7.out.below hb); replace ht7 := fun i => T7.out.cell i; (try (replace SA := Aside0.mk (SA.out.below hb))); (try (replace SB := Aside0.mk (SB.out.below hb))); clear  hb) | (go_at_call 110; (with_reducible refine (Z6.out _ _ _ O6.out HN.out).mono ?_); rintro e W14 ⟨rfl, hb⟩; replace B := Aside0.mk (below_then B.out B.out.size hb); replace HA := Aside0.mk (HA.out.below hb); replace HP := Aside0.mk (HP.out.below hb); replace HN := Aside0.mk (HN.out.below hb); replace O := Aside0.mk (O.out.below hb); replace O5 := Aside0.mk (O5.out.below hb); replace O6 := Aside0.mk (O6.out.below hb); replace X := Aside0.mk (X.out.below hb); replace hx := fun i => X.out.cell i; replace T7 := Aside0.mk (T7.out.below hb); replace ht7 := fun i => T7.out.cell i; (try (replace SA := Aside0.mk (SA.out.below hb))); (try (replace SB := Aside0.mk (SB.out.below hb))); clear  hb) | (go_at_call 97; (with_reducible refine (CRo.out _ _ O.out).mono ?_); rintro e W15 ⟨sa, rfl, hr, hb⟩; replace B := Aside0.mk (below_then B.out B.out.size hb); replace HA := Aside0.mk (HA.out.below hb); replace HP := Aside0.mk (HP.out.below hb); replace HN := Aside0.mk (HN.out.below hb); replace O := Aside0.mk (O.out.below hb); replace O5 := Aside0.mk (O5.out.below hb); replace O6 := Aside0.mk (O6.out.below hb); replace X := Aside0.mk (X.out.below hb); replace hx := fun i => X.out.cell i; replace T7 := Aside0.mk (T7.out.below hb); replace ht7 := fun i => T7.out.cell i; (try (replace SB := Aside0.mk (SB.out.below hb))); have SA := Aside0.mk hr; clear hr hb) | (go_at_call 97; (with_reducible refine (CR.out _ _ HA.out).mono ?_); rintro e W16 ⟨sb, rfl, hr, hb⟩; replace B := Aside0.mk (below_then B.out B.out.size hb); replace HA := Aside0.mk (HA.out.below hb); replace HP := Aside0.mk (HP.out.below hb); replace HN := Aside0.mk (HN.out.below hb); replace O := Aside0.mk (O.out.below hb); replace O5 := Aside0.mk (O5.out.below hb); replace O6 := Aside0.mk (O6.out.below hb); replace X := Aside0.mk (X.out.below hb); replace hx := fun i => X.out.cell i; replace T7 := Aside0.mk (T7.out.below hb); replace ht7 := fun i => T7.out.cell i; (try (replace SA := Aside0.mk (SA.out.below hb))); have SB := Aside0.mk hr; clear hr hb) | (go_at_call 104; (with_reducible refine (CE.out _ _ _ SA.out SB.out).mono ?_); rintro e W17 ⟨rfl, hb⟩; replace B := Aside0.mk (below_then B.out B.out.size hb); replace HA := Aside0.mk (HA.out.below hb); replace HP := Aside0.mk (HP.out.below hb); replace HN := Aside0.mk (HN.out.below hb); replace O := Aside0.mk (O.out.below hb); replace O5 := Aside0.mk (O5.out.below hb); replace O6 := Aside0.mk (O6.out.below hb); replace X := Aside0.mk (X.out.below hb); replace hx := fun i => X.out.cell i; replace T7 := Aside0.mk (T7.out.below hb); replace ht7 := fun i => T7.out.cell i; clear  hb) | (go_at_call 95; (with_reducible refine (awake10_c _).mono ?_); rintro e W18 ⟨rfl, hb⟩; replace B := Aside0.mk (below_then B.out B.out.size hb); replace HA := Aside0.mk (HA.out.below hb); replace HP := Aside0.mk (HP.out.below hb); replace HN := Aside0.mk (HN.out.below hb); replace O := Aside0.mk (O.out.below hb); replace O5 := Aside0.mk (O5.out.below hb); replace O6 := Aside0.mk (O6.out.below hb); replace X := Aside0.mk (X.out.below hb); replace hx := fun i => X.out.cell i; replace T7 := Aside0.mk (T7.out.below hb); replace ht7 := fun i => T7.out.cell i; clear  hb))
  all_goals go_wp2
  all_goals go_ret
  all_goals exact ⟨rfl, B.out⟩
set_option maxHeartbeats 64000000 in
set_option maxRecDepth 100000 in
theorem fhistOver_c (a : Fh) (pos neg : List Sp) (hw : wfG a) (wp : wfSps pos) (wn : wfSps neg) (w : World) (u vp vn : Value) (hua : GI w u a) (hvp : SI kSp w vp pos) (hvn : SI kSp w vn neg) : Calls Try.prog 24 #[u, vp, vn] w fun e w' => e = .returned (.bool true) ∧ Below w.heap.size w w' := by
  have hud := Try.underlying79
  have hvp' := hvp
  have hvn' := hvn
  obtain ⟨ap, cp, e1, -⟩ := hvp'
  obtain ⟨an, cn, e2, -⟩ := hvn'
  subst e1; subst e2
  obtain ⟨b, hb, cs⟩ := small10_c a hw.2.2.2.2.2.1 hw.2.2.2.2.2.2.1
  obtain ⟨b1, hb1, fp⟩ := few10_c pos wp
  obtain ⟨b2, hb2, fn⟩ := few10_c neg wn
  cases b with
  | false =>
    have CS := Aside0.mk cs
    clear cs fp fn hb hb1 hb2
    obtain ⟨A5a, c5a, A6a, c6a, A7a, c7a, A8a, c8a, e, k5a, k6a, k7a, k8a⟩ := hua.open_
    subst e
    have B := Aside0.mk (below_alloc (Below.refl w.heap.size w) (.cells #[.int .i64 a.f0, .int .u64 a.f1, .int .u64 a.f2, .int .u64 a.f3, .int .u64 a.f4, .slice A5a a.f5.length c5a, .slice A6a a.f6.length c6a, .slice A7a a.f7.length c7a, .slice A8a a.f8.length c8a] 79))
    have X := Aside0.mk (Blk.new w #[.int .i64 a.f0, .int .u64 a.f1, .int .u64 a.f2, .int .u64 a.f3, .int .u64 a.f4, .slice A5a a.f5.length c5a, .slice A6a a.f6.length c6a, .slice A7a a.f7.length c7a, .slice A8a a.f8.length c8a] 79)
    have hx := fun i => X.out.cell i
    have HA := Aside0.mk (hua.below B.out)
    have K5a := Aside0.mk (k5a.below B.out)
    have K6a := Aside0.mk (k6a.below B.out)
    have K7a := Aside0.mk (k7a.below B.out)
    have K8a := Aside0.mk (k8a.below B.out)
    have HP := Aside0.mk (hvp.below B.out)
    have HN := Aside0.mk (hvn.below B.out)
    clear hua k5a k6a k7a k8a hvp hvn
    go_enter Try.func24, Try.ntmps24
    go_wp2_with (first | (go_at_call 94; (with_reducible refine (CS.out _ _ HA.out).mono ?_); rintro e W1 ⟨rfl, hb⟩; replace B := Aside0.mk (below_then B.out B.out.size hb); replace HA := Aside0.mk (HA.out.below hb); replace HP := Aside0.mk (HP.out.below hb); replace HN := Aside0.mk (HN.out.below hb); replace X := Aside0.mk (X.out.below hb); replace hx := fun i => X.out.cell i; clear  hb) | (go_at_call 95; (with_reducible refine (awake10_c _).mono ?_); rintro e W2 ⟨rfl, hb⟩; replace B := Aside0.mk (below_then B.out B.out.size hb); replace HA := Aside0.mk (HA.out.below hb); replace HP := Aside0.mk (HP.out.below hb); replace HN := Aside0.mk (HN.out.below hb); replace X := Aside0.mk (X.out.below hb); replace hx := fun i => X.out.cell i; clear  hb))
    go_ret
    exact ⟨rfl, B.out⟩
  | true =>
    cases b1 with
    | false =>
      have CS := Aside0.mk cs
      have FP := Aside0.mk fp
      clear cs fp fn hb hb1 hb2
      obtain ⟨A5a, c5a, A6a, c6a, A7a, c7a, A8a, c8a, e, k5a, k6a, k7a, k8a⟩ := hua.open_
      subst e
      have B := Aside0.mk (below_alloc (Below.refl w.heap.size w) (.cells #[.int .i64 a.f0, .int .u64 a.f1, .int .u64 a.f2, .int .u64 a.f3, .int .u64 a.f4, .slice A5a a.f5.length c5a, .slice A6a a.f6.length c6a, .slice A7a a.f7.length c7a, .slice A8a a.f8.length c8a] 79))
      have X := Aside0.mk (Blk.new w #[.int .i64 a.f0, .int .u64 a.f1, .int .u64 a.f2, .int .u64 a.f3, .int .u64 a.f4, .slice A5a a.f5.length c5a, .slice A6a a.f6.length c6a, .slice A7a a.f7.length c7a, .slice A8a a.f8.length c8a] 79)
      have hx := fun i => X.out.cell i
      have HA := Aside0.mk (hua.below B.out)
      have K5a := Aside0.mk (k5a.below B.out)
      have K6a := Aside0.mk (k6a.below B.out)
      have K7a := Aside0.mk (k7a.below B.out)
      have K8a := Aside0.mk (k8a.below B.out)
      have HP := Aside0.mk (hvp.below B.out)
      have HN := Aside0.mk (hvn.below B.out)
      clear hua k5a k6a k7a k8a hvp hvn
      go_enter Try.func24, Try.ntmps24
      go_wp2_with (first | (go_at_call 94; (with_reducible refine (CS.out _ _ HA.out).mono ?_); rintro e W1 ⟨rfl, hb⟩; replace B := Aside0.mk (below_then B.out B.out.size hb); replace HA := Aside0.mk (HA.out.below hb); replace HP := Aside0.mk (HP.out.below hb); replace HN := Aside0.mk (HN.out.below hb); replace X := Aside0.mk (X.out.below hb); replace hx := fun i => X.out.cell i; clear  hb) | (go_at_call 105; (with_reducible refine (FP.out _ _ HP.out).mono ?_); rintro e W2 ⟨rfl, hb⟩; replace B := Aside0.mk (below_then B.out B.out.size hb); replace HA := Aside0.mk (HA.out.below hb); replace HP := Aside0.mk (HP.out.below hb); replace HN := Aside0.mk (HN.out.below hb); replace X := Aside0.mk (X.out.below hb); replace hx := fun i => X.out.cell i; clear  hb) | (go_at_call 95; (with_reducible refine (awake10_c _).mono ?_); rintro e W3 ⟨rfl, hb⟩; replace B := Aside0.mk (below_then B.out B.out.size hb); replace HA := Aside0.mk (HA.out.below hb); replace HP := Aside0.mk (HP.out.below hb); replace HN := Aside0.mk (HN.out.below hb); replace X := Aside0.mk (X.out.below hb); replace hx := fun i => X.out.cell i; clear  hb))
      go_ret
      exact ⟨rfl, B.out⟩
    | true =>
      cases b2 with
      | false =>
        have CS := Aside0.mk cs
        have FP := Aside0.mk fp
        have FN := Aside0.mk fn
        clear cs fp fn hb hb1 hb2
        obtain ⟨A5a, c5a, A6a, c6a, A7a, c7a, A8a, c8a, e, k5a, k6a, k7a, k8a⟩ := hua.open_
        subst e
        have B := Aside0.mk (below_alloc (Below.refl w.heap.size w) (.cells #[.int .i64 a.f0, .int .u64 a.f1, .int .u64 a.f2, .int .u64 a.f3, .int .u64 a.f4, .slice A5a a.f5.length c5a, .slice A6a a.f6.length c6a, .slice A7a a.f7.length c7a, .slice A8a a.f8.length c8a] 79))
        have X := Aside0.mk (Blk.new w #[.int .i64 a.f0, .int .u64 a.f1, .int .u64 a.f2, .int .u64 a.f3, .int .u64 a.f4, .slice A5a a.f5.length c5a, .slice A6a a.f6.length c6a, .slice A7a a.f7.length c7a, .slice A8a a.f8.length c8a] 79)
        have hx := fun i => X.out.cell i
        have HA := Aside0.mk (hua.below B.out)
        have K5a := Aside0.mk (k5a.below B.out)
        have K6a := Aside0.mk (k6a.below B.out)
        have K7a := Aside0.mk (k7a.below B.out)
        have K8a := Aside0.mk (k8a.below B.out)
        have HP := Aside0.mk (hvp.below B.out)
        have HN := Aside0.mk (hvn.below B.out)
        clear hua k5a k6a k7a k8a hvp hvn
        go_enter Try.func24, Try.ntmps24
        go_wp2_with (first | (go_at_call 94; (with_reducible refine (CS.out _ _ HA.out).mono ?_); rintro e W1 ⟨rfl, hb⟩; replace B := Aside0.mk (below_then B.out B.out.size hb); replace HA := Aside0.mk (HA.out.below hb); replace HP := Aside0.mk (HP.out.below hb); replace HN := Aside0.mk (HN.out.below hb); replace X := Aside0.mk (X.out.below hb); replace hx := fun i => X.out.cell i; clear  hb) | (go_at_call 105; (with_reducible refine (FP.out _ _ HP.out).mono ?_); rintro e W2 ⟨rfl, hb⟩; replace B := Aside0.mk (below_then B.out B.out.size hb); replace HA := Aside0.mk (HA.out.below hb); replace HP := Aside0.mk (HP.out.below hb); replace HN := Aside0.mk (HN.out.below hb); replace X := Aside0.mk (X.out.below hb); replace hx := fun i => X.out.cell i; clear  hb) | (go_at_call 105; (with_reducible refine (FN.out _ _ HN.out).mono ?_); rintro e W3 ⟨rfl, hb⟩; replace B := Aside0.mk (below_then B.out B.out.size hb); replace HA := Aside0.mk (HA.out.below hb); replace HP := Aside0.mk (HP.out.below hb); replace HN := Aside0.mk (HN.out.below hb); replace X := Aside0.mk (X.out.below hb); replace hx := fun i => X.out.cell i; clear  hb) | (go_at_call 95; (with_reducible refine (awake10_c _).mono ?_); rintro e W4 ⟨rfl, hb⟩; replace B := Aside0.mk (below_then B.out B.out.size hb); replace HA := Aside0.mk (HA.out.below hb); replace HP := Aside0.mk (HP.out.below hb); replace HN := Aside0.mk (HN.out.below hb); replace X := Aside0.mk (X.out.below hb); replace hx := fun i => X.out.cell i; clear  hb))
        go_ret
        exact ⟨rfl, B.out⟩
      | true =>
        obtain ⟨n5, n6, n7, n8⟩ := hb rfl
        have hW := wfF_of hw n7 n8
        have np := hb1 rfl
        have nn := hb2 rfl
        by_cases c1 : checkF a = 0
        rotate_left
        · exact fhistOver_a1 a pos neg hW wp wn n5 n6 np nn cs fp fn c1 w u ap an cp cn hua hvp hvn
        by_cases c2 : spCheck pos = 0
        rotate_left
        · exact fhistOver_b1 a pos neg hW wp wn n5 n6 np nn cs fp fn c1 c2 w u ap an cp cn hua hvp hvn
        by_cases c3 : spCheck neg = 0
        rotate_left
        · exact fhistOver_c1 a pos neg hW wp wn n5 n6 np nn cs fp fn c1 c2 c3 w u ap an cp cn hua hvp hvn
        cases f1 : (spreadF (openF a).1 pos).2 with
        | false => exact fhistOver_d1 a pos neg hW wp wn n5 n6 np nn cs fp fn c1 c2 c3 f1 w u ap an cp cn hua hvp hvn
        | true =>
          cases f2 : (spreadF (openF a).2.1 neg).2 with
          | false => exact fhistOver_e1 a pos neg hW wp wn n5 n6 np nn cs fp fn c1 c2 c3 f1 f2 w u ap an cp cn hua hvp hvn
          | true => exact fhistOver_f1 a pos neg hW wp wn n5 n6 np nn cs fp fn c1 c2 c3 f1 f2 w u ap an cp cn hua hvp hvn
def tidepolelaw10_FhistOver.f (s0 z0 zc0 ct0 sm0 : Int) (l0_5 l0_6 : List Sp) (l0_7 l0_8 : List Int) (p : List Sp) (n : List Sp) : Option Bool := if wfG ⟨s0, z0, zc0, ct0, sm0, l0_5, l0_6, l0_7, l0_8⟩ ∧ wfSps p ∧ wfSps n then some true else none
theorem tidepolelaw10_FhistOver.calls (s0 : Int) (z0 : Int) (zc0 : Int) (ct0 : Int) (sm0 : Int) (A0_5 : Option Addr) (c0_5 : Nat) (l0_5 : List Sp) (A0_6 : Option Addr) (c0_6 : Nat) (l0_6 : List Sp) (A0_7 : Option Addr) (c0_7 : Nat) (l0_7 : List Int) (A0_8 : Option Addr) (c0_8 : Nat) (l0_8 : List Int) (Ap : Option Addr) (cp : Nat) (p : List Sp) (An : Option Addr) (cn : Nat) (n : List Sp) (r : Bool) (w : World) (hr0_5 : Kd.C kSp w A0_5 l0_5.length l0_5) (hc0_5 : l0_5.length ≤ c0_5) (hr0_6 : Kd.C kSp w A0_6 l0_6.length l0_6) (hc0_6 : l0_6.length ≤ c0_6) (hr0_7 : Kd.C (Kd.int .u64) w A0_7 l0_7.length l0_7) (hc0_7 : l0_7.length ≤ c0_7) (hr0_8 : Kd.C (Kd.int .u64) w A0_8 l0_8.length l0_8) (hc0_8 : l0_8.length ≤ c0_8) (hrp : Kd.C kSp w Ap p.length p) (hcp : p.length ≤ cp) (hrn : Kd.C kSp w An n.length n) (hcn : n.length ≤ cn) (h : tidepolelaw10_FhistOver.f s0 z0 zc0 ct0 sm0 l0_5 l0_6 l0_7 l0_8 p n = some r) :
    Calls Try.prog 24 #[.agg #[.int .i64 s0, .int .u64 z0, .int .u64 zc0, .int .u64 ct0, .int .u64 sm0, .slice A0_5 l0_5.length c0_5, .slice A0_6 l0_6.length c0_6, .slice A0_7 l0_7.length c0_7, .slice A0_8 l0_8.length c0_8], .slice Ap p.length cp, .slice An n.length cn] w fun e w' => e = .returned (.bool r) ∧ Below w.heap.size w w' := by
  obtain ⟨⟨q0, q1, q2⟩, rfl⟩ := of_ite_some h
  exact fhistOver_c _ _ _ q0 q1 q2 w _ _ _ (GI.mk (h := ⟨s0, z0, zc0, ct0, sm0, l0_5, l0_6, l0_7, l0_8⟩) (.of hr0_5 hc0_5) (.of hr0_6 hc0_6) (.of hr0_7 hc0_7) (.of hr0_8 hc0_8)) (.of hrp hcp) (.of hrn hcn)
end Go.Proofs.Ytacgeafjilipdaa.P
namespace Go.Proofs.Ytacgeafjilipdaa.P
def headSigns : List Char := List.map Char.ofNat [104, 97, 114, 110, 101, 115, 115, 32, 97, 50, 97, 99, 52, 56, 53, 53, 54, 101, 54, 52, 97, 51, 49, 101, 54, 54, 98, 55, 102, 55, 97, 51, 54, 49, 102, 100, 52, 100, 51, 54, 55, 57, 100, 102, 98, 49, 97, 57, 53, 50, 101, 57, 54, 51, 55, 99, 57, 57, 56, 52, 48, 101, 100, 50, 99, 98, 97, 100, 54, 54, 50, 100, 32, 99, 117, 116, 32, 97, 116, 32, 116, 105, 100, 101, 112, 111, 108, 101, 47, 116, 105, 100, 101, 112, 111, 108, 101, 108, 97, 119, 48, 55, 46, 80, 97, 105, 114, 115, 85, 110, 122, 105, 112, 32, 116, 105, 100, 101, 112, 111, 108, 101, 47, 116, 105, 100, 101, 112, 111, 108, 101, 108, 97, 119, 48, 55, 46, 80, 97, 105, 114, 115, 70, 105, 110, 100, 115, 32, 116, 105, 100, 101, 112, 111, 108, 101, 47, 116, 105, 100, 101, 112, 111, 108, 101, 108, 97, 119, 48, 55, 46, 80, 97, 105, 114, 115, 77, 101, 114, 103, 101, 32, 116, 105, 100, 101, 112, 111, 108, 101, 47, 116, 105, 100, 101, 112, 111, 108, 101, 108, 97, 119, 48, 55, 46, 80, 97, 105, 114, 115, 90, 105, 112, 32, 116, 105, 100, 101, 112, 111, 108, 101, 47, 116, 105, 100, 101, 112, 111, 108, 101, 108, 97, 119, 48, 55, 46, 80, 97, 105, 114, 115, 68, 101, 108, 116, 97, 115, 32, 116, 105, 100, 101, 112, 111, 108, 101, 47, 116, 105, 100, 101, 112, 111, 108, 101, 108, 97, 119, 49, 49, 46, 82, 101, 115, 101, 116, 73, 110, 116, 115, 32, 116, 105, 100, 101, 112, 111, 108, 101, 47, 116, 105, 100, 101, 112, 111, 108, 101, 108, 97, 119, 49, 49, 46, 82, 101, 115, 101, 116, 70, 108, 111, 97, 116, 115, 32, 116, 105, 100, 101, 112, 111, 108, 101, 47, 116, 105, 100, 101, 112, 111, 108, 101, 108, 97, 119, 49, 49, 46, 82, 101, 115, 101, 116, 78, 97, 109, 101, 115, 32, 116, 105, 100, 101, 112, 111, 108, 101, 47, 116, 105, 100, 101, 112, 111, 108, 101, 108, 97, 119, 49, 49, 46, 82, 101, 115, 101, 116, 71, 111, 101, 115, 32, 116, 105, 100, 101, 112, 111, 108, 101, 47, 116, 105, 100, 101, 112, 111, 108, 101, 108, 97, 119, 49, 49, 46, 82, 101, 115, 101, 116, 66, 111, 116, 104, 32, 116, 105, 100, 101, 112, 111, 108, 101, 47, 116, 105, 100, 101, 112, 111, 108, 101, 108, 97, 119, 48, 57, 46, 72, 105, 115, 116, 67, 104, 101, 99, 107, 115, 32, 116, 105, 100, 101, 112, 111, 108, 101, 47, 116, 105, 100, 101, 112, 111, 108, 101, 108, 97, 119, 48, 57, 46, 72, 105, 115, 116, 80, 97, 105, 114, 115, 32, 116, 105, 100, 101, 112, 111, 108, 101, 47, 116, 105, 100, 101, 112, 111, 108, 101, 108, 97, 119, 48, 57, 46, 72, 105, 115, 116, 69, 113, 117, 97, 108, 32, 116, 105, 100, 101, 112, 111, 108, 101, 47, 116, 105, 100, 101, 112, 111, 108, 101, 108, 97, 119, 48, 57, 46, 72, 105, 115, 116, 79, 118, 101, 114, 32, 116, 105, 100, 101, 112, 111, 108, 101, 47, 116, 105, 100, 101, 112, 111, 108, 101, 108, 97, 119, 48, 57, 46, 72, 105, 115, 116, 77, 97, 107, 101, 115, 32, 116, 105, 100, 101, 112, 111, 108, 101, 47, 116, 105, 100, 101, 112, 111, 108, 101, 108, 97, 119, 48, 57, 46, 72, 105, 115, 116, 67, 97, 110, 111, 110, 32, 116, 105, 100, 101, 112, 111, 108, 101, 47, 116, 105, 100, 101, 112, 111, 108, 101, 108, 97, 119, 48, 57, 46, 72, 105, 115, 116, 87, 97, 108, 107, 115, 32, 116, 105, 100, 101, 112, 111, 108, 101, 47, 116, 105, 100, 101, 112, 111, 108, 101, 108, 97, 119, 49, 49, 46, 82, 101, 115, 101, 116, 76, 97, 121, 115, 32, 116, 105, 100, 101, 112, 111, 108, 101, 47, 116, 105, 100, 101, 112, 111, 108, 101, 108, 97, 119, 49, 48, 46, 70, 104, 105, 115, 116, 67, 104, 101, 99, 107, 115, 32, 116, 105, 100, 101, 112, 111, 108, 101, 47, 116, 105, 100, 101, 112, 111, 108, 101, 108, 97, 119, 49, 48, 46, 70, 104, 105, 115, 116, 80, 97, 105, 114, 115, 32, 116, 105, 100, 101, 112, 111, 108, 101, 47, 116, 105, 100, 101, 112, 111, 108, 101, 108, 97, 119, 49, 48, 46, 70, 104, 105, 115, 116, 69, 113, 117, 97, 108, 32, 116, 105, 100, 101, 112, 111, 108, 101, 47, 116, 105, 100, 101, 112, 111, 108, 101, 108, 97, 119, 49, 48, 46, 70, 104, 105, 115, 116, 79, 118, 101, 114, 32, 116, 105, 100, 101, 112, 111, 108, 101, 47, 116, 105, 100, 101, 112, 111, 108, 101, 108, 97, 119, 49, 48, 46, 70, 104, 105, 115, 116, 70, 108, 111, 97, 116, 115, 32, 116, 105, 100, 101, 112, 111, 108, 101, 47, 116, 105, 100, 101, 112, 111, 108, 101, 108, 97, 119, 49, 48, 46, 70, 104, 105, 115, 116, 77, 97, 107, 101, 115, 32, 116, 105, 100, 101, 112, 111, 108, 101, 47, 116, 105, 100, 101, 112, 111, 108, 101, 108, 97, 119, 49, 48, 46, 70, 104, 105, 115, 116, 67, 97, 110, 111, 110, 32, 116, 105, 100, 101, 112, 111, 108, 101, 47, 116, 105, 100, 101, 112, 111, 108, 101, 108, 97, 119, 49, 48, 46, 70, 104, 105, 115, 116, 66, 97, 99, 107, 32, 116, 105, 100, 101, 112, 111, 108, 101, 47, 116, 105, 100, 101, 112, 111, 108, 101, 108, 97, 119, 49, 48, 46, 70, 104, 105, 115, 116, 70, 114, 111, 109]
theorem head_is : Try.prog.initOrder = String.ofList headSigns := by kernel_rfl
theorem head_signs : Try.prog.initOrder.toList = headSigns := by rw [head_is]; exact String.toList_ofList
theorem head_first : (behindMainWord (wordsSigns headSigns)).head? = some "cut".toList := by kernel_rfl
theorem head_words : ∃ r, behindMainWord (wordsSigns headSigns) = "cut".toList :: r := by have h := head_first; cases h2 : behindMainWord (wordsSigns headSigns) with | nil => rw [h2] at h; cases h | cons c r => rw [h2] at h; injection h with h; exact ⟨r, by rw [h]⟩
theorem strip_cut (r : List (List Char)) : stripLifts liftWords ("cut".toList :: r) = ([], "cut".toList :: r) := by kernel_rfl
theorem head_lifts : Try.prog.headLifts = [] := by obtain ⟨r, hr⟩ := head_words; unfold Program.headLifts; rw [head_signs, hr, strip_cut]; kernel_rfl
theorem head_doorFits : Try.prog.doorFits [] = true := by kernel_rfl
theorem head_laysLater : Try.prog.laysLater = false := by kernel_rfl
theorem head_bearsReflect : Try.prog.bearsReflect = false := by kernel_rfl
theorem mayEnter_of {P : Program} {L : List Char} {r : List (List Char)} (h1 : P.initOrder.toList = L) (h2 : behindMainWord (wordsSigns L) = "cut".toList :: r) (h3 : P.doorFits [] = true) (h4 : P.laysLater = false) (h5 : P.bearsReflect = false) : P.mayEnter = true := by unfold Program.mayEnter; rw [h1, h2]; simp only [strip_cut, h3, h4, h5]; kernel_rfl
theorem head_mayEnter : Try.prog.mayEnter = true := by obtain ⟨r, hr⟩ := head_words; exact mayEnter_of head_signs hr head_doorFits head_laysLater head_bearsReflect
theorem head_liftsFinal : Try.prog.liftsFinal = false := by obtain ⟨r, hr⟩ := head_words; unfold Program.liftsFinal; rw [head_signs, head_lifts, hr]; kernel_rfl
theorem make_of {P : Program} {L : List Char} {r : List (List Char)} (h1 : P.initOrder.toList = L) (h2 : behindMainWord (wordsSigns L) = "cut".toList :: r) : P.make = some .cut := by unfold Program.make; rw [h1, h2]; kernel_rfl
theorem head_make : Try.prog.make = some .cut := by obtain ⟨r, hr⟩ := head_words; exact make_of head_signs hr
theorem head_laidOut : laidOutB Try.prog = true := by kernel_rfl
theorem head_mapsRowed : mapsRowed Try.prog = true := by kernel_rfl
theorem head_stops : (Try.prog.stops == []) = true := by kernel_rfl
theorem head_stopKnobs : (Try.prog.stopKnobs == []) = true := by kernel_rfl
theorem head_plainKeys : Try.prog.plainKeys = true := by kernel_rfl
theorem head_stopsHeard : Try.prog.stopsHeard = true := by kernel_rfl
end Go.Proofs.Ytacgeafjilipdaa.P
namespace Go.Proofs.Ytacgeafjilipdaa.Pure
open Go.RowKit Go.Proofs.Ytacgeafjilipdaa.P Go.Proofs.YtacgeafjilipdaaW.PrintWords
theorem FhistOver : ∀ (x0 : S79) (x1 : List (S144)) (x2 : List (S144)), wf79 x0 → (fun xs_ => ∀ x_ ∈ xs_, wf144 x_) x1 → (fun xs_ => ∀ x_ ∈ xs_, wf144 x_) x2 → tidepolelaw10_FhistOver.f x0.f0 x0.f1 x0.f2 x0.f3 x0.f4 x0.f5 x0.f6 x0.f7 x0.f8 x1 x2 = some true := fun _ _ _ h0 h1 h2 => if_pos ⟨wfG_of h0, wfSps_of h1, wfSps_of h2⟩
end Go.Proofs.Ytacgeafjilipdaa.Pure
namespace Go.Proofs.Ytacgeafjilipdaa.fhistOver
open Go.ChangeShapes Go.WideShapes Go.ChangeAt Go.RowKit Go.Proofs.Ytacgeafjilipdaa.P Go.Proofs.YtacgeafjilipdaaW.PrintWords
set_option linter.unusedVariables false
theorem own : ownKnob Try.prog.godebug = none := by kernel_rfl
theorem laidOut : laidOutB Try.prog = true := by kernel_rfl
set_option maxRecDepth 100000 in
set_option maxHeartbeats 4000000 in
theorem lifted (os : Os) (started : os.Started) (H : Type) (enc : TypeId × Value → H) :
    ReturnsInHanded {} Try.checked os 24 .any (Rows.fhistOverSpec.pre6 enc Try.prog Try.f24 Rows.fhistOverRow.domain false) (Rows.fhistOverSpec.post enc Try.prog Try.f24 false true false false) := by
  refine returnsInHanded_of_change_sized (C := Try.checked) own started (by kernel_rfl) Try.func24
    (ChangeSpec.witness6 (enc := enc) (C := Try.checked) false ⟨#[], #[.agg #[.int .i64 0, .int .u64 0, .int .u64 0, .int .u64 0, .int .u64 0, .slice none 0 0, .slice none 0 0, .slice none 0 0, .slice none 0 0], .slice none 0 0, .slice none 0 0], []⟩ 8 (by kernel_rfl) (by kernel_rfl) (by kernel_rfl) (by kernel_rfl)) ?_
  intro W base args ds gs before hval0 hW hcnd hsz0 _
  have hval : ∀ (j : Nat) t v, Try.f24.params[j]? = some t → args[j]? = some v → Value.okWide Try.prog W .any base t v := hval0
  have hW' := hW
  obtain ⟨p, q, hA0, hV, rfl, hfz, hnd⟩ := hW
  have hA : DataW.TrodAll enc Try.prog W 0 (fun _ => true) true Try.f24.params.toList args.toList ds p := hA0
  rw [Try.params24] at hA hval
  obtain ⟨v0, vs0, d0, ds0, p0, q0, hargs, rfl, rfl, h0, r0⟩ := trodAll_cons hA
  obtain ⟨v1, vs1, d1, ds1, p1, q1, rfl, rfl, rfl, h1, r1⟩ := trodAll_cons r0
  obtain ⟨v2, vs2, d2, ds2, p2, q2, rfl, rfl, rfl, h2, r2⟩ := trodAll_cons r1
  obtain ⟨rfl, rfl, rfl⟩ := trodAll_nil r2
  obtain rfl : args = #[v0, v1, v2] := by cases args; simp_all
  obtain ⟨rfl, rfl⟩ := trodVars_none hV
  have k0 := h0
  have lt0 : ∀ x ∈ p0, x.block < W.heap.size := by obtain ⟨m, hm⟩ := k0; exact DataW.trod_lt m _ _ _ hm
  obtain ⟨fu0, hf0⟩ := h0
  obtain ⟨x0, hK0, w0⟩ := opens79 enc W 0 _ true fu0 _ _ hf0
  obtain ⟨cs0, rfl, _⟩ := okWide_struct Try.underlying79 (hval 0 79 v0 rfl rfl)
  obtain ⟨A0_5, c0_5, A0_6, c0_6, A0_7, c0_7, A0_8, c0_8, he0, h0_5_l, hC0_5, h0_6_l, hC0_6, h0_7_l, hC0_7, h0_8_l, hC0_8⟩ := k79_open hK0
  obtain rfl : cs0 = #[.int .i64 x0.f0, .int .u64 x0.f1, .int .u64 x0.f2, .int .u64 x0.f3, .int .u64 x0.f4, .slice A0_5 x0.f5.length c0_5, .slice A0_6 x0.f6.length c0_6, .slice A0_7 x0.f7.length c0_7, .slice A0_8 x0.f8.length c0_8] := by
    have he : cs0.toList = _ := he0
    exact Array.toList_inj.1 he
  have k1 := h1
  have lt1 : ∀ x ∈ p1, x.block < W.heap.size := by obtain ⟨m, hm⟩ := k1; exact DataW.trod_lt m _ _ _ hm
  obtain ⟨fu1, hf1⟩ := h1
  obtain ⟨x1, hK1, w1⟩ := (opens_slice (d := k144) Try.underlying27 (by kernel_rfl) opens144) enc W 0 _ true fu1 _ _ hf1
  obtain ⟨va1, vl1, vc1, rfl⟩ := okWide_slice Try.underlying27 (hval 1 27 v1 rfl rfl)
  obtain ⟨A1, c1, he1, h1_l, hC1⟩ := hK1
  simp [Value.cells] at he1
  obtain ⟨rfl, rfl, rfl⟩ := he1
  have k2 := h2
  have lt2 : ∀ x ∈ p2, x.block < W.heap.size := by obtain ⟨m, hm⟩ := k2; exact DataW.trod_lt m _ _ _ hm
  obtain ⟨fu2, hf2⟩ := h2
  obtain ⟨x2, hK2, w2⟩ := (opens_slice (d := k144) Try.underlying27 (by kernel_rfl) opens144) enc W 0 _ true fu2 _ _ hf2
  obtain ⟨va2, vl2, vc2, rfl⟩ := okWide_slice Try.underlying27 (hval 2 27 v2 rfl rfl)
  obtain ⟨A2, c2, he2, h2_l, hC2⟩ := hK2
  simp [Value.cells] at he2
  obtain ⟨rfl, rfl, rfl⟩ := he2
  clear hA0 hval0 hsz0
  obtain hk := Pure.FhistOver x0 x1 x2 w0 w1 w2
  refine (P.tidepolelaw10_FhistOver.calls x0.f0 x0.f1 x0.f2 x0.f3 x0.f4 A0_5 c0_5 x0.f5 A0_6 c0_6 x0.f6 A0_7 c0_7 x0.f7 A0_8 c0_8 x0.f8 va1 vc1 x1 va2 vc2 x2 true W hC0_5 h0_5_l hC0_6 h0_6_l hC0_7 h0_7_l hC0_8 h0_8_l hC1 h1_l hC2 h2_l hk).mono fun e W' ⟨he, bel⟩ => ?_
  subst he
  exact ⟨_, rfl, _, _, _, [], _, [], hW', trodAll_mk1 (shut_bool Try.underlying4 _), (trodAll_cons_mk (Below.trod laidOut (by kernel_rfl) (of_decide_eq_true (by kernel_rfl)) k0 bel lt0) (trodAll_cons_mk (Below.trod laidOut (by kernel_rfl) (of_decide_eq_true (by kernel_rfl)) k1 bel lt1) (trodAll_cons_mk (Below.trod laidOut (by kernel_rfl) (of_decide_eq_true (by kernel_rfl)) k2 bel lt2) trodAll_mk0))), rfl, bel.frame _, fun h => by cases h⟩
theorem cf0 : (Rows.fhistOverRow.wf (OpenSpec.ofChange Rows.fhistOverSpec)) = true := by kernel_rfl
theorem cf1 : (laidOutB Try.prog) = true := P.head_laidOut
theorem cf2 : (mapsRowed Try.prog) = true := P.head_mapsRowed
theorem cf3 : (Try.f24.params.all (Try.prog.readableRec ·)) = true := by kernel_rfl
theorem cf4 : (namedTie Try.prog Rows.fhistOverRow.named Rows.fhistOverSpec.vars) = true := by kernel_rfl
theorem cf5 : ((Rows.fhistOverRow.stops == [])) = true := by kernel_rfl
theorem cf6 : ((Try.prog.stops == [])) = true := P.head_stops
theorem cf7 : ((Rows.fhistOverRow.knobs == [])) = true := by kernel_rfl
theorem cf8 : ((Try.prog.stopKnobs == [])) = true := P.head_stopKnobs
theorem cf9 : ((Rows.fhistOverRow.inPlace == Try.prog.inPlace 24)) = true := by kernel_rfl
theorem cf10 : ((Rows.fhistOverRow.unfollowed == Try.prog.unfollowed 24)) = true := by kernel_rfl
theorem cf11 : ((Rows.fhistOverRow.recurses == Try.prog.recurses 24)) = true := by kernel_rfl
theorem cf12 : ((Rows.fhistOverRow.named == Try.prog.varsNamed 24)) = true := by kernel_rfl
theorem cf13 : ((Rows.fhistOverRow.maps == (Try.f24.params.toList ++ Rows.fhistOverSpec.plain.varTypes Try.prog).any (Try.prog.mapsRec ·))) = true := by kernel_rfl
theorem cf14 : ((Rows.fhistOverRow.ifaces == (Try.f24.params.toList ++ Rows.fhistOverSpec.plain.varTypes Try.prog).any (Try.prog.ifacesRec ·))) = true := by kernel_rfl
theorem cf15 : ((Rows.fhistOverRow.mapsOut == Try.prog.mapsAmong Try.f24.resultTypes.toList)) = true := by kernel_rfl
theorem cf16 : ((Rows.fhistOverRow.loops == (Try.f24.params.toList ++ Rows.fhistOverSpec.plain.varTypes Try.prog).any (Try.prog.loopsFrom ·))) = true := by kernel_rfl
theorem cf17 : ((Rows.fhistOverRow.wideKeys == (Try.f24.params.toList ++ Rows.fhistOverSpec.plain.varTypes Try.prog ++ Try.f24.resultTypes.toList).any (Try.prog.wideKeysFrom ·))) = true := by kernel_rfl
theorem cf18 : (Rows.fhistOverSpec.vars.all (Try.prog.varReadable ·)) = true := by kernel_rfl
theorem cf19 : (Try.f24.resultTypes.all (fun t => Try.prog.readableRec t && decide (t < Try.prog.types.size))) = true := by kernel_rfl
theorem cf20 : ((Rows.fhistOverRow.ifacesOut == Try.f24.resultTypes.toList.any (Try.prog.ifacesRec ·))) = true := by kernel_rfl
theorem cf21 : ((Rows.fhistOverRow.loopsOut == Try.f24.resultTypes.toList.any (Try.prog.loopsFrom ·))) = true := by kernel_rfl
theorem cf22 : ((Rows.fhistOverRow.plainKeys == Try.prog.plainKeys)) = true := by rw [P.head_plainKeys]; kernel_rfl
theorem cf23 : (Rows.fhistOverRow.shortTexts.isNone) = true := by kernel_rfl
theorem cf24 : (Try.prog.stopsHeard) = true := P.head_stopsHeard
theorem cf25 : (Try.prog.mayEnter) = true := P.head_mayEnter
theorem cf26 : ((Rows.fhistOverRow.lifted == Try.prog.liftsFinal)) = true := by rw [P.head_liftsFinal]; kernel_rfl
theorem cf27 : ((Try.prog.make == some Rows.fhistOverRow.make)) = true := by rw [P.head_make]; kernel_rfl
theorem cf28 : ((Rows.fhistOverRow.kinds == (if Rows.fhistOverRow.domain.isEmpty then [] else Try.f24.params.toList.map fun t => match Try.prog.underlying t with | some (.int k) => some k | _ => none))) = true := by kernel_rfl
theorem cf29 : ((Rows.fhistOverRow.pinned == Rows.fhistOverRow.pinnedBy)) = true := by kernel_rfl
theorem cf30 : ((Rows.fhistOverRow.veiled == (Try.f24.params.toList ++ Rows.fhistOverSpec.plain.varTypes Try.prog ++ Try.f24.resultTypes.toList).any (Try.prog.veiledRec ·))) = true := by kernel_rfl
theorem cf31 : (Rows.fhistOverRow.veiledFits Try.prog Try.f24.params.toList (Try.f24.params.toList ++ Rows.fhistOverSpec.plain.varTypes Try.prog ++ Try.f24.resultTypes.toList)) = true := by kernel_rfl
theorem band_mk {a b : Bool} (h : a = true) (k : b = true) : (a && b) = true := by rw [h, k]; rfl
theorem closed : joinedFacts Try.prog 24 Try.f24 Rows.fhistOverSpec Rows.fhistOverRow = true := by unfold joinedFacts; exact (band_mk (band_mk (band_mk (band_mk (band_mk (band_mk (band_mk (band_mk (band_mk (band_mk (band_mk (band_mk (band_mk (band_mk (band_mk (band_mk (band_mk (band_mk (band_mk (band_mk (band_mk (band_mk (band_mk (band_mk (band_mk (band_mk (band_mk (band_mk (band_mk (band_mk (band_mk cf0 cf1) cf2) cf3) cf4) cf5) cf6) cf7) cf8) cf9) cf10) cf11) cf12) cf13) cf14) cf15) cf16) cf17) cf18) cf19) cf20) cf21) cf22) cf23) cf24) cf25) cf26) cf27) (by kernel_rfl)) cf29) cf30) cf31)
theorem over : Rows.fhistOverRow.holds Try.pinned (OpenSpec.ofChange Rows.fhistOverSpec) :=
  OpenClaim.holds_of_wide 24 Try.f24 rfl rfl rfl rfl rfl rfl rfl ⟨rfl, rfl, rfl, rfl, rfl⟩ rfl rfl rfl rfl rfl (by kernel_rfl) Try.func24 closed
    (of_decide_eq_true (by kernel_rfl)) (by unfold Func.isWrapper; first | (rw [if_pos (by decide +kernel)]; kernel_rfl) | (rw [if_neg (by decide +kernel)]; exact ⟨rfl, rfl⟩))
    (fun os started H enc _ => lifted os started H enc)
theorem proved : Rows.FhistOverSaid := over
#print axioms proved
end Go.Proofs.Ytacgeafjilipdaa.fhistOver
namespace Go.Proofs.Ytacgeafjilipdaa
theorem fhistOver_holds : Rows.FhistOverSaid := fhistOver.proved
end Go.Proofs.Ytacgeafjilipdaa
