/- Words that the proof of ScaleFloats leans on. -/
import Derived.Test.YtooiccpmngmapaaQScaleFloatsWLast
import Derived.Test.YtooiccpmngmapaaQScaleFloatsWWords
namespace Go.Proofs.YtooiccpmngmapaaW.PrintLast
open Go.Proofs.YtooiccpmngmapaaW.PrintWords (aj)
def yC (md : Region.Mode) (o : Oper) : List Nat := (o.after.toList.filter (fun e => Region.binds md e)).map (fun e => e.on)
def IE (md : Region.Mode) (ops : Array Oper) (i : Nat) (oi : Oper) : List Nat := (List.range ops.size).filter fun j => !(j == i) && match ops[j]? with
 | some oj => !(oj.after.any (fun e => Region.binds md e && e.on == i) || oi.apart ops oj)
 | none => false
def ru (md : Region.Mode) (ops : Array Oper) : Bool × List (List Nat × List Nat) := (Region.noSelect ops, (List.range ops.size).map fun i => match ops[i]? with
 | some o => (yC md o, IE md ops i o)
 | none => ([], []))
def uJ (T : List (List Nat × List Nat)) (l : List Bool) (i : Nat) : Bool := !l.getD i true && match T[i]? with
 | some r => r.1.all (fun j => l.getD j false)
 | none => false
def BK (T : List (List Nat × List Nat)) (l : List Bool) : List Nat := (List.range T.length).filter (uJ T l)
def JM (T : List (List Nat × List Nat)) (l : List Bool) (i : Nat) : Bool := match T[i]? with
 | some r => r.2.all (fun j => l.getD j true)
 | none => false
def DT (T : List (List Nat × List Nat)) (l : List Bool) : Bool := (List.range T.length).all fun j => !l.getD j false || match T[j]? with
 | some r => r.1.all (fun k => l.getD k false)
 | none => true
def BL (T : List (List Nat × List Nat)) (i : Nat) : Nat → Nat → Bool
  | 0, _ => false
  | fuel + 1, d => match T[d]? with
    | some r => r.1.any fun j => j == i || BL T i fuel j
    | none => false
def lastT (T : List (List Nat × List Nat)) (l : List Bool) (ds : List Nat) (i : Nat) : Bool := ds.all fun d => l.getD d true || BL T i T.length d
section
variable {md : Region.Mode} {ops : Array Oper} {T : Bool × List (List Nat × List Nat)} {l l' li lj lk : Array Bool} {ds : List Nat} {i j k : Nat}
theorem gd (l : Array Bool) (j : Nat) (b : Bool) : l.getD j b = l.toList.getD j b := by simp [Array.getD_eq_getD_getElem?, List.getD_eq_getElem?_getD]
theorem GV (o : Oper) (p : Nat → Bool) : o.after.all (fun e => !Region.binds md e || p e.on) = (yC md o).all p := by
  unfold yC
  rw [← Array.all_toList]
  induction o.after.toList with
  | nil => rfl
  | cons e r ih =>
    rw [List.all_cons, ih, List.filter_cons]
    cases h : Region.binds md e <;> simp
theorem O9 (o : Oper) (p : Nat → Bool) : o.after.any (fun e => Region.binds md e && p e.on) = (yC md o).any p := by
  unfold yC
  rw [← Array.any_toList]
  induction o.after.toList with
  | nil => rfl
  | cons e r ih =>
    rw [List.any_cons, ih, List.filter_cons]
    cases h : Region.binds md e <;> simp
theorem uK : (ru md ops).2.length = ops.size := by simp [ru]
theorem yD {o : Oper} (h : ops[i]? = some o) : (ru md ops).2[i]? = some (yC md o, IE md ops i o) := by
 have hi := (Array.getElem?_eq_some_iff.1 h).1
 unfold ru
 rw [List.getElem?_map, List.getElem?_range hi, Option.map_some, h]
theorem yE (h : ops[i]? = none) : (ru md ops).2[i]? = none := by
 have hi : ops.size ≤ i := Array.getElem?_eq_none_iff.1 h
 exact List.getElem?_eq_none (by rw [uK]; exact hi)
theorem MR : uJ (ru md ops).2 l.toList i = (!l.getD i true && ((ops[i]?).map (·.after.all fun e => !Region.binds md e || l.getD e.on false)).getD false) := by
  unfold uJ
  rw [gd]
  cases h : ops[i]? with
  | none => rw [yE h]; rfl
  | some o =>
    rw [yD h]
    simp only [Option.map_some, Option.getD_some]
    rw [← GV]
    simp only [gd]
theorem ready_eq : Region.ready md ops l = BK (ru md ops).2 l.toList := by
 unfold Region.ready BK
 rw [uK]
 refine List.filter_congr (fun i _ => ?_)
 rw [MR]
theorem free_eq : Region.free md ops l i = JM (ru md ops).2 l.toList i := by
  unfold Region.free JM
  cases h : ops[i]? with
  | none => rw [yE h]
  | some oi =>
    rw [yD h]
    simp only [IE]
    rw [List.all_filter]
    congr 1
    funext j
    rw [gd]
    cases hj : ops[j]? with
    | none => cases (j == i) <;> cases (l.toList.getD j true) <;> simp
    | some oj =>
      cases (j == i) <;> cases (l.toList.getD j true) <;> cases (oj.after.any (fun e => Region.binds md e && e.on == i) || oi.apart ops oj) <;> simp_all
theorem Pg : Region.zV md ops l = DT (ru md ops).2 l.toList := by
  unfold Region.zV DT
  rw [uK]
  congr 1
  funext j
  rw [gd]
  cases h : ops[j]? with
  | none => rw [yE h]
  | some o =>
    rw [yD h]
    simp only
    rw [← GV]
    simp only [gd]
theorem reach_eq : ∀ (fuel d : Nat), Region.sS md ops i fuel d = BL (ru md ops).2 i fuel d
  | 0, _ => rfl
  | fuel + 1, d => by
    unfold Region.sS BL
    cases h : ops[d]? with
    | none => rw [yE h]
    | some o =>
      rw [yD h]
      simp only
      rw [← O9]
      congr 1
      funext e
      rw [reach_eq fuel]
theorem Ua : Region.lastB md ops l ds i = lastT (ru md ops).2 l.toList ds i := by
 unfold Region.lastB lastT
 rw [uK]
 congr 1
 funext d
 rw [gd, reach_eq]
theorem CZ (h : uJ T.2 l.toList i = true) (hT : ru md ops = T) : (Region.ready md ops l).contains i = true := by
 subst hT
 rw [ready_eq]
 unfold BK
 rw [List.contains_iff_mem, List.mem_filter, List.mem_range]
 refine ⟨?_, h⟩
 unfold uJ at h
 rw [Bool.and_eq_true] at h
 cases hq : (ru md ops).2[i]? with
 | none => rw [hq] at h; simp at h
 | some r => exact (List.getElem?_eq_some_iff.1 hq).1
theorem Ed (h : (l.toList.set i true == l'.toList) = true) : (l.setIfInBounds i true == l') = true := by
 rw [beq_iff_eq] at h ⊢
 apply Array.ext'
 rw [Array.toList_setIfInBounds]
 exact h
def YF (T : Bool × List (List Nat × List Nat)) (l l' : List Bool) (i : Nat) : Bool := T.1 && JM T.2 l i && uJ T.2 l i && (l.set i true == l')
theorem dD (hT : ru md ops = T) (h : YF T l.toList l'.toList i = true) : TW md ops l l' i = true := by
 simp only [YF, Bool.and_eq_true] at h
 obtain ⟨⟨⟨h1, h2⟩, h3⟩, h4⟩ := h
 have h5 := CZ h3 hT
 have h6 := Ed h4
 subst hT
 simp only [TW, Bool.and_eq_true]
 exact ⟨⟨⟨h1, by rw [free_eq]; exact h2⟩, h5⟩, h6⟩
def Qy (T : Bool × List (List Nat × List Nat)) (ds : List Nat) (l l' : List Bool) (i : Nat) : Bool := T.1 && JM T.2 l i && uJ T.2 l i && DT T.2 l && lastT T.2 l ds i && (l.set i true == l')
theorem Ub (hT : ru md ops = T) (h : Qy T ds l.toList l'.toList i = true) : takeB md ops ds l l' i = true := by
 simp only [Qy, Bool.and_eq_true] at h
 obtain ⟨⟨⟨⟨⟨h1, h2⟩, h3⟩, h4⟩, h5⟩, h6⟩ := h
 have h7 := CZ h3 hT
 have h8 := Ed h6
 subst hT
 simp only [takeB, Bool.and_eq_true]
 exact ⟨⟨⟨⟨⟨h1, by rw [free_eq]; exact h2⟩, h7⟩, by rw [Pg]; exact h4⟩, by rw [Ua]; exact h5⟩, h8⟩
theorem jD (hT : ru md ops = T) (h : (BK T.2 l.toList == [i] && l.toList.set i true == l'.toList) = true) : IC md ops l l' i = true := by
 simp only [Bool.and_eq_true] at h
 obtain ⟨h1, h2⟩ := h
 subst hT
 simp only [IC, Bool.and_eq_true]
 exact ⟨by rw [ready_eq]; exact h1, Ed h2⟩
theorem IG (hT : ru md ops = T) (h : (BK T.2 l.toList == [i, j] && l.toList.set i true == li.toList && l.toList.set j true == lj.toList) = true) : (Region.ready md ops l == [i, j] && l.setIfInBounds i true == li && l.setIfInBounds j true == lj) = true := by
 simp only [Bool.and_eq_true] at h ⊢
 obtain ⟨⟨h1, h2⟩, h3⟩ := h
 subst hT
 exact ⟨⟨by rw [ready_eq]; exact h1, Ed h2⟩, Ed h3⟩
theorem su (hT : ru md ops = T) (h : (BK T.2 l.toList == []) = true) : (Region.ready md ops l == []) = true := by
 subst hT
 rw [ready_eq]
 exact h
def Ws (B : List Nat) (d : Nat) : List Nat → Nat
 | [] => 0
 | n :: r => (2 ^ n ||| (if n < d then B.getD n 0 else 0)) ||| Ws B d r
def qG (T : List (List Nat × List Nat)) (B : List Nat) : Bool := (List.range T.length).all fun d => match T[d]? with
 | some r => (B.getD d 0 ||| Ws B d r.1) == Ws B d r.1
 | none => false
theorem Oo {B : List Nat} {d i : Nat} : ∀ {ns : List Nat}, (Ws B d ns).testBit i = true → ∃ n ∈ ns, n = i ∨ (n < d ∧ (B.getD n 0).testBit i = true)
  | [], h => by simp [Ws] at h
  | n :: r, h => by
    unfold Ws at h
    rw [Nat.testBit_or, Nat.testBit_or, Bool.or_eq_true, Bool.or_eq_true] at h
    rcases h with (h | h) | h
    · rw [Nat.testBit_two_pow] at h
      exact ⟨n, List.mem_cons_self, .inl (by simpa using h)⟩
    · by_cases hn : n < d
      · rw [if_pos hn] at h
        exact ⟨n, List.mem_cons_self, .inr ⟨hn, h⟩⟩
      · rw [if_neg hn] at h
        simp at h
    · obtain ⟨m, hm, h2⟩ := Oo h
      exact ⟨m, List.mem_cons_of_mem _ hm, h2⟩
theorem GX {T : List (List Nat × List Nat)} {B : List Nat} (hB : qG T B = true) : ∀ (fuel d : Nat), d < fuel → d < T.length → (B.getD d 0).testBit i = true → BL T i fuel d = true
  | 0, d, h, _, _ => by omega
  | fuel + 1, d, h, hd, hb => by
    have h1 := List.all_eq_true.1 hB d (List.mem_range.2 hd)
    cases hr : T[d]? with
    | none => rw [hr] at h1; simp at h1
    | some r =>
      rw [hr] at h1
      simp only [beq_iff_eq] at h1
      have h2 : (Ws B d r.1).testBit i = true := by rw [← h1, Nat.testBit_or, hb, Bool.true_or]
      obtain ⟨n, hn, h3⟩ := Oo h2
      unfold BL
      rw [hr]
      simp only
      rw [List.any_eq_true]
      refine ⟨n, hn, ?_⟩
      rcases h3 with rfl | ⟨h4, h5⟩
      · simp
      · rw [GX hB fuel n (by omega) (by omega) h5, Bool.or_true]
def Vo (T : List (List Nat × List Nat)) (B : List Nat) (l : List Bool) (ds : List Nat) (i : Nat) : Bool := ds.all fun d => l.getD d true || (decide (d < T.length) && (B.getD d 0).testBit i)
def Vp (T : Bool × List (List Nat × List Nat)) (B : List Nat) (ds : List Nat) (l l' : List Bool) (i : Nat) : Bool := T.1 && JM T.2 l i && uJ T.2 l i && DT T.2 l && Vo T.2 B l ds i && (l.set i true == l')
theorem fM {B : List Nat} (hT : ru md ops = T) (hB : qG T.2 B = true) (h : Vp T B ds l.toList l'.toList i = true) : takeB md ops ds l l' i = true := by
 refine Ub hT ?_
 simp only [Vp, Qy, Bool.and_eq_true] at h ⊢
 obtain ⟨⟨⟨⟨⟨h1, h2⟩, h3⟩, h4⟩, h5⟩, h6⟩ := h
 refine ⟨⟨⟨⟨⟨h1, h2⟩, h3⟩, h4⟩, ?_⟩, h6⟩
 unfold Vo at h5
 unfold lastT
 rw [List.all_eq_true] at h5 ⊢
 intro d hd
 have h7 := h5 d hd
 rw [Bool.or_eq_true, Bool.and_eq_true, decide_eq_true_eq] at h7
 rcases h7 with h7 | ⟨h8, h9⟩
 ·rw [h7, Bool.true_or]
 ·rw [GX hB _ d h8 h8 h9, Bool.or_true]
theorem mQ {P : Program} {Q : Exit → Act → World → Prop} {S : World → Prop} {n : Nat} {a : Act} {w : World} {B : List Nat} (hT : ru md ops = T) (hB : qG T.2 B = true) (h : aj (ru md ops = T) → aj (qG T.2 B = true) → fF P md ops Q S ds n l a w) : fF P md ops Q S ds n l a w := h ⟨hT⟩ ⟨hB⟩
end
def zf : Code → Nat → Option (Array Oper)
  | .region id ops _, k => if id == k then some ops else none
  | .seq a b, k => match zf a k with
    | some o => some o
    | none => zf b k
  | .cond _ a b, k => match zf a k with
    | some o => some o
    | none => zf b k
  | .block _ c, k => zf c k
  | .loop c, k => zf c k
  | .scope c, k => zf c k
  | .rangeFunc _ _ a b, k => match zf a k with
    | some o => some o
    | none => zf b k
  | _, _ => none
def opsOf (f : Func) (k : Nat) : Array Oper := ((f.body.bind fun c => zf c k)).getD #[]
end Go.Proofs.YtooiccpmngmapaaW.PrintLast