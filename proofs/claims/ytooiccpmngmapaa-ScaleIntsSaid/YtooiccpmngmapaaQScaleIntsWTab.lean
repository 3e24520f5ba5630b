/- Words that the proof of ScaleInts leans on. -/
import Derived.Test.YtooiccpmngmapaaQScaleIntsWLast
import Derived.Test.YtooiccpmngmapaaQScaleIntsWWords
namespace Go.Proofs.YtooiccpmngmapaaW.PrintLast
open Go.Proofs.YtooiccpmngmapaaW.PrintWords (aj)
def zG (md : Region.Mode) (o : Oper) : List Nat := (o.after.toList.filter (fun e => Region.binds md e)).map (fun e => e.on)
def Jq (md : Region.Mode) (ops : Array Oper) (i : Nat) (oi : Oper) : List Nat := (List.range ops.size).filter fun j => !(j == i) && match ops[j]? with
 | some oj => !(oj.after.any (fun e => Region.binds md e && e.on == i) || oi.apart ops oj)
 | none => false
def rZ (md : Region.Mode) (ops : Array Oper) : Bool × List (List Nat × List Nat) := (Region.noSelect ops, (List.range ops.size).map fun i => match ops[i]? with
 | some o => (zG md o, Jq md ops i o)
 | none => ([], []))
def uV (T : List (List Nat × List Nat)) (l : List Bool) (i : Nat) : Bool := !l.getD i true && match T[i]? with
 | some r => r.1.all (fun j => l.getD j false)
 | none => false
def Dk (T : List (List Nat × List Nat)) (l : List Bool) : List Nat := (List.range T.length).filter (uV T l)
def KT (T : List (List Nat × List Nat)) (l : List Bool) (i : Nat) : Bool := match T[i]? with
 | some r => r.2.all (fun j => l.getD j true)
 | none => false
def Ez (T : List (List Nat × List Nat)) (l : List Bool) : Bool := (List.range T.length).all fun j => !l.getD j false || match T[j]? with
 | some r => r.1.all (fun k => l.getD k false)
 | none => true
def Dl (T : List (List Nat × List Nat)) (i : Nat) : Nat → Nat → Bool
  | 0, _ => false
  | fuel + 1, d => match T[d]? with
    | some r => r.1.any fun j => j == i || Dl T i fuel j
    | none => false
def lastT (T : List (List Nat × List Nat)) (l : List Bool) (ds : List Nat) (i : Nat) : Bool := ds.all fun d => l.getD d true || Dl T i T.length d
section
variable {md : Region.Mode} {ops : Array Oper} {T : Bool × List (List Nat × List Nat)} {l l' li lj lk : Array Bool} {ds : List Nat} {i j k : Nat}
theorem gd (l : Array Bool) (j : Nat) (b : Bool) : l.getD j b = l.toList.getD j b := by simp [Array.getD_eq_getD_getElem?, List.getD_eq_getElem?_getD]
theorem Iw (o : Oper) (p : Nat → Bool) : o.after.all (fun e => !Region.binds md e || p e.on) = (zG md o).all p := by
  unfold zG
  rw [← Array.all_toList]
  induction o.after.toList with
  | nil => rfl
  | cons e r ih =>
    rw [List.all_cons, ih, List.filter_cons]
    cases h : Region.binds md e <;> simp
theorem Qo (o : Oper) (p : Nat → Bool) : o.after.any (fun e => Region.binds md e && p e.on) = (zG md o).any p := by
  unfold zG
  rw [← Array.any_toList]
  induction o.after.toList with
  | nil => rfl
  | cons e r ih =>
    rw [List.any_cons, ih, List.filter_cons]
    cases h : Region.binds md e <;> simp
theorem uX : (rZ md ops).2.length = ops.size := by simp [rZ]
theorem zH {o : Oper} (h : ops[i]? = some o) : (rZ md ops).2[i]? = some (zG md o, Jq md ops i o) := by
 have hi := (Array.getElem?_eq_some_iff.1 h).1
 unfold rZ
 rw [List.getElem?_map, List.getElem?_range hi, Option.map_some, h]
theorem zI (h : ops[i]? = none) : (rZ md ops).2[i]? = none := by
 have hi : ops.size ≤ i := Array.getElem?_eq_none_iff.1 h
 exact List.getElem?_eq_none (by rw [uX]; exact hi)
theorem NC : uV (rZ md ops).2 l.toList i = (!l.getD i true && ((ops[i]?).map (·.after.all fun e => !Region.binds md e || l.getD e.on false)).getD false) := by
  unfold uV
  rw [gd]
  cases h : ops[i]? with
  | none => rw [zI h]; rfl
  | some o =>
    rw [zH h]
    simp only [Option.map_some, Option.getD_some]
    rw [← Iw]
    simp only [gd]
theorem ready_eq : Region.ready md ops l = Dk (rZ md ops).2 l.toList := by
 unfold Region.ready Dk
 rw [uX]
 refine List.filter_congr (fun i _ => ?_)
 rw [NC]
theorem free_eq : Region.free md ops l i = KT (rZ md ops).2 l.toList i := by
  unfold Region.free KT
  cases h : ops[i]? with
  | none => rw [zI h]
  | some oi =>
    rw [zH h]
    simp only [Jq]
    rw [List.all_filter]
    congr 1
    funext j
    rw [gd]
    cases hj : ops[j]? with
    | none => cases (j == i) <;> cases (l.toList.getD j true) <;> simp
    | some oj =>
      cases (j == i) <;> cases (l.toList.getD j true) <;> cases (oj.after.any (fun e => Region.binds md e && e.on == i) || oi.apart ops oj) <;> simp_all
theorem Qp : Region.Bg md ops l = Ez (rZ md ops).2 l.toList := by
  unfold Region.Bg Ez
  rw [uX]
  congr 1
  funext j
  rw [gd]
  cases h : ops[j]? with
  | none => rw [zI h]
  | some o =>
    rw [zH h]
    simp only
    rw [← Iw]
    simp only [gd]
theorem reach_eq : ∀ (fuel d : Nat), Region.sQ md ops i fuel d = Dl (rZ md ops).2 i fuel d
  | 0, _ => rfl
  | fuel + 1, d => by
    unfold Region.sQ Dl
    cases h : ops[d]? with
    | none => rw [zI h]
    | some o =>
      rw [zH h]
      simp only
      rw [← Qo]
      congr 1
      funext e
      rw [reach_eq fuel]
theorem U7 : Region.lastB md ops l ds i = lastT (rZ md ops).2 l.toList ds i := by
 unfold Region.lastB lastT
 rw [uX]
 congr 1
 funext d
 rw [gd, reach_eq]
theorem DI (h : uV T.2 l.toList i = true) (hT : rZ md ops = T) : (Region.ready md ops l).contains i = true := by
 subst hT
 rw [ready_eq]
 unfold Dk
 rw [List.contains_iff_mem, List.mem_filter, List.mem_range]
 refine ⟨?_, h⟩
 unfold uV at h
 rw [Bool.and_eq_true] at h
 cases hq : (rZ md ops).2[i]? with
 | none => rw [hq] at h; simp at h
 | some r => exact (List.getElem?_eq_some_iff.1 hq).1
theorem EU (h : (l.toList.set i true == l'.toList) = true) : (l.setIfInBounds i true == l') = true := by
 rw [beq_iff_eq] at h ⊢
 apply Array.ext'
 rw [Array.toList_setIfInBounds]
 exact h
def Zz (T : Bool × List (List Nat × List Nat)) (l l' : List Bool) (i : Nat) : Bool := T.1 && KT T.2 l i && uV T.2 l i && (l.set i true == l')
theorem gu (hT : rZ md ops = T) (h : Zz T l.toList l'.toList i = true) : U5 md ops l l' i = true := by
 simp only [Zz, Bool.and_eq_true] at h
 obtain ⟨⟨⟨h1, h2⟩, h3⟩, h4⟩ := h
 have h5 := DI h3 hT
 have h6 := EU h4
 subst hT
 simp only [U5, Bool.and_eq_true]
 exact ⟨⟨⟨h1, by rw [free_eq]; exact h2⟩, h5⟩, h6⟩
def RS (T : Bool × List (List Nat × List Nat)) (ds : List Nat) (l l' : List Bool) (i : Nat) : Bool := T.1 && KT T.2 l i && uV T.2 l i && Ez T.2 l && lastT T.2 l ds i && (l.set i true == l')
theorem U8 (hT : rZ md ops = T) (h : RS T ds l.toList l'.toList i = true) : takeB md ops ds l l' i = true := by
 simp only [RS, Bool.and_eq_true] at h
 obtain ⟨⟨⟨⟨⟨h1, h2⟩, h3⟩, h4⟩, h5⟩, h6⟩ := h
 have h7 := DI h3 hT
 have h8 := EU h6
 subst hT
 simp only [takeB, Bool.and_eq_true]
 exact ⟨⟨⟨⟨⟨h1, by rw [free_eq]; exact h2⟩, h7⟩, by rw [Qp]; exact h4⟩, by rw [U7]; exact h5⟩, h8⟩
theorem kZ (hT : rZ md ops = T) (h : (Dk T.2 l.toList == [i] && l.toList.set i true == l'.toList) = true) : Jp md ops l l' i = true := by
 simp only [Bool.and_eq_true] at h
 obtain ⟨h1, h2⟩ := h
 subst hT
 simp only [Jp, Bool.and_eq_true]
 exact ⟨by rw [ready_eq]; exact h1, EU h2⟩
theorem Jr (hT : rZ md ops = T) (h : (Dk T.2 l.toList == [i, j] && l.toList.set i true == li.toList && l.toList.set j true == lj.toList) = true) : (Region.ready md ops l == [i, j] && l.setIfInBounds i true == li && l.setIfInBounds j true == lj) = true := by
 simp only [Bool.and_eq_true] at h ⊢
 obtain ⟨⟨h1, h2⟩, h3⟩ := h
 subst hT
 exact ⟨⟨by rw [ready_eq]; exact h1, EU h2⟩, EU h3⟩
theorem zJ (hT : rZ md ops = T) (h : (Dk T.2 l.toList == []) = true) : (Region.ready md ops l == []) = true := by
 subst hT
 rw [ready_eq]
 exact h
def XD (B : List Nat) (d : Nat) : List Nat → Nat
 | [] => 0
 | n :: r => (2 ^ n ||| (if n < d then B.getD n 0 else 0)) ||| XD B d r
def tJ (T : List (List Nat × List Nat)) (B : List Nat) : Bool := (List.range T.length).all fun d => match T[d]? with
 | some r => (B.getD d 0 ||| XD B d r.1) == XD B d r.1
 | none => false
theorem Pg {B : List Nat} {d i : Nat} : ∀ {ns : List Nat}, (XD B d ns).testBit i = true → ∃ n ∈ ns, n = i ∨ (n < d ∧ (B.getD n 0).testBit i = true)
  | [], h => by simp [XD] at h
  | n :: r, h => by
    unfold XD at h
    rw [Nat.testBit_or, Nat.testBit_or, Bool.or_eq_true, Bool.or_eq_true] at h
    rcases h with (h | h) | h
    · rw [Nat.testBit_two_pow] at h
      exact ⟨n, List.mem_cons_self, .inl (by simpa using h)⟩
    · by_cases hn : n < d
      · rw [if_pos hn] at h
        exact ⟨n, List.mem_cons_self, .inr ⟨hn, h⟩⟩
      · rw [if_neg hn] at h
        simp at h
    · obtain ⟨m, hm, h2⟩ := Pg h
      exact ⟨m, List.mem_cons_of_mem _ hm, h2⟩
theorem Iy {T : List (List Nat × List Nat)} {B : List Nat} (hB : tJ T B = true) : ∀ (fuel d : Nat), d < fuel → d < T.length → (B.getD d 0).testBit i = true → Dl T i fuel d = true
  | 0, d, h, _, _ => by omega
  | fuel + 1, d, h, hd, hb => by
    have h1 := List.all_eq_true.1 hB d (List.mem_range.2 hd)
    cases hr : T[d]? with
    | none => rw [hr] at h1; simp at h1
    | some r =>
      rw [hr] at h1
      simp only [beq_iff_eq] at h1
      have h2 : (XD B d r.1).testBit i = true := by rw [← h1, Nat.testBit_or, hb, Bool.true_or]
      obtain ⟨n, hn, h3⟩ := Pg h2
      unfold Dl
      rw [hr]
      simp only
      rw [List.any_eq_true]
      refine ⟨n, hn, ?_⟩
      rcases h3 with rfl | ⟨h4, h5⟩
      · simp
      · rw [Iy hB fuel n (by omega) (by omega) h5, Bool.or_true]
def WS (T : List (List Nat × List Nat)) (B : List Nat) (l : List Bool) (ds : List Nat) (i : Nat) : Bool := ds.all fun d => l.getD d true || (decide (d < T.length) && (B.getD d 0).testBit i)
def WT (T : Bool × List (List Nat × List Nat)) (B : List Nat) (ds : List Nat) (l l' : List Bool) (i : Nat) : Bool := T.1 && KT T.2 l i && uV T.2 l i && Ez T.2 l && WS T.2 B l ds i && (l.set i true == l')
theorem iQ {B : List Nat} (hT : rZ md ops = T) (hB : tJ T.2 B = true) (h : WT T B ds l.toList l'.toList i = true) : takeB md ops ds l l' i = true := by
 refine U8 hT ?_
 simp only [WT, RS, Bool.and_eq_true] at h ⊢
 obtain ⟨⟨⟨⟨⟨h1, h2⟩, h3⟩, h4⟩, h5⟩, h6⟩ := h
 refine ⟨⟨⟨⟨⟨h1, h2⟩, h3⟩, h4⟩, ?_⟩, h6⟩
 unfold WS at h5
 unfold lastT
 rw [List.all_eq_true] at h5 ⊢
 intro d hd
 have h7 := h5 d hd
 rw [Bool.or_eq_true, Bool.and_eq_true, decide_eq_true_eq] at h7
 rcases h7 with h7 | ⟨h8, h9⟩
 ·rw [h7, Bool.true_or]
 ·rw [Iy hB _ d h8 h8 h9, Bool.or_true]
theorem uf {P : Program} {Q : Exit → Act → World → Prop} {S : World → Prop} {n : Nat} {a : Act} {w : World} {B : List Nat} (hT : rZ md ops = T) (hB : tJ T.2 B = true) (h : aj (rZ md ops = T) → aj (tJ T.2 B = true) → fO P md ops Q S ds n l a w) : fO P md ops Q S ds n l a w := h ⟨hT⟩ ⟨hB⟩
end
def Af : Code → Nat → Option (Array Oper)
  | .region id ops _, k => if id == k then some ops else none
  | .seq a b, k => match Af a k with
    | some o => some o
    | none => Af b k
  | .cond _ a b, k => match Af a k with
    | some o => some o
    | none => Af b k
  | .block _ c, k => Af c k
  | .loop c, k => Af c k
  | .scope c, k => Af c k
  | .rangeFunc _ _ a b, k => match Af a k with
    | some o => some o
    | none => Af b k
  | _, _ => none
def opsOf (f : Func) (k : Nat) : Array Oper := ((f.body.bind fun c => Af c k)).getD #[]
end Go.Proofs.YtooiccpmngmapaaW.PrintLast