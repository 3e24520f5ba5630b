/- A walk by hand: the statement PairsFinds answers true. No condition. -/
import Derived.Test.YtacgeafjilipdaaMPure07B
import Derived.Test.YtacgeafjilipdaaPR07
import Derived.Test.YtacgeafjilipdaaMAwake07
namespace Go.Proofs.Ytacgeafjilipdaa.P
open Go.RowKit Go.Shelf Go.Proofs.YtacgeafjilipdaaW.PrintWords Go.Proofs.YtacgeafjilipdaaW.PrintLast Go.Proofs.YtacgeafjilipdaaW.PrintMore
set_option linter.unusedVariables false
set_option linter.unusedSimpArgs false

abbrev Rpr := S150
def toP (s : Pr) : Rpr := ⟨s.f0, s.f1⟩
theorem rdRpr_map {l : List Pr} {i : Nat} (h : i < l.length) : rd_T150 (l.map toP) (i : Int) = toP l[i] := by unfold rd_T150; simp [List.getD, h]
theorem lawPlain_loop (l : List Pr) (hm : l.length < 8796093022208) : ∀ (d k i : Nat), l.length - i = d → d < k → i ≤ l.length →
    tidepolelaw07_plain.l0 k ((l.take i).map toP) l (l.length : Int) (i : Int) = some (l.map toP) := by
  intro d
  induction d with
  | zero =>
    intro k i hd hk hi
    obtain ⟨k, rfl⟩ : ∃ m, k = m + 1 := ⟨k - 1, by omega⟩
    simp only [tidepolelaw07_plain.l0]
    rw [if_neg (by omega), List.take_of_length_le (by omega)]
  | succ d ih =>
    intro k i hd hk hi
    obtain ⟨k, rfl⟩ : ∃ m, k = m + 1 := ⟨k - 1, by omega⟩
    have hlt : i < l.length := by omega
    have hl1 : ((l.take i).map toP).length = i := by simp; omega
    simp only [tidepolelaw07_plain.l0]
    rw [if_pos (by omega), if_pos (by omega), if_pos (by omega), hl1, rdPr_at hlt, if_pos (by omega), wrap_succ (by omega), ← ih k (i + 1) (by omega) (by omega) (by omega), take_at hlt]
    simp only [List.map_append, List.map_cons, List.map_nil]
    rfl
theorem lawPlain_eq (l : List Pr) (hm : l.length < 8796093022208) (k : Nat) (hk : l.length < k) : tidepolelaw07_plain.f k l = some (l.map toP) := by
  unfold tidepolelaw07_plain.f
  exact lawPlain_loop l hm l.length k 0 (by omega) (by omega) (by omega)

theorem refFind_loop (l : List Pr) (p : Int) (hm : l.length < 8796093022208) : ∀ (d k i : Nat), l.length - i = d → d < k → i ≤ l.length → (∀ j (hj : j < l.length), j < i → (l[j].f0 == p) = false) →
    tidepoleref07_Find.l0 k (l.map toP) p (i : Int) = some (idxP (fun x : Pr => x.f0 == p) l) := by
  intro d
  induction d with
  | zero =>
    intro k i hd hk hi hb
    obtain ⟨k, rfl⟩ : ∃ m, k = m + 1 := ⟨k - 1, by omega⟩
    simp only [tidepoleref07_Find.l0, List.length_map]
    rw [if_neg (by omega), idxP_miss _ _ (fun j hj => hb j hj (by omega))]
  | succ d ih =>
    intro k i hd hk hi hb
    obtain ⟨k, rfl⟩ : ∃ m, k = m + 1 := ⟨k - 1, by omega⟩
    have hlt : i < l.length := by omega
    rw [tidepoleref07_Find.l0, List.length_map, if_pos (by omega), if_pos (by omega), rdRpr_map hlt, show (toP l[i]).f0 = l[i].f0 from rfl]
    by_cases c : l[i].f0 = p
    · rw [if_pos c, idxP_hit _ _ i hlt (by simpa using c) (fun j hj => hb j _ hj)]
    · rw [if_neg c, wrap_succ (by omega)]
      refine ih k (i + 1) (by omega) (by omega) (by omega) (fun j hj hji => ?_)
      by_cases hj2 : j < i
      · exact hb j hj hj2
      · have : j = i := by omega
        subst this; simpa using c
theorem refFind_eq (l : List Pr) (p : Int) (hm : l.length < 8796093022208) (k : Nat) (hk : l.length < k) : tidepoleref07_Find.f k (l.map toP) p = some (idxP (fun x : Pr => x.f0 == p) l) := by
  unfold tidepoleref07_Find.f
  exact refFind_loop l p hm l.length k 0 (by omega) (by omega) (by omega) (fun j _ h => by omega)

def tidepolelaw07_PairsFinds.f (l0 : List Pr) (a1 a2 : Int) : Option Bool := some true

/-- The places of the kept ones, one by one. -/
theorem filter_at {α : Type} (p : α → Bool) (l : List α) (i : Nat) (h : i < l.length) :
    (l.take (i + 1)).filter p = (l.take i).filter p ++ (if p l[i] = true then [l[i]] else []) := by
  rw [take_at h, List.filter_append]
  congr 1
  split <;> simp_all
theorem filter_get {α : Type} (p : α → Bool) (l : List α) (i : Nat) (h : i < l.length) (hp : p l[i] = true) :
    ∃ h2 : ((l.take i).filter p).length < (l.filter p).length, (l.filter p)[((l.take i).filter p).length] = l[i] := by
  have e : l.filter p = (l.take i).filter p ++ l[i] :: (l.drop (i + 1)).filter p := by
    have h1 : l = l.take i ++ l[i] :: l.drop (i + 1) := by rw [← drop_at h, List.take_append_drop]
    have h2 := congrArg (List.filter p) h1
    rw [List.filter_append, List.filter_cons_of_pos hp] at h2
    exact h2
  refine ⟨by rw [e]; simp, ?_⟩
  simp only [e]
  simp

set_option maxHeartbeats 8000000 in
set_option maxRecDepth 100000 in
theorem pairsFinds_tail (A0 : Option Addr) (c0 : Nat) (l0 : List Pr) (a1 a2 : Int) (w : World) (hr0 : Kd.C k26 w A0 l0.length l0) (hc0 : l0.length ≤ c0) (hl : l0.length ≤ 300) :
    Calls Try.prog 4 #[.slice A0 l0.length c0, .int .i64 a1, .int .i64 a2] w fun e w' => e = .returned (.bool true) ∧ Below w.heap.size w w' := by
  have hu := Try.underlying26
  have hL : decide (300 < (l0.length : Int)) = false := decide_eq_false (by omega)
  have hL2 : decide (300 < l0.length) = false := decide_eq_false (by omega)
  have HR := Aside0.mk hr0
  have HC := Aside0.mk hc0
  obtain ⟨t, ht⟩ : ∃ t, t = l0.map toP := ⟨_, rfl⟩
  have HP := Aside0.mk (ht ▸ lawPlain_eq l0 (by omega) 400 (by omega))
  have HF := Aside0.mk (ht ▸ refFind_eq l0 a1 (by omega) 400 (by omega))
  clear ht
  obtain ⟨m, hm⟩ : ∃ m, m = l0.filter (fun x => !(x.f1 == a2)) := ⟨_, rfl⟩
  have HM := Aside0.mk hm
  have HI := Aside0.mk (find_idx (fun x : Pr => x.f0 == a1) l0)
  have HW := Aside0.mk (show pairs_Without_int64.f l0 a2 = some m from hm ▸ if_pos (by omega))
  have HE1 := Aside0.mk (show pairs_Equal_int64.f 400 l0 l0 = some true by rw [equalPr_eq l0 l0 (by omega) 400 (by omega)]; simp)
  obtain ⟨be, hbe1, hbe2⟩ : ∃ b, pairs_Equal_int64.f 400 l0 m = some b ∧ ((m.length : Int) == (l0.length : Int)) = b := by
    refine ⟨_, equalPr_eq l0 m (by omega) 400 (by omega), ?_⟩
    rw [Bool.eq_iff_iff, beq_iff_eq, decide_eq_true_iff]
    subst hm
    constructor
    · intro h; exact (List.filter_eq_self.2 (List.length_filter_eq_length_iff.1 (by omega))).symm
    · intro h; rw [← h]
  have HE2 := Aside0.mk hbe1
  have HE3 := Aside0.mk hbe2
  clear hbe1 hbe2
  have HLM := Aside0.mk (show m.length ≤ l0.length from hm ▸ List.length_filter_le _ l0)
  clear hm
  have hfind : ∃ (v : Int) (ok : Bool), pairs_Find_int64.f l0 a1 = some (v, ok) ∧ ((idxP (fun x : Pr => x.f0 == a1) l0 = -1 ∧ v = 0 ∧ ok = false) ∨ ∃ i : Nat, ∃ h : i < l0.length, idxP (fun x : Pr => x.f0 == a1) l0 = (i : Int) ∧ v = l0[i].f1 ∧ ok = true) := by
    unfold pairs_Find_int64.f
    rw [if_pos (by omega)]
    rcases HI.out with ⟨h1, h2⟩ | ⟨i, h, h1, h2⟩
    · rw [h2]; exact ⟨_, _, rfl, .inl ⟨h1, rfl, rfl⟩⟩
    · rw [h2]; exact ⟨_, _, rfl, .inr ⟨i, h, h1, rfl, rfl⟩⟩
  obtain ⟨v, ok, hfd, hcs⟩ := hfind
  have HFD := Aside0.mk hfd
  have HCS := Aside0.mk hcs
  clear hr0 hc0 hfd hcs HI
  generalize idxP (fun x : Pr => x.f0 == a1) l0 = ix at HF HCS
  go_enter Try.func4, Try.ntmps4
  go_upto_region 5 with (first
    | (go_at_call 36; (with_reducible refine (pairs_Find_int64.calls _ _ l0 a1 v ok _ HR.out HC.out HFD.out).mono ?_); rintro e w1 ⟨rfl, hb⟩; have HB := Aside0.mk hb; clear hb)
    | (go_at_call 38; (with_reducible refine (tidepolelaw07_plain.calls 400 _ _ l0 _ _ (Kd.C_below HR.out HB.out) HC.out HP.out).mono ?_); rintro e w2 ⟨v2, rfl, ho2, hb⟩; have HB2 := Aside0.mk (below_then HB.out HB.out.size hb); obtain ⟨A2, c2, rfl, hc2, hC2⟩ := Kd.R_reads ho2; have HC2 := Aside0.mk (And.intro hc2 hC2); clear ho2 hC2 hc2 hb)
    | (go_at_call 37; (with_reducible refine (tidepoleref07_Find.calls 400 _ _ _ a1 ix _ HC2.out.2 HC2.out.1 HF.out).mono ?_); rintro e w3 ⟨rfl, hb⟩; have HB3 := Aside0.mk (below_then HB2.out HB2.out.size hb.below); clear hb))
  have HKeep := Aside0.mk (Kd.C_below HR.out HB3.out)
  rcases HCS.out with ⟨h1, h2, h3⟩ | ⟨i, hi, h1, h2, h3⟩
  case' inl =>
    subst h1; subst h2; subst h3
    clear HCS HF HP HFD HC2 HB HB2
    go_upto_region 8 with (first
      | (go_at_call 39; (with_reducible refine (pairs_Without_int64.calls _ _ l0 a2 m _ HKeep.out HC.out HW.out).mono ?_); rintro e w4 ⟨v4, rfl, ho4, hb⟩; have HB4 := Aside0.mk (below_then HB3.out HB3.out.size hb); obtain ⟨A4, c4, rfl, hc4, hC4⟩ := Kd.R_reads ho4; have HC4 := Aside0.mk (And.intro hc4 hC4); clear ho4 hC4 hc4 hb))
    go_wp2_with fail
  case' inr =>
    have hi0 : (0 : Int) ≤ (i : Int) := by omega
    have hi1 : (i : Int) < (l0.length : Int) := by omega
    have hi2 : decide ((i : Int) ≥ 0) = true := decide_eq_true hi0
    have hi3 : decide ((i : Int) < 0) = false := decide_eq_false (by omega)
    obtain ⟨ad, e1, hx0, hx1⟩ := at_T26 HKeep.out (i : Int) hi0 hi1
    cases e1
    rw [rdPr_at hi, Int.toNat_natCast] at hx0 hx1
    subst h1; subst h2; subst h3
    clear HCS HF HP HFD HC2 HB HB2 hx0
    go_upto_region 8 with (first
      | (go_at_call 39; (with_reducible refine (pairs_Without_int64.calls _ _ l0 a2 m _ HKeep.out HC.out HW.out).mono ?_); rintro e w4 ⟨v4, rfl, ho4, hb⟩; have HB4 := Aside0.mk (below_then HB3.out HB3.out.size hb); obtain ⟨A4, c4, rfl, hc4, hC4⟩ := Kd.R_reads ho4; have HC4 := Aside0.mk (And.intro hc4 hC4); clear ho4 hC4 hc4 hb))
    clear hx1
    go_wp2_with fail
  all_goals
    go_loopg [11, 58] l0.length (fun kq v11 v58 wr => ∃ n : Nat, v11 = .int .i64 ((((l0.take n).filter (fun x => !(x.f1 == a2))).length : Nat) : Int) ∧ v58 = .int .i64 (n : Int) ∧ Aside0 (n + kq = l0.length) ∧ Aside0 (Below w.heap.size w wr) ∧ Aside0 (Kd.C k26 wr A4 m.length m))
    case atStart => exact ⟨0, rfl, rfl, ⟨by omega⟩, HB4, ⟨HC4.out.2⟩⟩
    case round =>
      obtain ⟨n, rfl, rfl, HN, HBr, HCr⟩ := hrel
      clear HB4 HKeep
      by_cases hlt : n < l0.length
      · have hn0 : (0 : Int) ≤ (n : Int) := by omega
        have hn1 : (n : Int) < (l0.length : Int) := by omega
        obtain ⟨ad2, e1, hy0, hy1⟩ := at_T26 (Kd.C_below HR.out HBr.out) (n : Int) hn0 hn1
        cases e1
        rw [rdPr_at hlt, Int.toNat_natCast] at hy0 hy1
        obtain ⟨k1, rfl⟩ : ∃ k1, gk = k1 + 1 := ⟨gk - 1, by have := HN.out; omega⟩
        have hfa := filter_at (fun x : Pr => !(x.f1 == a2)) l0 n hlt
        have hfg := filter_get (fun x : Pr => !(x.f1 == a2)) l0 n hlt
        rw [← HM.out] at hfg
        by_cases hz : l0[n].f1 = a2
        · have hz1 : (l0[n].f1 == a2) = true := beq_iff_eq.2 hz
          rw [if_neg (by simp [hz1]), List.append_nil] at hfa
          clear hfg
          have HFA := Aside0.mk hfa
          clear hfa hz
          go_wp2
          go_roundg k1
          case measure => omega
          case rel =>
            refine ⟨n + 1, by rw [HFA.out], rfl, ⟨by have := HN.out; omega⟩, ⟨below_alloc HBr.out _⟩, ⟨Kd.C_below HCr.out (below_alloc (Below.refl _ _) _)⟩⟩
        · have hz1 : (l0[n].f1 == a2) = false := beq_eq_false_iff_ne.2 hz
          rw [if_pos (by simp [hz1])] at hfa
          obtain ⟨hq1, hq2⟩ := hfg (by simp [hz1])
          obtain ⟨q, hq⟩ : ∃ q, q = ((l0.take n).filter (fun x => !(x.f1 == a2))).length := ⟨_, rfl⟩
          have hqm : q + 1 = ((l0.take (n + 1)).filter (fun x => !(x.f1 == a2))).length := by rw [hfa, hq]; simp
          have HQM := Aside0.mk hqm
          rw [← hq] at hq1
          have hq3 : m[q]'hq1 = l0[n] := by subst hq; exact hq2
          rw [← hq]
          clear hq2 hqm hfa hq hfg
          have hq0 : (0 : Int) ≤ (q : Int) := by omega
          have hq4 : (q : Int) < (m.length : Int) := by omega
          obtain ⟨ad3, e1, hz2, hz3⟩ := at_T26 HCr.out (q : Int) hq0 hq4
          cases e1
          rw [rdPr_at hq1, Int.toNat_natCast, hq3] at hz2 hz3
          clear hq3
          have hg : decide ((q : Int) ≥ (m.length : Int)) = false := decide_eq_false (by omega)
          generalize l0[n] = x at hy0 hy1 hz2 hz3 hz1
          have hbw := World.block_lt_of_cell? wr _ hz2
          have hbw3 := World.block_lt_of_cell? wr _ hz3
          have hz2' := ((below_alloc (Below.refl wr.heap.size wr) (.cells #[.int .i64 x.f0, .int .i64 x.f1] 26)).cell hbw).trans hz2
          have hz3' := ((below_alloc (Below.refl wr.heap.size wr) (.cells #[.int .i64 x.f0, .int .i64 x.f1] 26)).cell hbw3).trans hz3
          clear hz
          go_wp2
          go_quiet (fail)
          try go_wp2
          go_roundg k1
          case measure => omega
          case rel =>
            refine ⟨n + 1, by rw [← HQM.out, wrap_succ (by have := HLM.out; omega)], rfl, ⟨by have := HN.out; omega⟩, ⟨pw_below_drewN (below_alloc HBr.out _) _⟩, ⟨Kd.C_below HCr.out (pw_below_drewN (below_alloc (Below.refl _ _) _) _)⟩⟩
      · have hn1 : decide ((n : Int) < (l0.length : Int)) = false := decide_eq_false (by omega)
        have hn2 : ((l0.take n).filter (fun x => !(x.f1 == a2))).length = m.length := by rw [List.take_of_length_le (by omega), ← HM.out]
        rw [hn2]
        have hbe := HE3.out
        have hbe2 : (m.length == l0.length) = be := by rw [← hbe, Bool.eq_iff_iff, beq_iff_eq, beq_iff_eq]; omega
        have HD := Aside0.mk (Kd.C_below HR.out HBr.out)
        clear hn2 HM HW HE3 HB3
        have HB5 := Aside0.mk (Below.refl wr.heap.size wr)
        go_wp2_with (first
          | (go_at_call 40; (with_reducible refine (pairs_Equal_int64.calls 400 _ _ l0 _ _ l0 true _ (Kd.C_below HD.out HB5.out) HC.out (Kd.C_below HD.out HB5.out) HC.out HE1.out).mono ?_); rintro e w5 ⟨rfl, hb⟩; have HB6 := Aside0.mk (below_then HB5.out HB5.out.size hb.below); clear hb HE1)
          | (go_at_call 40; (with_reducible refine (pairs_Equal_int64.calls 400 _ _ l0 _ _ m be _ (Kd.C_below HD.out HB6.out) HC.out (Kd.C_below HCr.out HB6.out) HC4.out.1 HE2.out).mono ?_); rintro e w6 ⟨rfl, hb⟩; have HB7 := Aside0.mk (below_then HB6.out HB6.out.size hb.below); clear hb HE2)
          | (go_at_call 30; (with_reducible refine (tidepolelaw07_awake.calls true _ rfl).mono ?_); rintro e w7 ⟨rfl, hb⟩; have HB8 := Aside0.mk (below_then HBr.out HBr.out.size (below_then HB7.out HB7.out.size hb)); clear hb))
        go_ret
        exact ⟨rfl, HB8.out⟩

theorem tidepolelaw07_PairsFinds.calls (A0 : Option Addr) (c0 : Nat) (l0 : List Pr) (a1 a2 : Int) (r : Bool) (w : World) (hr0 : Kd.C k26 w A0 l0.length l0) (hc0 : l0.length ≤ c0) (h : tidepolelaw07_PairsFinds.f l0 a1 a2 = some r) :
    Calls Try.prog 4 #[.slice A0 l0.length c0, .int .i64 a1, .int .i64 a2] w fun e w' => e = .returned (.bool r) ∧ Below w.heap.size w w' := by
  obtain rfl : true = r := Option.some.inj h
  clear h
  by_cases hl : l0.length ≤ 300
  · exact pairsFinds_tail A0 c0 l0 a1 a2 w hr0 hc0 hl
  have hL : decide (300 < (l0.length : Int)) = true := decide_eq_true (by omega)
  have hL2 : decide (300 < l0.length) = true := decide_eq_true (by omega)
  clear hr0 hc0
  go_enter Try.func4, Try.ntmps4
  go_wp2_with (go_at_call 30; (with_reducible refine (tidepolelaw07_awake.calls true _ rfl).mono ?_); rintro e w7 ⟨rfl, hb⟩; have HB8 := Aside0.mk hb; clear hb)
  go_ret
  exact ⟨rfl, HB8.out⟩

end Go.Proofs.Ytacgeafjilipdaa.P
