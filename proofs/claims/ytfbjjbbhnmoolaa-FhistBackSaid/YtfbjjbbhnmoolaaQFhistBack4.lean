/- FhistBack: the part that this text bears of the proof that the statement answers true for every input. No condition. -/
import Derived.Test.YtfbjjbbhnmoolaaQFhistBack3
import Derived.ProofKit
import Derived.JoinedOf
import Derived.OpenShut
import Derived.ShutString
import Derived.ChangeOld
import Derived.SizedLaws
import Derived.JoinedTies
import Derived.Test.YtfbjjbbhnmoolaaChecked
import GoSem.Claim
import GoSem.ClaimJoined
import GoSem.ClaimMapViews
set_option linter.unusedVariables false
set_option linter.unusedSimpArgs false
namespace Go.Proofs.Ytfbjjbbhnmoolaa.P
open Go.RowKit Go.Shelf Go.Proofs.YtfbjjbbhnmoolaaW.PrintWords Go.Proofs.YtfbjjbbhnmoolaaW.PrintLast Go.Proofs.YtfbjjbbhnmoolaaW.PrintMore
set_option maxHeartbeats 8000000 in
set_option maxRecDepth 100000 in
theorem backForm_c (wh : Int → Int × Bool) (h : Fh) (hw : wfF h) (hc : checkF h = 0) (h7 : h.f7.length ≤ 4096) (h8 : h.f8.length ≤ 4096) (hwh : ∀ v, v = h.f2 ∨ v = h.f3 ∨ v ∈ h.f7 ∨ v ∈ h.f8 → ∀ w, Calls Try.prog 29 #[.int .u64 v] w fun e w' => e = .returned (.tuple #[.int .u64 (wh v).1, .bool (wh v).2]) ∧ Below w.heap.size w w')
    (hn : (wholesR wh [h.f2, h.f3]).2 = false) (w : World) (v : Value) (hv : GI w v h) : Calls Try.prog 35 #[v] w fun e w' => e = .returned (.tuple #[.agg #[.int .i64 0, .int .u64 0, .int .u64 0, .int .u64 0, .int .u64 0, .slice none 0 0, .slice none 0 0, .slice none 0 0, .slice none 0 0], .int .i64 10]) ∧ Below w.heap.size w w' := by
  have hud := Try.underlying31
  have huh := Try.underlying26
  have kc := fcheck_c h hw
  rw [hc] at kc
  have wa := wholes_c wh [h.f2, h.f3] (by simp) (fun x hx => hwh x (by simp at hx; rcases hx with h | h; exact .inl h; exact .inr (.inl h)))
  have wb := wholes_c wh h.f7 h7 (fun x hx => hwh x (.inr (.inr (.inl hx))))
  have wc := wholes_c wh h.f8 h8 (fun x hx => hwh x (.inr (.inr (.inr hx))))
  rw [hn] at wa
  generalize (wholesR wh h.f7).2 = b7 at *
  generalize (wholesR wh h.f8).2 = b8 at *
  have KC := Aside0.mk kc
  have WA := Aside0.mk wa
  have WB := Aside0.mk wb
  have WC := Aside0.mk wc
  clear kc wa wb wc hw hc hwh hn h7 h8
  obtain ⟨A5, c5, A6, c6, A7, c7, A8, c8, e, -, -, k7, k8⟩ := hv.open_
  subst e
  have B := Aside0.mk (below_alloc (below_alloc (Below.refl w.heap.size w) (.cells #[.int .i64 h.f0, .int .u64 h.f1, .int .u64 h.f2, .int .u64 h.f3, .int .u64 h.f4, .slice A5 h.f5.length c5, .slice A6 h.f6.length c6, .slice A7 h.f7.length c7, .slice A8 h.f8.length c8] 31)) (.cells #[.int .i64 0, .int .u64 0, .int .u64 0, .int .u64 0, .int .u64 0, .slice none 0 0, .slice none 0 0, .slice none 0 0, .slice none 0 0] 26))
  have X := Aside0.mk ((Blk.new w #[.int .i64 h.f0, .int .u64 h.f1, .int .u64 h.f2, .int .u64 h.f3, .int .u64 h.f4, .slice A5 h.f5.length c5, .slice A6 h.f6.length c6, .slice A7 h.f7.length c7, .slice A8 h.f8.length c8] 31).alloc (.cells #[.int .i64 0, .int .u64 0, .int .u64 0, .int .u64 0, .int .u64 0, .slice none 0 0, .slice none 0 0, .slice none 0 0, .slice none 0 0] 26))
  have Y := Aside0.mk (Blk.at1 (w := w) (.cells #[.int .i64 h.f0, .int .u64 h.f1, .int .u64 h.f2, .int .u64 h.f3, .int .u64 h.f4, .slice A5 h.f5.length c5, .slice A6 h.f6.length c6, .slice A7 h.f7.length c7, .slice A8 h.f8.length c8] 31) #[.int .i64 0, .int .u64 0, .int .u64 0, .int .u64 0, .int .u64 0, .slice none 0 0, .slice none 0 0, .slice none 0 0, .slice none 0 0] 26)
  have hx := fun i => X.out.cell i
  have hy := fun i => Y.out.cell i
  have zy := fun i => blk_frozen Y.out i
  have HV := Aside0.mk (hv.below B.out)
  have H7 := Aside0.mk (k7.below B.out)
  have H8 := Aside0.mk (k8.below B.out)
  clear hv k7 k8
  go_enter Try.func35, Try.ntmps35
  go_wp2_with (first | (go_at_call 87; (with_reducible refine (KC.out _ _ HV.out).mono ?_); rintro e W1 ⟨rfl, hb⟩; replace B := Aside0.mk (below_then B.out B.out.size hb); replace HV := Aside0.mk (HV.out.below hb); replace H7 := Aside0.mk (H7.out.below hb); replace H8 := Aside0.mk (H8.out.below hb); replace X := Aside0.mk (X.out.below hb); replace hx := fun i => X.out.cell i; replace Y := Aside0.mk (Y.out.below hb); replace hy := fun i => Y.out.cell i; replace zy := fun i => blk_frozen Y.out i; have hxa := fun i => (X.out.alloc (.cells #[.int .u64 h.f2, .int .u64 h.f3] 22)).cell i; have hya := fun i => (Y.out.alloc (.cells #[.int .u64 h.f2, .int .u64 h.f3] 22)).cell i; clear  hb))
  (try clear hxa hya)
  have hal := below_alloc (Below.refl W1.heap.size W1) (.cells #[.int .u64 h.f2, .int .u64 h.f3] 22)
  replace B := Aside0.mk (below_then B.out B.out.size hal)
  replace HV := Aside0.mk (HV.out.below hal)
  replace H7 := Aside0.mk (H7.out.below hal)
  replace H8 := Aside0.mk (H8.out.below hal)
  replace X := Aside0.mk (X.out.alloc (.cells #[.int .u64 h.f2, .int .u64 h.f3] 22)); replace hx := fun i => X.out.cell i
  replace Y := Aside0.mk (Y.out.alloc (.cells #[.int .u64 h.f2, .int .u64 h.f3] 22)); replace hy := fun i => Y.out.cell i
  have L := Aside0.mk (Blk.new W1 #[.int .u64 h.f2, .int .u64 h.f3] 22); have hl := fun i => L.out.cell i; clear hal
  have SL := Aside0.mk (show SI (Kd.int .u64) (W1.alloc (.cells #[.int .u64 h.f2, .int .u64 h.f3] 22)) (.slice (some ⟨W1.heap.size, 0, none⟩) 2 2) [h.f2, h.f3] from .of (C_of_blk (d := Kd.int .u64) [h.f2, h.f3] (show (W1.alloc (.cells #[.int .u64 h.f2, .int .u64 h.f3] 22)).heap[W1.heap.size]? = some (.cells #[.int .u64 h.f2, .int .u64 h.f3] 22 (0, 0)) from L.out) (reps_nums _ .u64 [h.f2, h.f3]) (by simp)) (Nat.le_refl _))
  go_wp2_with (first | (go_at_call 91; (with_reducible refine (WA.out _ _ SL.out).mono ?_); rintro e W2 ⟨l0, rfl, -, hb⟩; replace B := Aside0.mk (below_then B.out B.out.size hb); replace HV := Aside0.mk (HV.out.below hb); replace H7 := Aside0.mk (H7.out.below hb); replace H8 := Aside0.mk (H8.out.below hb); replace X := Aside0.mk (X.out.below hb); replace hx := fun i => X.out.cell i; replace Y := Aside0.mk (Y.out.below hb); replace hy := fun i => Y.out.cell i; replace zy := fun i => blk_frozen Y.out i; replace L := Aside0.mk (L.out.below hb); replace hl := fun i => L.out.cell i; clear  hb) | (go_at_call 91; (with_reducible refine (WB.out _ _ H7.out).mono ?_); rintro e W3 ⟨l1, rfl, -, hb⟩; replace B := Aside0.mk (below_then B.out B.out.size hb); replace HV := Aside0.mk (HV.out.below hb); replace H7 := Aside0.mk (H7.out.below hb); replace H8 := Aside0.mk (H8.out.below hb); replace X := Aside0.mk (X.out.below hb); replace hx := fun i => X.out.cell i; replace Y := Aside0.mk (Y.out.below hb); replace hy := fun i => Y.out.cell i; replace zy := fun i => blk_frozen Y.out i; replace L := Aside0.mk (L.out.below hb); replace hl := fun i => L.out.cell i; clear  hb) | (go_at_call 91; (with_reducible refine (WC.out _ _ H8.out).mono ?_); rintro e W4 ⟨l2, rfl, -, hb⟩; replace B := Aside0.mk (below_then B.out B.out.size hb); replace HV := Aside0.mk (HV.out.below hb); replace H7 := Aside0.mk (H7.out.below hb); replace H8 := Aside0.mk (H8.out.below hb); replace X := Aside0.mk (X.out.below hb); replace hx := fun i => X.out.cell i; replace Y := Aside0.mk (Y.out.below hb); replace hy := fun i => Y.out.cell i; replace zy := fun i => blk_frozen Y.out i; replace L := Aside0.mk (L.out.below hb); replace hl := fun i => L.out.cell i; clear  hb))
  refine bodyPost_ret (results_ct rfl _ _ (w.heap.size + 1) 26 #[.int .i64 0, .int .u64 0, .int .u64 0, .int .u64 0, .int .u64 0, .slice none 0 0, .slice none 0 0, .slice none 0 0, .slice none 0 0] (0, 0) _ rfl (nine Y.out _ _ _ _ _ _ _ _ _) Try.underlying26 rfl (by kernel_rfl)) rfl ?_
  exact ⟨rfl, nine_below B.out (by omega) _ _ _ _ _ _ _ _ _⟩
end Go.Proofs.Ytfbjjbbhnmoolaa.P
namespace Go.Proofs.Ytfbjjbbhnmoolaa.P
open Go.RowKit Go.Shelf Go.Proofs.YtfbjjbbhnmoolaaW.PrintWords Go.Proofs.YtfbjjbbhnmoolaaW.PrintLast Go.Proofs.YtfbjjbbhnmoolaaW.PrintMore
def oneH : Hi := ⟨0, 1, 1, 6, 0, [⟨3, 2⟩], [], [5, -5], []⟩
def badH : Hi := ⟨0, 1, 1, 7, 0, [⟨3, 2⟩], [], [5, -5], []⟩
theorem HI.spans {w : World} {h : Hi} {A5 A6 A7 A8 : Option Addr} {n5 n6 n7 n8 c5 c6 c7 c8 : Nat} {x0 x1 x2 x3 x4 : Value} (hv : HI w (.agg #[x0, x1, x2, x3, x4, .slice A5 n5 c5, .slice A6 n6 c6, .slice A7 n7 c7, .slice A8 n8 c8]) h) : SI kSp w (.slice A5 n5 c5) h.f5 := by
  obtain ⟨v5, v6, v7, v8, e, h5, -⟩ := hv
  injection e with e
  have e5 := congrArg (fun a : Array Value => a.getD 5 undef) e
  simp at e5
  rw [e5]; exact h5
theorem HI.bad {w : World} {A5 A6 A7 A8 : Option Addr} {n5 n6 n7 n8 c5 c6 c7 c8 : Nat} (hv : HI w (.agg #[.int .i64 0, .int .u64 1, .int .u64 1, .int .u64 6, .int .u64 0, .slice A5 n5 c5, .slice A6 n6 c6, .slice A7 n7 c7, .slice A8 n8 c8]) oneH) : HI w (.agg #[.int .i64 0, .int .u64 1, .int .u64 1, .int .u64 7, .int .u64 0, .slice A5 n5 c5, .slice A6 n6 c6, .slice A7 n7 c7, .slice A8 n8 c8]) badH := by
  obtain ⟨v5, v6, v7, v8, e, h5, h6, h7, h8⟩ := hv
  injection e with e
  have e5 := congrArg (fun a : Array Value => a.getD 5 undef) e
  have e6 := congrArg (fun a : Array Value => a.getD 6 undef) e
  have e7 := congrArg (fun a : Array Value => a.getD 7 undef) e
  have e8 := congrArg (fun a : Array Value => a.getD 8 undef) e
  simp at e5 e6 e7 e8
  subst e5; subst e6; subst e7; subst e8
  exact ⟨_, _, _, _, rfl, h5, h6, h7, h8⟩
end Go.Proofs.Ytfbjjbbhnmoolaa.P
namespace Go.Proofs.Ytfbjjbbhnmoolaa.P
open Go.RowKit Go.Shelf Go.Proofs.YtfbjjbbhnmoolaaW.PrintWords Go.Proofs.YtfbjjbbhnmoolaaW.PrintLast Go.Proofs.YtfbjjbbhnmoolaaW.PrintMore
def oneF : Fh := ⟨0, 1, 4602678819172646912, 4613937818241073152, 0, [⟨3, 2⟩], [], [4613937818241073152, 0], []⟩
def canF : Fh := ⟨0, 1, 4602678819172646912, 4613937818241073152, 0, [⟨3, 1⟩], [], [4613937818241073152], []⟩
def badF : Fh := ⟨0, 1, 4602678819172646912, 9223372036854775808, 0, [⟨3, 2⟩], [], [4613937818241073152, 0], []⟩
def oneQ : List Pu := [⟨3, 4613937818241073152⟩, ⟨4, 0⟩]
theorem oneF_wf : wfF oneF := by unfold wfF; decide
theorem canF_wf : wfF canF := by unfold wfF; decide
theorem badF_wf : wfF badF := by unfold wfF; decide
theorem aw10_1 : pairsF oneF 0 = (oneQ, 0) := by kernel_rfl
theorem aw10_2 : canonF oneF = (canF, 0) := by kernel_rfl
theorem aw10_3 : checkF badF = 22 := by kernel_rfl
theorem aw10_0 : checkF oneF = 0 := by kernel_rfl
theorem aw10_4 : makeF oneF oneQ [] = (oneF, 0) := by kernel_rfl
theorem aw10_5 : overF canF oneF.f5 [] = (oneF, 0) := by kernel_rfl
theorem aw10_6 : equalF oneF oneF = true := by kernel_rfl
theorem aw10_7 : equalF oneF canF = true := by kernel_rfl
theorem aw10_8 : equalF oneF badF = false := by kernel_rfl
theorem oneQ_wf : wfRowU oneQ := ⟨by unfold wfPus oneQ; decide, by decide⟩
def wh10 (v : Int) : Int × Bool := if v = 4613937818241073152 then (3, true) else if v = 4602678819172646912 then (0, false) else (0, true)
theorem wh10_c (v : Int) (h : v = 4602678819172646912 ∨ v = 4613937818241073152 ∨ v = 0) (w : World) : Calls Try.prog 29 #[.int .u64 v] w fun e w' => e = .returned (.tuple #[.int .u64 (wh10 v).1, .bool (wh10 v).2]) ∧ Below w.heap.size w w' := by
  rcases h with rfl | rfl | rfl
  · exact whole_half w
  · exact whole_three w
  · exact whole_zero w
theorem right10 (w : World) : Calls Try.prog 82 #[.int .u64 0] w fun e w' => e = .returned (.bool true) ∧ Below w.heap.size w w' := by
  have := right_c 0 w
  rwa [show rightF 0 = true from by decide] at this
theorem back10 (w : World) (v : Value) (hv : GI w v oneF) : Calls Try.prog 35 #[v] w fun e w' => e = .returned (.tuple #[.agg #[.int .i64 0, .int .u64 0, .int .u64 0, .int .u64 0, .int .u64 0, .slice none 0 0, .slice none 0 0, .slice none 0 0, .slice none 0 0], .int .i64 10]) ∧ Below w.heap.size w w' :=
  backForm_c wh10 oneF oneF_wf aw10_0 (by decide) (by decide) (fun v h w => wh10_c v (by
    rcases h with h | h | h | h
    · exact .inl h
    · exact .inr (.inl h)
    · simp only [oneF, List.mem_cons, List.not_mem_nil, or_false] at h
      rcases h with h | h
      · exact .inr (.inl h)
      · exact .inr (.inr h)
    · simp [oneF] at h) w) (by decide) w v hv
theorem fone_x (w : World) : Calls Try.prog 85 #[] w fun e w' => ∃ oA5 oc5 oA6 oc6 oA7 oc7 oA8 oc8, e = .returned (.agg #[.int .i64 0, .int .u64 1, .int .u64 4602678819172646912, .int .u64 4613937818241073152, .int .u64 0, .slice oA5 1 oc5, .slice oA6 0 oc6, .slice oA7 2 oc7, .slice oA8 0 oc8]) ∧ GI w' (.agg #[.int .i64 0, .int .u64 1, .int .u64 4602678819172646912, .int .u64 4613937818241073152, .int .u64 0, .slice oA5 1 oc5, .slice oA6 0 oc6, .slice oA7 2 oc7, .slice oA8 0 oc8]) oneF ∧ Below w.heap.size w w' := by
  refine (tidepolelaw10_one.calls 0 1 4602678819172646912 4613937818241073152 0 [⟨3, 2⟩] [] [4613937818241073152, 0] [] w (by kernel_rfl)).mono ?_
  rintro e w1 ⟨v5, v6, v7, v8, rfl, h5, h6, h7, h8, hb⟩
  have hi : GI w1 (.agg #[.int .i64 0, .int .u64 1, .int .u64 4602678819172646912, .int .u64 4613937818241073152, .int .u64 0, v5, v6, v7, v8]) oneF := ⟨v5, v6, v7, v8, rfl, .of_R h5, .of_R h6, .of_R h7, .of_R h8⟩
  obtain ⟨a5, c5, a6, c6, a7, c7, a8, c8, e, -⟩ := hi.open_
  rw [e] at hi ⊢
  exact ⟨a5, c5, a6, c6, a7, c7, a8, c8, rfl, hi, hb⟩
theorem fpairs_x (w : World) (v : Value) (hv : GI w v oneF) : Calls Try.prog 58 #[v, .int .i64 0] w fun e w' => ∃ A c, e = .returned (.tuple #[.slice A 2 c, .int .i64 0]) ∧ SI kPu w' (.slice A 2 c) oneQ ∧ Below w.heap.size w w' := by
  have := fpairs_c oneF oneF_wf 0 w v hv
  rw [aw10_1] at this
  refine this.mono ?_
  rintro e w1 ⟨v0, rfl, h0, hb⟩
  have h0' := h0
  obtain ⟨A, c, rfl, -⟩ := h0'
  exact ⟨A, c, rfl, h0, hb⟩
theorem fcanon_x (w : World) (v : Value) (hv : GI w v oneF) : Calls Try.prog 86 #[v] w fun e w' => ∃ cA5 cc5 cA6 cc6 cA7 cc7 cA8 cc8, e = .returned (.tuple #[.agg #[.int .i64 0, .int .u64 1, .int .u64 4602678819172646912, .int .u64 4613937818241073152, .int .u64 0, .slice cA5 1 cc5, .slice cA6 0 cc6, .slice cA7 1 cc7, .slice cA8 0 cc8], .int .i64 0]) ∧ GI w' (.agg #[.int .i64 0, .int .u64 1, .int .u64 4602678819172646912, .int .u64 4613937818241073152, .int .u64 0, .slice cA5 1 cc5, .slice cA6 0 cc6, .slice cA7 1 cc7, .slice cA8 0 cc8]) canF ∧ Below w.heap.size w w' := by
  have := fcanon_c oneF oneF_wf w v hv
  rw [aw10_2] at this
  refine this.mono ?_
  rintro e w1 ⟨v0, rfl, h0, hb⟩
  obtain ⟨a5, c5, a6, c6, a7, c7, a8, c8, e, -⟩ := h0.now.open_
  have hi := h0.now
  subst e
  exact ⟨a5, c5, a6, c6, a7, c7, a8, c8, rfl, hi, hb⟩
theorem fmake_x (w : World) (v vp : Value) (hv : GI w v oneF) (hp : SI kPu w vp oneQ) : Calls Try.prog 88 #[v, vp, .slice none 0 0] w fun e w' => ∃ mA5 mc5 mA6 mc6 mA7 mc7 mA8 mc8, e = .returned (.tuple #[.agg #[.int .i64 0, .int .u64 1, .int .u64 4602678819172646912, .int .u64 4613937818241073152, .int .u64 0, .slice mA5 1 mc5, .slice mA6 0 mc6, .slice mA7 2 mc7, .slice mA8 0 mc8], .int .i64 0]) ∧ GI w' (.agg #[.int .i64 0, .int .u64 1, .int .u64 4602678819172646912, .int .u64 4613937818241073152, .int .u64 0, .slice mA5 1 mc5, .slice mA6 0 mc6, .slice mA7 2 mc7, .slice mA8 0 mc8]) oneF ∧ Below w.heap.size w w' := by
  have := fmake_c oneF oneF_wf oneQ [] oneQ_wf RowOKU.nil.wf w v vp _ hv hp (SI.nil _ _)
  rw [aw10_4] at this
  refine this.mono ?_
  rintro e w1 ⟨v0, rfl, h0, hb⟩
  obtain ⟨a5, c5, a6, c6, a7, c7, a8, c8, e, -⟩ := h0.now.open_
  have hi := h0.now
  subst e
  exact ⟨a5, c5, a6, c6, a7, c7, a8, c8, rfl, hi, hb⟩
theorem fover_x (w : World) (v vp : Value) (hv : GI w v canF) (hp : SI kSp w vp oneF.f5) : Calls Try.prog 89 #[v, vp, .slice none 0 0] w fun e w' => ∃ rA5 rc5 rA6 rc6 rA7 rc7 rA8 rc8, e = .returned (.tuple #[.agg #[.int .i64 0, .int .u64 1, .int .u64 4602678819172646912, .int .u64 4613937818241073152, .int .u64 0, .slice rA5 1 rc5, .slice rA6 0 rc6, .slice rA7 2 rc7, .slice rA8 0 rc8], .int .i64 0]) ∧ GF w.heap.size w' (.agg #[.int .i64 0, .int .u64 1, .int .u64 4602678819172646912, .int .u64 4613937818241073152, .int .u64 0, .slice rA5 1 rc5, .slice rA6 0 rc6, .slice rA7 2 rc7, .slice rA8 0 rc8]) oneF ∧ Below w.heap.size w w' := by
  have := fover_c canF canF_wf oneF.f5 [] oneF_wf.2.2.2.2.2.1 (fun s hs => by simp at hs) w v vp _ hv hp (SI.nil _ _)
  rw [aw10_5] at this
  refine this.mono ?_
  rintro e w1 ⟨v0, rfl, h0, hb⟩
  obtain ⟨a5, c5, a6, c6, a7, c7, a8, c8, e, -⟩ := h0.now.open_
  subst e
  exact ⟨a5, c5, a6, c6, a7, c7, a8, c8, rfl, h0, hb⟩
theorem fequal_x (a b : Fh) (ha : wfF a) (hb : wfF b) (r : Bool) (he : equalF a b = r) (w : World) (u v : Value) (hu : GI w u a) (hv : GI w v b) : Calls Try.prog 90 #[u, v] w fun e w' => e = .returned (.bool r) ∧ Below w.heap.size w w' := he ▸ fequal_c a b ha hb w u v hu hv
theorem fcheck_x (a : Fh) (ha : wfF a) (r : Int) (he : checkF a = r) (w : World) (u : Value) (hu : GI w u a) : Calls Try.prog 87 #[u] w fun e w' => e = .returned (.int .i64 r) ∧ Below w.heap.size w w' := he ▸ fcheck_c a ha w u hu
theorem GI.spans {w : World} {h : Fh} {A5 A6 A7 A8 : Option Addr} {n5 n6 n7 n8 c5 c6 c7 c8 : Nat} {x0 x1 x2 x3 x4 : Value} (hv : GI w (.agg #[x0, x1, x2, x3, x4, .slice A5 n5 c5, .slice A6 n6 c6, .slice A7 n7 c7, .slice A8 n8 c8]) h) : SI kSp w (.slice A5 n5 c5) h.f5 := by
  obtain ⟨v5, v6, v7, v8, e, h5, -⟩ := hv
  injection e with e
  have e5 := congrArg (fun a : Array Value => a.getD 5 undef) e
  simp at e5
  rw [e5]; exact h5
theorem GI.bad {w : World} {A5 A6 A7 A8 : Option Addr} {n5 n6 n7 n8 c5 c6 c7 c8 : Nat} (hv : GI w (.agg #[.int .i64 0, .int .u64 1, .int .u64 4602678819172646912, .int .u64 4613937818241073152, .int .u64 0, .slice A5 n5 c5, .slice A6 n6 c6, .slice A7 n7 c7, .slice A8 n8 c8]) oneF) : GI w (.agg #[.int .i64 0, .int .u64 1, .int .u64 4602678819172646912, .int .u64 9223372036854775808, .int .u64 0, .slice A5 n5 c5, .slice A6 n6 c6, .slice A7 n7 c7, .slice A8 n8 c8]) badF := by
  obtain ⟨v5, v6, v7, v8, e, h5, h6, h7, h8⟩ := hv
  injection e with e
  have e5 := congrArg (fun a : Array Value => a.getD 5 undef) e
  have e6 := congrArg (fun a : Array Value => a.getD 6 undef) e
  have e7 := congrArg (fun a : Array Value => a.getD 7 undef) e
  have e8 := congrArg (fun a : Array Value => a.getD 8 undef) e
  simp at e5 e6 e7 e8
  subst e5; subst e6; subst e7; subst e8
  exact ⟨_, _, _, _, rfl, h5, h6, h7, h8⟩
theorem ffield5_x (a5 a6 a7 a8 : Option Addr) (n5 c5 n6 c6 n7 c7 n8 c8 : Nat) (x0 x1 x2 x3 x4 : Int) (W : World) : (Instr.field 31 (.agg #[.int .i64 x0, .int .u64 x1, .int .u64 x2, .int .u64 x3, .int .u64 x4, .slice a5 n5 c5, .slice a6 n6 c6, .slice a7 n7 c7, .slice a8 n8 c8]) 5).run Try.prog W = .ok (.slice a5 n5 c5) W := by
  kernel_rfl
set_option maxHeartbeats 16000000 in
set_option maxRecDepth 100000 in
theorem awake10_c (w : World) : Calls Try.prog 33 #[] w fun e w' => e = .returned (.bool true) ∧ Below w.heap.size w w' := by
  have hu := Try.underlying31
  have hpu := Try.underlying137
  have huh := Try.underlying26
  have hfd := ffield5_x
  go_enter Try.func33, Try.ntmps33
  go_wp2_with fail
  refine (fone_x w).mono ?_
  rintro e w1 ⟨oA5, oc5, oA6, oc6, oA7, oc7, oA8, oc8, rfl, hh, hb⟩
  have B := Aside0.mk hb
  have O := Aside0.mk hh
  clear hb hh
  go_wp2_with fail
  refine (fpairs_x _ _ O.out).mono ?_
  rintro e w2 ⟨pA, pc, rfl, hh, hb⟩
  replace B := Aside0.mk (below_then B.out B.out.size hb)
  replace O := Aside0.mk (O.out.below hb)
  have P := Aside0.mk hh
  clear hb hh
  go_wp2_with fail
  refine (fone_x _).mono ?_
  rintro e w3 ⟨qA5, qc5, qA6, qc6, qA7, qc7, qA8, qc8, rfl, hh, hb⟩
  replace B := Aside0.mk (below_then B.out B.out.size hb)
  replace O := Aside0.mk (O.out.below hb)
  replace P := Aside0.mk (P.out.below hb)
  have Q := Aside0.mk hh
  clear hb hh
  go_wp2_with fail
  refine (fcanon_x _ _ Q.out).mono ?_
  rintro e w4 ⟨cA5, cc5, cA6, cc6, cA7, cc7, cA8, cc8, rfl, hh, hb⟩
  replace B := Aside0.mk (below_then B.out B.out.size hb)
  replace O := Aside0.mk (O.out.below hb)
  replace P := Aside0.mk (P.out.below hb)
  replace Q := Aside0.mk (Q.out.below hb)
  have C := Aside0.mk hh
  clear hb hh
  go_wp2_with fail
  refine (fone_x _).mono ?_
  rintro e W5 ⟨bA5, bc5, bA6, bc6, bA7, bc7, bA8, bc8, rfl, hh, hb⟩
  have hb0 := hb
  have hb := below_then (below_alloc (Below.refl w4.heap.size w4) (.cells #[.int .i64 0, .int .u64 1, .int .u64 4602678819172646912, .int .u64 4613937818241073152, .int .u64 0, .slice cA5 1 cc5, .slice cA6 0 cc6, .slice cA7 1 cc7, .slice cA8 0 cc8] 31)) ((below_alloc (Below.refl w4.heap.size w4) (.cells #[.int .i64 0, .int .u64 1, .int .u64 4602678819172646912, .int .u64 4613937818241073152, .int .u64 0, .slice cA5 1 cc5, .slice cA6 0 cc6, .slice cA7 1 cc7, .slice cA8 0 cc8] 31))).size hb
  replace B := Aside0.mk (below_then B.out B.out.size hb)
  replace O := Aside0.mk (O.out.below hb)
  replace P := Aside0.mk (P.out.below hb)
  replace Q := Aside0.mk (Q.out.below hb)
  replace C := Aside0.mk (C.out.below hb)
  have T3 := Aside0.mk (show Blk W5 w4.heap.size #[.int .i64 0, .int .u64 1, .int .u64 4602678819172646912, .int .u64 4613937818241073152, .int .u64 0, .slice cA5 1 cc5, .slice cA6 0 cc6, .slice cA7 1 cc7, .slice cA8 0 cc8] 31 from (Blk.new w4 #[.int .i64 0, .int .u64 1, .int .u64 4602678819172646912, .int .u64 4613937818241073152, .int .u64 0, .slice cA5 1 cc5, .slice cA6 0 cc6, .slice cA7 1 cc7, .slice cA8 0 cc8] 31).below hb0)
  have ht3 := fun i => T3.out.cell i
  have D := Aside0.mk hh
  clear hb hb0 hh
  have hbw := below_alloc (Below.refl W5.heap.size W5) (.cells #[.int .i64 0, .int .u64 1, .int .u64 4602678819172646912, .int .u64 9223372036854775808, .int .u64 0, .slice bA5 1 bc5, .slice bA6 0 bc6, .slice bA7 2 bc7, .slice bA8 0 bc8] 31)
  have hP := P.out.below hbw
  obtain ⟨_, _, eP, _, hPC⟩ := hP
  cases eP
  obtain ⟨ad, e1, hx0, hx1⟩ := at_T137 hPC 0 (by decide) (by decide)
  obtain ⟨ad', e1', hy0, hy1⟩ := at_T137 hPC 1 (by decide) (by decide)
  subst e1
  cases e1'
  have hx1' : (W5.alloc (.cells #[.int .i64 0, .int .u64 1, .int .u64 4602678819172646912, .int .u64 9223372036854775808, .int .u64 0, .slice bA5 1 bc5, .slice bA6 0 bc6, .slice bA7 2 bc7, .slice bA8 0 bc8] 31)).cell? ⟨ad.block, ad.off + 1, none⟩ = some (.int .u64 4613937818241073152) := hx1
  have hy0' : (W5.alloc (.cells #[.int .i64 0, .int .u64 1, .int .u64 4602678819172646912, .int .u64 9223372036854775808, .int .u64 0, .slice bA5 1 bc5, .slice bA6 0 bc6, .slice bA7 2 bc7, .slice bA8 0 bc8] 31)).cell? ⟨ad.block, ad.off + 2, none⟩ = some (.int .i64 4) := hy0
  clear hx0 hx1 hy0 hy1 hPC hbw
  replace ht3 := fun i => (T3.out.alloc (.cells #[.int .i64 0, .int .u64 1, .int .u64 4602678819172646912, .int .u64 9223372036854775808, .int .u64 0, .slice bA5 1 bc5, .slice bA6 0 bc6, .slice bA7 2 bc7, .slice bA8 0 bc8] 31)).cell i
  go_wp2_with fail
  refine (fcheck_x badF badF_wf 22 aw10_3 _ _ (D.out.bad.below (below_alloc (Below.refl W5.heap.size W5) (.cells #[.int .i64 0, .int .u64 1, .int .u64 4602678819172646912, .int .u64 9223372036854775808, .int .u64 0, .slice bA5 1 bc5, .slice bA6 0 bc6, .slice bA7 2 bc7, .slice bA8 0 bc8] 31)))).mono ?_
  rintro e W6 ⟨rfl, hb⟩
  have hb0 := hb
  have hb := below_then (below_alloc (Below.refl W5.heap.size W5) (.cells #[.int .i64 0, .int .u64 1, .int .u64 4602678819172646912, .int .u64 9223372036854775808, .int .u64 0, .slice bA5 1 bc5, .slice bA6 0 bc6, .slice bA7 2 bc7, .slice bA8 0 bc8] 31)) ((below_alloc (Below.refl W5.heap.size W5) (.cells #[.int .i64 0, .int .u64 1, .int .u64 4602678819172646912, .int .u64 9223372036854775808, .int .u64 0, .slice bA5 1 bc5, .slice bA6 0 bc6, .slice bA7 2 bc7, .slice bA8 0 bc8] 31))).size hb
  replace B := Aside0.mk (below_then B.out B.out.size hb)
  replace O := Aside0.mk (O.out.below hb)
  replace P := Aside0.mk (P.out.below hb)
  replace Q := Aside0.mk (Q.out.below hb)
  replace C := Aside0.mk (C.out.below hb)
  replace D := Aside0.mk (D.out.below hb)
  replace T3 := Aside0.mk (T3.out.below hb)
  replace ht3 := fun i => T3.out.cell i
  have T5 := Aside0.mk (show Blk W6 W5.heap.size #[.int .i64 0, .int .u64 1, .int .u64 4602678819172646912, .int .u64 9223372036854775808, .int .u64 0, .slice bA5 1 bc5, .slice bA6 0 bc6, .slice bA7 2 bc7, .slice bA8 0 bc8] 31 from (Blk.new W5 #[.int .i64 0, .int .u64 1, .int .u64 4602678819172646912, .int .u64 9223372036854775808, .int .u64 0, .slice bA5 1 bc5, .slice bA6 0 bc6, .slice bA7 2 bc7, .slice bA8 0 bc8] 31).below hb0)
  have ht5 := fun i => T5.out.cell i
  have Bd := Aside0.mk (D.out.bad)
  clear hb hb0
  go_wp2_with fail
  refine (fone_x _).mono ?_
  rintro e W7 ⟨eA5, ec5, eA6, ec6, eA7, ec7, eA8, ec8, rfl, hh, hb⟩
  replace B := Aside0.mk (below_then B.out B.out.size hb)
  replace O := Aside0.mk (O.out.below hb)
  replace P := Aside0.mk (P.out.below hb)
  replace Q := Aside0.mk (Q.out.below hb)
  replace C := Aside0.mk (C.out.below hb)
  replace D := Aside0.mk (D.out.below hb)
  replace Bd := Aside0.mk (Bd.out.below hb)
  replace T3 := Aside0.mk (T3.out.below hb)
  replace ht3 := fun i => T3.out.cell i
  replace T5 := Aside0.mk (T5.out.below hb)
  replace ht5 := fun i => T5.out.cell i
  have E := Aside0.mk hh
  clear hb hh
  go_wp2_with fail
  refine (fmake_x _ _ _ E.out P.out).mono ?_
  rintro e W8 ⟨mA5, mc5, mA6, mc6, mA7, mc7, mA8, mc8, rfl, hh, hb⟩
  replace B := Aside0.mk (below_then B.out B.out.size hb)
  replace O := Aside0.mk (O.out.below hb)
  replace P := Aside0.mk (P.out.below hb)
  replace Q := Aside0.mk (Q.out.below hb)
  replace C := Aside0.mk (C.out.below hb)
  replace D := Aside0.mk (D.out.below hb)
  replace Bd := Aside0.mk (Bd.out.below hb)
  replace E := Aside0.mk (E.out.below hb)
  replace T3 := Aside0.mk (T3.out.below hb)
  replace ht3 := fun i => T3.out.cell i
  replace T5 := Aside0.mk (T5.out.below hb)
  replace ht5 := fun i => T5.out.cell i
  have M := Aside0.mk hh
  clear hb hh
  have hw := below_alloc (Below.refl W8.heap.size W8) (.cells #[.int .i64 0, .int .u64 1, .int .u64 4602678819172646912, .int .u64 4613937818241073152, .int .u64 0, .slice mA5 1 mc5, .slice mA6 0 mc6, .slice mA7 2 mc7, .slice mA8 0 mc8] 31)
  replace B := Aside0.mk (below_then B.out B.out.size hw)
  replace C := Aside0.mk (C.out.below hw)
  replace Bd := Aside0.mk (Bd.out.below hw)
  replace M := Aside0.mk (M.out.below hw)
  replace T3 := Aside0.mk (T3.out.below hw)
  replace T5 := Aside0.mk (T5.out.below hw)
  have T6 := Aside0.mk (Blk.new W8 #[.int .i64 0, .int .u64 1, .int .u64 4602678819172646912, .int .u64 4613937818241073152, .int .u64 0, .slice mA5 1 mc5, .slice mA6 0 mc6, .slice mA7 2 mc7, .slice mA8 0 mc8] 31)
  replace ht3 := fun i => T3.out.cell i
  clear hw ht5 hx1' hy0'
  go_upto_region 8 with fail
  go_cut [8, 9] (fun s8 s9 wx => s9 = .int .i64 0 ∧ ∃ g : Nat, s8 = .pointer (some ⟨g, 0, none⟩) ∧ Aside0 ((W8.alloc (.cells #[.int .i64 0, .int .u64 1, .int .u64 4602678819172646912, .int .u64 4613937818241073152, .int .u64 0, .slice mA5 1 mc5, .slice mA6 0 mc6, .slice mA7 2 mc7, .slice mA8 0 mc8] 31)).heap.size ≤ g ∧ Below (W8.alloc (.cells #[.int .i64 0, .int .u64 1, .int .u64 4602678819172646912, .int .u64 4613937818241073152, .int .u64 0, .slice mA5 1 mc5, .slice mA6 0 mc6, .slice mA7 2 mc7, .slice mA8 0 mc8] 31)).heap.size (W8.alloc (.cells #[.int .i64 0, .int .u64 1, .int .u64 4602678819172646912, .int .u64 4613937818241073152, .int .u64 0, .slice mA5 1 mc5, .slice mA6 0 mc6, .slice mA7 2 mc7, .slice mA8 0 mc8] 31)) wx ∧ ∃ rA5 rc5 rA6 rc6 rA7 rc7 rA8 rc8, Blk wx g #[.int .i64 0, .int .u64 1, .int .u64 4602678819172646912, .int .u64 4613937818241073152, .int .u64 0, .slice rA5 1 rc5, .slice rA6 0 rc6, .slice rA7 2 rc7, .slice rA8 0 rc8] 31 ∧ GI wx (.agg #[.int .i64 0, .int .u64 1, .int .u64 4602678819172646912, .int .u64 4613937818241073152, .int .u64 0, .slice rA5 1 rc5, .slice rA6 0 rc6, .slice rA7 2 rc7, .slice rA8 0 rc8]) oneF))
  case first =>
    have ht3a := fun i => (T3.out.alloc (.cells #[.int .i64 0, .int .u64 0, .int .u64 0, .int .u64 0, .int .u64 0, .slice none 0 0, .slice none 0 0, .slice none 0 0, .slice none 0 0] 31)).cell i
    go_region_with (first | (go_at_call 85; (with_reducible refine (fone_x (W8.alloc (.cells #[.int .i64 0, .int .u64 1, .int .u64 4602678819172646912, .int .u64 4613937818241073152, .int .u64 0, .slice mA5 1 mc5, .slice mA6 0 mc6, .slice mA7 2 mc7, .slice mA8 0 mc8] 31)).drew).mono ?_); rintro e W9 ⟨fA5, fc5, fA6, fc6, fA7, fc7, fA8, fc8, rfl, hh, hb⟩; have F := Aside0.mk hh; have B9 := Aside0.mk (below_then (below_drew (Below.refl (W8.alloc (.cells #[.int .i64 0, .int .u64 1, .int .u64 4602678819172646912, .int .u64 4613937818241073152, .int .u64 0, .slice mA5 1 mc5, .slice mA6 0 mc6, .slice mA7 2 mc7, .slice mA8 0 mc8] 31)).heap.size (W8.alloc (.cells #[.int .i64 0, .int .u64 1, .int .u64 4602678819172646912, .int .u64 4613937818241073152, .int .u64 0, .slice mA5 1 mc5, .slice mA6 0 mc6, .slice mA7 2 mc7, .slice mA8 0 mc8] 31)))) (Nat.le_refl _) hb); replace ht3 := fun i => (T3.out.below B9.out).cell i; have ht3b := fun i => ((T3.out.below B9.out).alloc (.cells #[.int .i64 0, .int .u64 0, .int .u64 0, .int .u64 0, .int .u64 0, .slice none 0 0, .slice none 0 0, .slice none 0 0, .slice none 0 0] 31)).cell i; clear hh hb) | (go_at_call 85; (with_reducible refine (fone_x ((W8.alloc (.cells #[.int .i64 0, .int .u64 1, .int .u64 4602678819172646912, .int .u64 4613937818241073152, .int .u64 0, .slice mA5 1 mc5, .slice mA6 0 mc6, .slice mA7 2 mc7, .slice mA8 0 mc8] 31)).alloc (.cells #[.int .i64 0, .int .u64 0, .int .u64 0, .int .u64 0, .int .u64 0, .slice none 0 0, .slice none 0 0, .slice none 0 0, .slice none 0 0] 31)).drew).mono ?_); rintro e W9 ⟨fA5, fc5, fA6, fc6, fA7, fc7, fA8, fc8, rfl, hh, hb⟩; have F := Aside0.mk hh; have B9 := Aside0.mk (below_then (below_drew (below_alloc (Below.refl (W8.alloc (.cells #[.int .i64 0, .int .u64 1, .int .u64 4602678819172646912, .int .u64 4613937818241073152, .int .u64 0, .slice mA5 1 mc5, .slice mA6 0 mc6, .slice mA7 2 mc7, .slice mA8 0 mc8] 31)).heap.size (W8.alloc (.cells #[.int .i64 0, .int .u64 1, .int .u64 4602678819172646912, .int .u64 4613937818241073152, .int .u64 0, .slice mA5 1 mc5, .slice mA6 0 mc6, .slice mA7 2 mc7, .slice mA8 0 mc8] 31))) (.cells #[.int .i64 0, .int .u64 0, .int .u64 0, .int .u64 0, .int .u64 0, .slice none 0 0, .slice none 0 0, .slice none 0 0, .slice none 0 0] 31))) (by simp) hb); have Z9 := Aside0.mk (show Blk W9 (W8.heap.size + 1) #[.int .i64 0, .int .u64 0, .int .u64 0, .int .u64 0, .int .u64 0, .slice none 0 0, .slice none 0 0, .slice none 0 0, .slice none 0 0] 31 from (show Blk ((W8.alloc (.cells #[.int .i64 0, .int .u64 1, .int .u64 4602678819172646912, .int .u64 4613937818241073152, .int .u64 0, .slice mA5 1 mc5, .slice mA6 0 mc6, .slice mA7 2 mc7, .slice mA8 0 mc8] 31)).alloc (.cells #[.int .i64 0, .int .u64 0, .int .u64 0, .int .u64 0, .int .u64 0, .slice none 0 0, .slice none 0 0, .slice none 0 0, .slice none 0 0] 31)) (W8.heap.size + 1) #[.int .i64 0, .int .u64 0, .int .u64 0, .int .u64 0, .int .u64 0, .slice none 0 0, .slice none 0 0, .slice none 0 0, .slice none 0 0] 31 from Blk.at1 (w := W8) (.cells #[.int .i64 0, .int .u64 1, .int .u64 4602678819172646912, .int .u64 4613937818241073152, .int .u64 0, .slice mA5 1 mc5, .slice mA6 0 mc6, .slice mA7 2 mc7, .slice mA8 0 mc8] 31) #[.int .i64 0, .int .u64 0, .int .u64 0, .int .u64 0, .int .u64 0, .slice none 0 0, .slice none 0 0, .slice none 0 0, .slice none 0 0] 31).below (below_then (below_drew (Below.refl _ _)) (Nat.le_refl _) hb)); have HL9 := Aside0.mk (blk_lt Z9.out); replace ht3 := fun i => (T3.out.below B9.out).cell i; clear hh hb) | (go_at_call 89; (with_reducible refine (fover_x W9 _ _ (C.out.below B9.out) F.out.spans).mono ?_); rintro e W10 ⟨rA5, rc5, rA6, rc6, rA7, rc7, rA8, rc8, rfl, hh, hb⟩; have R := Aside0.mk hh; have B10 := Aside0.mk (below_then B9.out B9.out.size hb); (try (replace Z9 := Aside0.mk (Z9.out.below hb); have hz := fun i => Z9.out.cell i; have hzf := fun i => blk_frozen Z9.out i)); replace ht3 := fun i => (T3.out.below B10.out).cell i; clear hh hb) | (go_at_call 89; (with_reducible refine (fover_x (W9.alloc (.cells #[.int .i64 0, .int .u64 0, .int .u64 0, .int .u64 0, .int .u64 0, .slice none 0 0, .slice none 0 0, .slice none 0 0, .slice none 0 0] 31)) _ _ (C.out.below (below_then B9.out B9.out.size (below_alloc (Below.refl _ _) _))) (F.out.below (below_alloc (Below.refl _ _) _)).spans).mono ?_); rintro e W10 ⟨rA5, rc5, rA6, rc6, rA7, rc7, rA8, rc8, rfl, hh, hb⟩; have R := Aside0.mk hh; have B10 := Aside0.mk (below_then (below_then B9.out B9.out.size (below_alloc (Below.refl _ _) _)) (below_then B9.out B9.out.size (below_alloc (Below.refl _ _) _)).size hb); have Z9 := Aside0.mk (show Blk W10 W9.heap.size #[.int .i64 0, .int .u64 0, .int .u64 0, .int .u64 0, .int .u64 0, .slice none 0 0, .slice none 0 0, .slice none 0 0, .slice none 0 0] 31 from (Blk.new W9 #[.int .i64 0, .int .u64 0, .int .u64 0, .int .u64 0, .int .u64 0, .slice none 0 0, .slice none 0 0, .slice none 0 0, .slice none 0 0] 31).below hb); have hz := fun i => Z9.out.cell i; have hzf := fun i => blk_frozen Z9.out i; replace ht3 := fun i => (T3.out.below B10.out).cell i; clear hh hb))
    all_goals go_wp2_with fail
    all_goals go_meet
    all_goals (first | exact ⟨rfl, _, rfl, ⟨B10.out.size, B10.out.alloc B10.out.size _, _, _, _, _, _, _, _, _, Blk.new W10 _ _, R.out.now.below (below_alloc (Below.refl _ _) _)⟩⟩ | exact ⟨rfl, _, rfl, ⟨B9.out.size, nine_below B10.out B9.out.size _ _ _ _ _ _ _ _ _, _, _, _, _, _, _, _, _, nine Z9.out _ _ _ _ _ _ _ _ _, (R.out.step (nine_ka (KA.refl _ _) (by simp) _ _ _ _ _ _ _ _ _)).now⟩⟩ | exact ⟨rfl, _, rfl, ⟨by simp, nine_below B10.out (by simp) _ _ _ _ _ _ _ _ _, _, _, _, _, _, _, _, _, nine Z9.out _ _ _ _ _ _ _ _ _, (R.out.step (nine_ka (KA.refl _ _) HL9.out _ _ _ _ _ _ _ _ _)).now⟩⟩)
  case rest =>
    obtain ⟨rfl, g, rfl, HG⟩ := hcut
    obtain ⟨hg, hbb, rA5, rc5, rA6, rc6, rA7, rc7, rA8, rc8, t8, hr⟩ := HG.out
    replace B := Aside0.mk (below_then B.out B.out.size hbb)
    replace C := Aside0.mk (C.out.below hbb)
    replace Bd := Aside0.mk (Bd.out.below hbb)
    replace M := Aside0.mk (M.out.below hbb)
    have R := Aside0.mk hr
    replace T3 := Aside0.mk (T3.out.below hbb)
    replace T5 := Aside0.mk (T5.out.below hbb)
    replace T6 := Aside0.mk (T6.out.below hbb)
    have T8 := Aside0.mk t8
    replace ht3 := fun i => T3.out.cell i
    have ht5 := fun i => T5.out.cell i
    have ht6 := fun i => T6.out.cell i
    have ht8 := fun i => T8.out.cell i
    clear hg hbb t8 hr HG
    go_wp2_with fail
    refine (whole_three wc).mono ?_
    rintro e U1 ⟨rfl, hb⟩
    replace B := Aside0.mk (below_then B.out B.out.size hb)
    replace C := Aside0.mk (C.out.below hb)
    replace Bd := Aside0.mk (Bd.out.below hb)
    replace M := Aside0.mk (M.out.below hb)
    replace R := Aside0.mk (R.out.below hb)
    replace T3 := Aside0.mk (T3.out.below hb)
    replace ht3 := fun i => T3.out.cell i
    replace T5 := Aside0.mk (T5.out.below hb)
    replace ht5 := fun i => T5.out.cell i
    replace T6 := Aside0.mk (T6.out.below hb)
    replace ht6 := fun i => T6.out.cell i
    replace T8 := Aside0.mk (T8.out.below hb)
    replace ht8 := fun i => T8.out.cell i
    clear hb
    go_wp2_with fail
    refine (whole_half U1).mono ?_
    rintro e U2 ⟨rfl, hb⟩
    replace B := Aside0.mk (below_then B.out B.out.size hb)
    replace C := Aside0.mk (C.out.below hb)
    replace Bd := Aside0.mk (Bd.out.below hb)
    replace M := Aside0.mk (M.out.below hb)
    replace R := Aside0.mk (R.out.below hb)
    replace T3 := Aside0.mk (T3.out.below hb)
    replace ht3 := fun i => T3.out.cell i
    replace T5 := Aside0.mk (T5.out.below hb)
    replace ht5 := fun i => T5.out.cell i
    replace T6 := Aside0.mk (T6.out.below hb)
    replace ht6 := fun i => T6.out.cell i
    replace T8 := Aside0.mk (T8.out.below hb)
    replace ht8 := fun i => T8.out.cell i
    clear hb
    go_wp2_with fail
    refine (fone_x U2).mono ?_
    rintro e U3 ⟨zA5, zc5, zA6, zc6, zA7, zc7, zA8, zc8, rfl, hh, hb⟩
    replace B := Aside0.mk (below_then B.out B.out.size hb)
    replace C := Aside0.mk (C.out.below hb)
    replace Bd := Aside0.mk (Bd.out.below hb)
    replace M := Aside0.mk (M.out.below hb)
    replace R := Aside0.mk (R.out.below hb)
    replace T3 := Aside0.mk (T3.out.below hb)
    replace ht3 := fun i => T3.out.cell i
    replace T5 := Aside0.mk (T5.out.below hb)
    replace ht5 := fun i => T5.out.cell i
    replace T6 := Aside0.mk (T6.out.below hb)
    replace ht6 := fun i => T6.out.cell i
    replace T8 := Aside0.mk (T8.out.below hb)
    replace ht8 := fun i => T8.out.cell i
    have Z := Aside0.mk hh
    clear hb hh
    go_wp2_with fail
    refine (back10 U3 _ Z.out).mono ?_
    rintro e U4 ⟨rfl, hb⟩
    replace B := Aside0.mk (below_then B.out B.out.size hb)
    replace C := Aside0.mk (C.out.below hb)
    replace Bd := Aside0.mk (Bd.out.below hb)
    replace M := Aside0.mk (M.out.below hb)
    replace R := Aside0.mk (R.out.below hb)
    replace Z := Aside0.mk (Z.out.below hb)
    replace T3 := Aside0.mk (T3.out.below hb)
    replace ht3 := fun i => T3.out.cell i
    replace T5 := Aside0.mk (T5.out.below hb)
    replace ht5 := fun i => T5.out.cell i
    replace T6 := Aside0.mk (T6.out.below hb)
    replace ht6 := fun i => T6.out.cell i
    replace T8 := Aside0.mk (T8.out.below hb)
    replace ht8 := fun i => T8.out.cell i
    clear hb
    clear Z
    have hbw := below_alloc (Below.refl U4.heap.size U4) (.cells #[.int .i64 0, .int .u64 0, .int .u64 0, .int .u64 0, .int .u64 0, .slice none 0 0, .slice none 0 0, .slice none 0 0, .slice none 0 0] 26)
    replace B := Aside0.mk (below_then B.out B.out.size hbw)
    replace C := Aside0.mk (C.out.below hbw)
    replace Bd := Aside0.mk (Bd.out.below hbw)
    replace M := Aside0.mk (M.out.below hbw)
    replace R := Aside0.mk (R.out.below hbw)
    replace T3 := Aside0.mk (T3.out.below hbw)
    replace T5 := Aside0.mk (T5.out.below hbw)
    replace T6 := Aside0.mk (T6.out.below hbw)
    replace T8 := Aside0.mk (T8.out.below hbw)
    replace ht3 := fun i => T3.out.cell i
    replace ht5 := fun i => T5.out.cell i
    replace ht6 := fun i => T6.out.cell i
    replace ht8 := fun i => T8.out.cell i
    clear hbw
    go_wp2_with fail
    go_region_held3 (fun W => (∀ i, W.cell? ⟨w4.heap.size, i, none⟩ = (#[.int .i64 0, .int .u64 1, .int .u64 4602678819172646912, .int .u64 4613937818241073152, .int .u64 0, .slice cA5 1 cc5, .slice cA6 0 cc6, .slice cA7 1 cc7, .slice cA8 0 cc8] : Array Value)[i]?) ∧ (∀ i, W.cell? ⟨W5.heap.size, i, none⟩ = (#[.int .i64 0, .int .u64 1, .int .u64 4602678819172646912, .int .u64 9223372036854775808, .int .u64 0, .slice bA5 1 bc5, .slice bA6 0 bc6, .slice bA7 2 bc7, .slice bA8 0 bc8] : Array Value)[i]?) ∧ (∀ i, W.cell? ⟨W8.heap.size, i, none⟩ = (#[.int .i64 0, .int .u64 1, .int .u64 4602678819172646912, .int .u64 4613937818241073152, .int .u64 0, .slice mA5 1 mc5, .slice mA6 0 mc6, .slice mA7 2 mc7, .slice mA8 0 mc8] : Array Value)[i]?) ∧ (∀ i, W.cell? ⟨g, i, none⟩ = (#[.int .i64 0, .int .u64 1, .int .u64 4602678819172646912, .int .u64 4613937818241073152, .int .u64 0, .slice rA5 1 rc5, .slice rA6 0 rc6, .slice rA7 2 rc7, .slice rA8 0 rc8] : Array Value)[i]?)) (exact ⟨fun i => T3.out.cell i, fun i => T5.out.cell i, fun i => T6.out.cell i, fun i => T8.out.cell i⟩) (first | (go_at_call 85; (with_reducible refine (fone_x (U4.alloc (.cells #[.int .i64 0, .int .u64 0, .int .u64 0, .int .u64 0, .int .u64 0, .slice none 0 0, .slice none 0 0, .slice none 0 0, .slice none 0 0] 26)).drew).mono ?_); rintro e V1 ⟨xA5, xc5, xA6, xc6, xA7, xc7, xA8, xc8, rfl, hh, hb⟩; have hb0 := hb; have hb := below_then (below_drew (Below.refl (U4.alloc (.cells #[.int .i64 0, .int .u64 0, .int .u64 0, .int .u64 0, .int .u64 0, .slice none 0 0, .slice none 0 0, .slice none 0 0, .slice none 0 0] 26)).heap.size (U4.alloc (.cells #[.int .i64 0, .int .u64 0, .int .u64 0, .int .u64 0, .int .u64 0, .slice none 0 0, .slice none 0 0, .slice none 0 0, .slice none 0 0] 26)))) ((below_drew (Below.refl (U4.alloc (.cells #[.int .i64 0, .int .u64 0, .int .u64 0, .int .u64 0, .int .u64 0, .slice none 0 0, .slice none 0 0, .slice none 0 0, .slice none 0 0] 26)).heap.size (U4.alloc (.cells #[.int .i64 0, .int .u64 0, .int .u64 0, .int .u64 0, .int .u64 0, .slice none 0 0, .slice none 0 0, .slice none 0 0, .slice none 0 0] 26))))).size hb; replace B := Aside0.mk (below_then B.out B.out.size hb); replace C := Aside0.mk (C.out.below hb); replace Bd := Aside0.mk (Bd.out.below hb); replace M := Aside0.mk (M.out.below hb); replace R := Aside0.mk (R.out.below hb); replace T3 := Aside0.mk (T3.out.below hb); replace ht3 := fun i => T3.out.cell i; replace T5 := Aside0.mk (T5.out.below hb); replace ht5 := fun i => T5.out.cell i; replace T6 := Aside0.mk (T6.out.below hb); replace ht6 := fun i => T6.out.cell i; replace T8 := Aside0.mk (T8.out.below hb); replace ht8 := fun i => T8.out.cell i; have X1 := Aside0.mk hh; clear hb hb0 hh) | (go_at_call 90; (with_reducible refine (fequal_x oneF oneF oneF_wf oneF_wf true aw10_6 V1 _ _ M.out X1.out).mono ?_); rintro e V2 ⟨rfl, hb⟩; replace B := Aside0.mk (below_then B.out B.out.size hb); replace C := Aside0.mk (C.out.below hb); replace Bd := Aside0.mk (Bd.out.below hb); replace M := Aside0.mk (M.out.below hb); replace R := Aside0.mk (R.out.below hb); replace X1 := Aside0.mk (X1.out.below hb); replace T3 := Aside0.mk (T3.out.below hb); replace ht3 := fun i => T3.out.cell i; replace T5 := Aside0.mk (T5.out.below hb); replace ht5 := fun i => T5.out.cell i; replace T6 := Aside0.mk (T6.out.below hb); replace ht6 := fun i => T6.out.cell i; replace T8 := Aside0.mk (T8.out.below hb); replace ht8 := fun i => T8.out.cell i; clear hb) | (go_at_call 90; (with_reducible refine (fequal_x oneF canF oneF_wf canF_wf true aw10_7 V2 _ _ R.out C.out).mono ?_); rintro e V3 ⟨rfl, hb⟩; replace B := Aside0.mk (below_then B.out B.out.size hb); replace C := Aside0.mk (C.out.below hb); replace Bd := Aside0.mk (Bd.out.below hb); replace M := Aside0.mk (M.out.below hb); replace R := Aside0.mk (R.out.below hb); replace T3 := Aside0.mk (T3.out.below hb); replace ht3 := fun i => T3.out.cell i; replace T5 := Aside0.mk (T5.out.below hb); replace ht5 := fun i => T5.out.cell i; replace T6 := Aside0.mk (T6.out.below hb); replace ht6 := fun i => T6.out.cell i; replace T8 := Aside0.mk (T8.out.below hb); replace ht8 := fun i => T8.out.cell i; clear hb) | (go_at_call 85; (with_reducible refine (fone_x V3).mono ?_); rintro e V4 ⟨yA5, yc5, yA6, yc6, yA7, yc7, yA8, yc8, rfl, hh, hb⟩; replace B := Aside0.mk (below_then B.out B.out.size hb); replace C := Aside0.mk (C.out.below hb); replace Bd := Aside0.mk (Bd.out.below hb); replace M := Aside0.mk (M.out.below hb); replace R := Aside0.mk (R.out.below hb); replace T3 := Aside0.mk (T3.out.below hb); replace ht3 := fun i => T3.out.cell i; replace T5 := Aside0.mk (T5.out.below hb); replace ht5 := fun i => T5.out.cell i; replace T6 := Aside0.mk (T6.out.below hb); replace ht6 := fun i => T6.out.cell i; replace T8 := Aside0.mk (T8.out.below hb); replace ht8 := fun i => T8.out.cell i; have X4 := Aside0.mk hh; clear hb hh) | (go_at_call 90; (with_reducible refine (fequal_x oneF badF oneF_wf badF_wf false aw10_8 V4 _ _ X4.out Bd.out).mono ?_); rintro e V5 ⟨rfl, hb⟩; replace B := Aside0.mk (below_then B.out B.out.size hb); replace C := Aside0.mk (C.out.below hb); replace Bd := Aside0.mk (Bd.out.below hb); replace M := Aside0.mk (M.out.below hb); replace R := Aside0.mk (R.out.below hb); replace X4 := Aside0.mk (X4.out.below hb); replace T3 := Aside0.mk (T3.out.below hb); replace ht3 := fun i => T3.out.cell i; replace T5 := Aside0.mk (T5.out.below hb); replace ht5 := fun i => T5.out.cell i; replace T6 := Aside0.mk (T6.out.below hb); replace ht6 := fun i => T6.out.cell i; replace T8 := Aside0.mk (T8.out.below hb); replace ht8 := fun i => T8.out.cell i; clear hb) | (go_at_call 31; (with_reducible refine (float_three V5).mono ?_); rintro e V6 ⟨rfl, hb⟩; replace B := Aside0.mk (below_then B.out B.out.size hb); replace C := Aside0.mk (C.out.below hb); replace Bd := Aside0.mk (Bd.out.below hb); replace M := Aside0.mk (M.out.below hb); replace R := Aside0.mk (R.out.below hb); replace T3 := Aside0.mk (T3.out.below hb); replace ht3 := fun i => T3.out.cell i; replace T5 := Aside0.mk (T5.out.below hb); replace ht5 := fun i => T5.out.cell i; replace T6 := Aside0.mk (T6.out.below hb); replace ht6 := fun i => T6.out.cell i; replace T8 := Aside0.mk (T8.out.below hb); replace ht8 := fun i => T8.out.cell i; clear hb) | (go_at_call 82; (with_reducible refine (right10 V6).mono ?_); rintro e V7 ⟨rfl, hb⟩; replace B := Aside0.mk (below_then B.out B.out.size hb); replace C := Aside0.mk (C.out.below hb); replace Bd := Aside0.mk (Bd.out.below hb); replace M := Aside0.mk (M.out.below hb); replace R := Aside0.mk (R.out.below hb); replace T3 := Aside0.mk (T3.out.below hb); replace ht3 := fun i => T3.out.cell i; replace T5 := Aside0.mk (T5.out.below hb); replace ht5 := fun i => T5.out.cell i; replace T6 := Aside0.mk (T6.out.below hb); replace ht6 := fun i => T6.out.cell i; replace T8 := Aside0.mk (T8.out.below hb); replace ht8 := fun i => T8.out.cell i; clear hb))
    all_goals go_wp2
    all_goals go_ret
    all_goals exact ⟨rfl, B.out⟩
end Go.Proofs.Ytfbjjbbhnmoolaa.P
namespace Go.Proofs.Ytfbjjbbhnmoolaa.P
open Go.RowKit Go.Shelf Go.Proofs.YtfbjjbbhnmoolaaW.PrintWords Go.Proofs.YtfbjjbbhnmoolaaW.PrintLast Go.Proofs.YtfbjjbbhnmoolaaW.PrintMore
theorem refSideF_loop (c : List Int) (hm : c.length < 17592186044416) : ∀ (d k i : Nat), c.length - i = d → d < k → i ≤ c.length →
    tidepoleref10_Side.l0 k c (i : Int) = some (if (c.drop i).any (fun v => !rightF v) = true then 22 else 0) := by
  intro d
  induction d with
  | zero =>
    intro k i hd hk hi
    obtain ⟨k, rfl⟩ : ∃ m, k = m + 1 := ⟨k - 1, by omega⟩
    rw [tidepoleref10_Side.l0, if_neg (by omega), drop_end (by omega)]; rfl
  | succ d ih =>
    intro k i hd hk hi
    obtain ⟨k, rfl⟩ : ∃ m, k = m + 1 := ⟨k - 1, by omega⟩
    have hlt : i < c.length := by omega
    rw [tidepoleref10_Side.l0, if_pos (by omega), if_pos (by omega), rd_at hlt, drop_at hlt, wrap_succ (by omega), List.any_cons, show tidepoleref10_Right.f c[i] = some (rightF c[i]) from rfl, Option.bind_some]
    cases hq : rightF c[i] with
    | true => rw [if_pos rfl, ih k (i + 1) (by omega) (by omega) (by omega)]; simp
    | false => rw [if_neg (by simp)]; simp
theorem refSideF_eq (l : List Sp) (c : List Int) (hl : wfSps l) (hm : c.length < 4398046511104) (k : Nat) (hk : 5120000 + c.length < k) : tidepoleref10_Side.f k (l.map toR) c = some (sideF l c).2 := by
  unfold tidepoleref10_Side.f sideF
  rw [refCheck_eq l hl k (by omega), Option.bind_some]
  by_cases h1 : spCheck l = 0
  · have hp := plN_length l 0 (fun s hs => (spRight_pos l _ _ _ (spCheck_zero h1).2 s hs).1)
    rw [if_pos h1, if_pos h1, refPlaces_eq l h1 k (by omega), Option.bind_some]
    by_cases h2 : cntN l = c.length
    · rw [if_pos (by omega), if_pos h2]
      have hlp := refSideF_loop c (by omega) c.length k 0 (by omega) (by omega) (by omega)
      rw [List.drop_zero, show ((0 : Nat) : Int) = 0 from rfl] at hlp
      rw [hlp]
      by_cases h3 : c.any (fun v => !rightF v) = true
      · rw [if_pos h3, if_pos h3]
      · rw [if_neg h3, if_neg h3]
    · rw [if_neg (by omega), if_neg h2]
  · rw [if_neg h1, if_neg h1]
theorem refCheckF_eq (h : Fh) (hw : wfF h) (k : Nat) (hk : 5120002 + h.f7.length + h.f8.length < k) : tidepoleref10_Check.f k h.f0 h.f1 h.f2 h.f3 h.f4 (h.f5.map toR) (h.f6.map toR) h.f7 h.f8 = some (checkF h) := by
  obtain ⟨k, rfl⟩ : ∃ n, k = n + 1 + 1 := ⟨k - 2, by omega⟩
  have c1 := refSideF_eq h.f5 h.f7 hw.2.2.2.2.2.1 hw.2.2.2.2.2.2.2.2.2.1 k (by omega)
  have c2 := refSideF_eq h.f6 h.f8 hw.2.2.2.2.2.2.1 hw.2.2.2.2.2.2.2.2.2.2 k (by omega)
  have r := fun v => show tidepoleref10_Right.f v = some (rightF v) from rfl
  rw [checkF_eq]
  unfold headF
  generalize (sideF h.f5 h.f7).2 = e5 at *
  generalize (sideF h.f6 h.f8).2 = e6 at *
  unfold tidepoleref10_Check.f
  by_cases k1 : h.f0 < -4
  · rw [if_pos k1, if_pos (Or.inl k1), if_pos (by omega)]
    simp [tidepoleref10_Check.j0]
  rw [if_neg k1]
  by_cases k2 : h.f0 > 8
  · rw [if_pos (Or.inr k2), if_pos (by omega), decide_eq_true k2]
    simp [tidepoleref10_Check.j0]
  rw [if_neg (show ¬ (h.f0 < -4 ∨ h.f0 > 8) by omega), decide_eq_false k2]
  by_cases k3 : h.f1 < 9218868437227405312
  rotate_left
  · rw [if_pos (show rightF h.f1 = false from decide_eq_false k3), if_pos (by omega)]
    have k3' : h.f1 ≥ 9218868437227405312 := by omega
    simp [tidepoleref10_Check.j0, k3']
  rw [if_neg (show ¬ rightF h.f1 = false by unfold rightF; rw [decide_eq_true k3]; simp)]
  have k3' : ¬ h.f1 ≥ 9218868437227405312 := by omega
  simp only [tidepoleref10_Check.j0, Bool.false_eq_true, if_false, if_neg k3', r, Option.bind_some]
  cases hq2 : rightF h.f2 with
  | false => simp [tidepoleref10_Check.j1]
  | true =>
    cases hq3 : rightF h.f3 with
    | false => simp [tidepoleref10_Check.j1]
    | true =>
      simp only [tidepoleref10_Check.j1, c1, c2, Option.bind_some]
      by_cases k5 : e5 = 0
      · simp [k5, c2]
      · simp [k5]
theorem refCheckF_c (h : Fh) (hw : wfF h) (w : World) (v : Value) (hv : GR w v h) : Calls Try.prog 36 #[v] w fun e w' => e = .returned (.int .i64 (checkF h)) ∧ Below w.heap.size w w' := by
  obtain ⟨_, _, _, _, rfl, ⟨A5, c5, rfl, i5, s5⟩, ⟨A6, c6, rfl, i6, s6⟩, ⟨A7, c7, rfl, i7, s7⟩, ⟨A8, c8, rfl, i8, s8⟩⟩ := hv
  exact tidepoleref10_Check.calls (5120003 + h.f7.length + h.f8.length) _ _ _ _ _ A5 c5 _ A6 c6 _ A7 c7 _ A8 c8 _ _ w s5 i5 s6 i6 s7 i7 s8 i8 (refCheckF_eq h hw _ (by omega))
end Go.Proofs.Ytfbjjbbhnmoolaa.P
namespace Go.Proofs.Ytfbjjbbhnmoolaa.P
open Go.RowKit Go.Shelf Go.Proofs.YtfbjjbbhnmoolaaW.PrintWords Go.Proofs.YtfbjjbbhnmoolaaW.PrintLast Go.Proofs.YtfbjjbbhnmoolaaW.PrintMore
def wfG (h : Fh) : Prop := i64 h.f0 ∧ u64 h.f1 ∧ u64 h.f2 ∧ u64 h.f3 ∧ u64 h.f4 ∧ wfSps h.f5 ∧ wfSps h.f6 ∧ u64s h.f7 ∧ u64s h.f8
instance (h : Fh) : Decidable (wfG h) := by unfold wfG; exact inferInstance
theorem u64_all {l : List Int} (h : ∀ x ∈ l, inI .u64 x) : u64s l := fun x hx => u64_of (h x hx)
theorem wfG_of {x : S31} (h : wf31 x) : wfG x := ⟨i64_of h.1, u64_of h.2.1, u64_of h.2.2.1, u64_of h.2.2.2.1, u64_of h.2.2.2.2.1, wfSps_of h.2.2.2.2.2.1, wfSps_of h.2.2.2.2.2.2.1, u64_all h.2.2.2.2.2.2.2.1, u64_all h.2.2.2.2.2.2.2.2⟩
theorem wfF_of {h : Fh} (x : wfG h) (h7 : h.f7.length ≤ 300) (h8 : h.f8.length ≤ 300) : wfF h := ⟨x.1, x.2.1, x.2.2.1, x.2.2.2.1, x.2.2.2.2.1, x.2.2.2.2.2.1, x.2.2.2.2.2.2.1, x.2.2.2.2.2.2.2.1, x.2.2.2.2.2.2.2.2, by omega, by omega⟩
end Go.Proofs.Ytfbjjbbhnmoolaa.P
namespace Go.Proofs.Ytfbjjbbhnmoolaa.P
open Go.RowKit Go.Shelf Go.Proofs.YtfbjjbbhnmoolaaW.PrintWords Go.Proofs.YtfbjjbbhnmoolaaW.PrintLast Go.Proofs.YtfbjjbbhnmoolaaW.PrintMore
theorem alike10_eq (l : List Sp) (hm : l.length < 17592186044416) (k : Nat) (hk : l.length < k) : tidepolelaw10_alike.f k l l = some true := by
  unfold tidepolelaw10_alike.f
  rw [if_pos rfl]
  have : ∀ (d k i : Nat), l.length - i = d → d < k → i ≤ l.length → tidepolelaw10_alike.l0 k l l (l.length : Int) (i : Int) = some true := by
    intro d
    induction d with
    | zero =>
      intro k i hd hk hi
      obtain ⟨k, rfl⟩ : ∃ m, k = m + 1 := ⟨k - 1, by omega⟩
      rw [tidepolelaw10_alike.l0, if_neg (by omega)]
    | succ d ih =>
      intro k i hd hk hi
      obtain ⟨k, rfl⟩ : ∃ m, k = m + 1 := ⟨k - 1, by omega⟩
      rw [tidepolelaw10_alike.l0, if_pos (by omega), if_pos (by omega), if_pos (by omega), if_pos (by omega), if_neg (by simp), wrap_succ (by omega)]
      exact ih k (i + 1) (by omega) (by omega) (by omega)
  exact this l.length k 0 (by omega) (by omega) (by omega)
theorem alike10_c (l : List Sp) (hl : l.length ≤ 4096) (w : World) (u v : Value) (hu : SI kSp w u l) (hv : SI kSp w v l) : Calls Try.prog 40 #[u, v] w fun e w' => e = .returned (.bool true) ∧ Below w.heap.size w w' := by
  obtain ⟨A, c, rfl, hcc, hr⟩ := hu
  obtain ⟨A1, c1, rfl, hcc1, hr1⟩ := hv
  exact (tidepolelaw10_alike.calls (l.length + 1) A c l A1 c1 l true w hr hcc hr1 hcc1 (alike10_eq l (by omega) _ (by omega))).mono fun e w1 h => ⟨h.1, h.2.below⟩
end Go.Proofs.Ytfbjjbbhnmoolaa.P
namespace Go.Proofs.Ytfbjjbbhnmoolaa.P
open Go.RowKit Go.Shelf Go.Proofs.YtfbjjbbhnmoolaaW.PrintWords Go.Proofs.YtfbjjbbhnmoolaaW.PrintLast Go.Proofs.YtfbjjbbhnmoolaaW.PrintMore
theorem nearU_eq (v : Int) (h : u64 v) : nearI v = ((fltR v.toNat : Nat) : Int) := float_near v h
theorem same10b_eq (l : List Int) (hm : l.length < 17592186044416) (k : Nat) (hk : l.length < k) : tidepolelaw10_same.f k l l = some true := by
  unfold tidepolelaw10_same.f
  rw [if_pos rfl]
  have : ∀ (d k i : Nat), l.length - i = d → d < k → i ≤ l.length → tidepolelaw10_same.l0 k l l (l.length : Int) (i : Int) = some true := by
    intro d
    induction d with
    | zero =>
      intro k i hd hk hi
      obtain ⟨k, rfl⟩ : ∃ m, k = m + 1 := ⟨k - 1, by omega⟩
      rw [tidepolelaw10_same.l0, if_neg (by omega)]
    | succ d ih =>
      intro k i hd hk hi
      obtain ⟨k, rfl⟩ : ∃ m, k = m + 1 := ⟨k - 1, by omega⟩
      rw [tidepolelaw10_same.l0, if_pos (by omega), if_pos (by omega), if_pos (by omega), if_pos (by omega), if_pos rfl, wrap_succ (by omega)]
      exact ih k (i + 1) (by omega) (by omega) (by omega)
  exact this l.length k 0 (by omega) (by omega) (by omega)
theorem same10b_c (l : List Int) (hl : l.length ≤ 4096) (w : World) (u v : Value) (hu : SI (Kd.int .u64) w u l) (hv : SI (Kd.int .u64) w v l) : Calls Try.prog 39 #[u, v] w fun e w' => e = .returned (.bool true) ∧ Below w.heap.size w w' := by
  obtain ⟨A, c, rfl, hcc, hr⟩ := hu
  obtain ⟨A1, c1, rfl, hcc1, hr1⟩ := hv
  exact (tidepolelaw10_same.calls (l.length + 1) A c l A1 c1 l true w hr hcc hr1 hcc1 (same10b_eq l (by omega) _ (by omega))).mono fun e w1 h => ⟨h.1, h.2.below⟩
end Go.Proofs.Ytfbjjbbhnmoolaa.P
namespace Go.Proofs.Ytfbjjbbhnmoolaa.P
open Go.RowKit Go.Shelf Go.Proofs.YtfbjjbbhnmoolaaW.PrintWords Go.Proofs.YtfbjjbbhnmoolaaW.PrintLast Go.Proofs.YtfbjjbbhnmoolaaW.PrintMore
theorem near_whole {v : Int} (h0 : 0 ≤ v) (h : (wholeI v).2 = true) : nearI (wholeI v).1 = v := by
  obtain ⟨n, rfl⟩ : ∃ n : Nat, v = n := ⟨v.toNat, by omega⟩
  unfold wholeI at h ⊢
  rw [Int.toNat_natCast] at h ⊢
  obtain ⟨e1, e2⟩ := wholeN_flt h
  simp only
  rw [nearU_eq _ ⟨by omega, by omega⟩, Int.toNat_natCast, e1]
theorem near_wholes {l : List Int} (h0 : ∀ v ∈ l, 0 ≤ v) (h : allWhole l = true) : (wholesOf l).map nearI = l := by
  unfold wholesOf
  rw [List.map_map]
  refine (List.map_congr_left (g := id) fun x hx => ?_).trans (List.map_id l)
  have := List.all_eq_true.1 h x hx
  simp only [Function.comp, near_whole (h0 x hx) this, id]
theorem floats_back {l : List Int} (h0 : ∀ v ∈ l, 0 ≤ v) (h : allWhole l = true) (hb : noneBig (wholesOf l) = true) : floatsCR (diffsW 0 (wholesOf l)) = l := by
  have n := wholesOf_nonneg h0
  have b := noneBig_le hb
  unfold floatsCR
  rw [sums_diffsW (wholesOf l) 0 (fun x hx => ⟨by have := n x hx; omega, b x hx⟩)]
  exact near_wholes h0 h
theorem side_back {l : List Sp} {d : List Int} (h : (sideF l d).2 = 0) (h0 : ∀ v ∈ d, 0 ≤ v) (hb : noneBig (wholesOf d) = true) : (sideRes l (diffsW 0 (wholesOf d))).2 = 0 := by
  have n := wholesOf_nonneg h0
  have b := noneBig_le hb
  have hk := (sideF_bounds h).2.2.2.1
  have hcn : cntN l = d.length := by
    unfold sideF at h
    rw [if_pos hk] at h
    by_cases c : cntN l = d.length
    · exact c
    · rw [if_neg c] at h; cases h
  have hlen : (diffsW 0 (wholesOf d)).length = d.length := by rw [diffsW_len]; simp [wholesOf]
  unfold sideRes
  rw [if_pos hk, if_pos (by omega), sums_diffsW (wholesOf d) 0 (fun x hx => ⟨by have := n x hx; omega, b x hx⟩)]
  simp only
  rw [if_neg]
  rw [Bool.not_eq_true, List.any_eq_false]
  intro x hx
  have := n x hx
  simp; omega
theorem back_check {h : Fh} (hw : wfF h) (hc : checkF h = 0) (b7 : noneBig (wholesOf h.f7) = true) (b8 : noneBig (wholesOf h.f8) = true) : checkR (backH h) = 0 ∨ checkR (backH h) = 22 := by
  obtain ⟨z1, z2, z3⟩ := checkF_zero hc
  have w7 := hw.2.2.2.2.2.2.2.1
  have w8 := hw.2.2.2.2.2.2.2.2.1
  have s7 := side_back z2 (fun v hv => (w7 v hv).1) b7
  have s8 := side_back z3 (fun v hv => (w8 v hv).1) b8
  have hh : headE (backH h) = 0 := by
    unfold headF at z1
    unfold headE
    by_cases c1 : h.f0 < -4 ∨ h.f0 > 8
    · rw [if_pos c1] at z1; cases z1
    rw [if_neg c1] at z1
    by_cases c2 : rightF h.f1 = false
    · rw [if_pos c2] at z1; cases z1
    rw [if_neg (show ¬ ((backH h).f0 < -4 ∨ (backH h).f0 > 8) from c1), if_neg]
    rw [Bool.not_eq_false] at c2
    have := of_decide_eq_true c2
    show ¬ ¬ h.f1 < 9218868437227405312
    omega
  rw [checkR_eq, if_neg (by simp [hh])]
  rw [if_neg (show ¬ (sideRes (backH h).f5 (backH h).f7).2 ≠ 0 from fun q => q s7), if_neg (show ¬ (sideRes (backH h).f6 (backH h).f8).2 ≠ 0 from fun q => q s8)]
  by_cases c : fits (backH h).f2 (backH h).f3 (backH h).f4 (sideRes (backH h).f5 (backH h).f7).1 (sideRes (backH h).f6 (backH h).f8).1 = true
  · exact .inl (if_pos c)
  · exact .inr (if_neg c)
theorem from_back {h : Fh} (hw : wfF h) (a2 : allWhole [h.f2, h.f3] = true) (a7 : allWhole h.f7 = true) (a8 : allWhole h.f8 = true) (b7 : noneBig (wholesOf h.f7) = true) (b8 : noneBig (wholesOf h.f8) = true) : fromF (backH h) = h := by
  have w7 := hw.2.2.2.2.2.2.2.1
  have w8 := hw.2.2.2.2.2.2.2.2.1
  have t2 : (wholeI h.f2).2 = true := List.all_eq_true.1 a2 h.f2 (by simp)
  have t3 : (wholeI h.f3).2 = true := List.all_eq_true.1 a2 h.f3 (by simp)
  unfold fromF backH
  simp only [near_whole hw.2.2.1.1 t2, near_whole hw.2.2.2.1.1 t3, floats_back (fun v hv => (w7 v hv).1) a7 b7, floats_back (fun v hv => (w8 v hv).1) a8 b8]
end Go.Proofs.Ytfbjjbbhnmoolaa.P
namespace Go.Proofs.Ytfbjjbbhnmoolaa.P
open Go.RowKit Go.Proofs.YtfbjjbbhnmoolaaW.PrintWords Go.Proofs.YtfbjjbbhnmoolaaW.PrintLast Go.Proofs.YtfbjjbbhnmoolaaW.PrintMore
attribute [local go_sem] max2_int min2_int max_two min_two max_three min_three max_four min_four
mutual
def fhist_Back.j0 : Nat → List Int → List Int → List Int → Bool → Int → Int → Int → Int → Int → List (S86) → List (S86) → List Int → List Int → Option (Int × Int × Int × Int × Int × (List (S86)) × (List (S86)) × List Int × List Int × Int)
 | 0, _, _, _, _, _, _, _, _, _, _, _, _, _ => none
 | k + 1, x5, x7, x9, x49, x102000, x102001, x102002, x102003, x102004, x102005, x102006, x102007, x102008 => if x49 = true then (some (0, 0, 0, 0, 0, ([] : List (S86)), ([] : List (S86)), ([] : List Int), ([] : List Int), 10)) else (if 0 < (x5.length : Int) then (if 1 < (x5.length : Int) then ((slices_Clone_span.f x102005).bind fun t121 => ((slices_Clone_span.f x102006).bind fun t124 => ((fhist_differences.f x7).bind fun bt128 => ((fhist_differences.f x9).bind fun bt132 => (if bt128.2 = true then (fhist_Back.j1 k (!bt132.2) x102000 x102001 (rd x5 0) (rd x5 1) x102004 t121 t124 bt128.1 bt132.1) else (fhist_Back.j1 k true x102000 x102001 (rd x5 0) (rd x5 1) x102004 t121 t124 bt128.1 bt132.1)))))) else (none)) else (none))
def fhist_Back.j1 : Nat → Bool → Int → Int → Int → Int → Int → List (S86) → List (S86) → List Int → List Int → Option (Int × Int × Int × Int × Int × (List (S86)) × (List (S86)) × List Int × List Int × Int)
 | 0, _, _, _, _, _, _, _, _, _, _ => none
 | k + 1, x87, x128000, x128001, x128002, x128003, x128004, x128005, x128006, x128007, x128008 => if x87 = true then (some (0, 0, 0, 0, 0, ([] : List (S86)), ([] : List (S86)), ([] : List Int), ([] : List Int), 28)) else ((hist_Check.f x128000 x128001 x128002 x128003 x128004 x128005 x128006 x128007 x128008).bind fun t136 => (if t136 = 0 then (some (x128000, x128001, x128002, x128003, x128004, x128005, x128006, x128007, x128008, 0)) else (some (0, 0, 0, 0, 0, ([] : List (S86)), ([] : List (S86)), ([] : List Int), ([] : List Int), t136))))
end
def fhist_Back.f (k : Nat) (a0_0 : Int) (a0_1 : Int) (a0_2 : Int) (a0_3 : Int) (a0_4 : Int) (l0_5 : List (S86)) (l0_6 : List (S86)) (l0_7 : List Int) (l0_8 : List Int) : Option (Int × Int × Int × Int × Int × (List (S86)) × (List (S86)) × List Int × List Int × Int) := (fhist_Check.f a0_0 a0_1 a0_2 a0_3 a0_4 l0_5 l0_6 l0_7 l0_8).bind fun t103 => (if t103 = 0 then ((fhist_wholes.f (([a0_2, a0_3] : List Int))).bind fun bt107 => ((fhist_wholes.f l0_7).bind fun bt111 => ((fhist_wholes.f l0_8).bind fun bt115 => (if bt107.2 = true then (if bt111.2 = true then (fhist_Back.j0 k bt107.1 bt111.1 bt115.1 (!bt115.2) a0_0 a0_1 a0_2 a0_3 a0_4 l0_5 l0_6 l0_7 l0_8) else (fhist_Back.j0 k bt107.1 bt111.1 bt115.1 true a0_0 a0_1 a0_2 a0_3 a0_4 l0_5 l0_6 l0_7 l0_8)) else (fhist_Back.j0 k bt107.1 bt111.1 bt115.1 true a0_0 a0_1 a0_2 a0_3 a0_4 l0_5 l0_6 l0_7 l0_8))))) else (some (0, 0, 0, 0, 0, ([] : List (S86)), ([] : List (S86)), ([] : List Int), ([] : List Int), t103)))
def fhist_Back.T9 : Bool × List (List Nat × List Nat) := (true, [([], []), ([0], [0]), ([], []), ([2], [2]), ([], []), ([4], [4]), ([5], [5]), ([], []), ([7], [7]), ([8], [8]), ([], []), ([10], [10]), ([], []), ([12], [12]), ([13], [13]), ([], []), ([15], [15]), ([16, 14], [16]), ([1, 3, 6, 9, 11, 14, 17], [1, 3, 6, 9, 11, 14, 17]), ([], []), ([19, 18, 17, 0, 1, 2, 3, 4, 5, 6, 7, 8, 9, 10, 11, 12, 13, 14, 15, 16, 17, 18, 19], [18, 19])])
def fhist_Back.B9 : List Nat := [0, 1, 0, 4, 0, 16, 48, 0, 128, 384, 0, 1024, 0, 4096, 12288, 0, 32768, 126976, 262143, 0, 1048575]
theorem fhist_Back.tab9 : rtab .any (opsOf Try.f35 9) = fhist_Back.T9 := by kernel_rfl
theorem fhist_Back.bits9 : waitsOk fhist_Back.T9.2 fhist_Back.B9 = true := by kernel_rfl
set_option maxHeartbeats 8000000 in
set_option maxRecDepth 100000 in
theorem fhist_Back.calls (k : Nat) (a0_0 : Int) (a0_1 : Int) (a0_2 : Int) (a0_3 : Int) (a0_4 : Int) (A0_5 : Option Addr) (c0_5 : Nat) (l0_5 : List (S86)) (A0_6 : Option Addr) (c0_6 : Nat) (l0_6 : List (S86)) (A0_7 : Option Addr) (c0_7 : Nat) (l0_7 : List Int) (A0_8 : Option Addr) (c0_8 : Nat) (l0_8 : List Int) (r1 : Int) (r2 : Int) (r3 : Int) (r4 : Int) (r5 : Int) (r6 : List (S86)) (r7 : List (S86)) (r8 : List Int) (r9 : List Int) (r10 : Int) (w : World) (hr0_5 : Kd.C k86 w A0_5 l0_5.length l0_5) (hc0_5 : l0_5.length ≤ c0_5) (hr0_6 : Kd.C k86 w A0_6 l0_6.length l0_6) (hc0_6 : l0_6.length ≤ c0_6) (hr0_7 : Kd.C (Kd.int .u64) w A0_7 l0_7.length l0_7) (hc0_7 : l0_7.length ≤ c0_7) (hr0_8 : Kd.C (Kd.int .u64) w A0_8 l0_8.length l0_8) (hc0_8 : l0_8.length ≤ c0_8) (h : fhist_Back.f k a0_0 a0_1 a0_2 a0_3 a0_4 l0_5 l0_6 l0_7 l0_8 = some (r1, r2, r3, r4, r5, r6, r7, r8, r9, r10)) :
  Calls Try.prog 35 #[.agg #[.int .i64 a0_0, .int .u64 a0_1, .int .u64 a0_2, .int .u64 a0_3, .int .u64 a0_4, .slice A0_5 l0_5.length c0_5, .slice A0_6 l0_6.length c0_6, .slice A0_7 l0_7.length c0_7, .slice A0_8 l0_8.length c0_8]] w fun e w' => ∃ v5_ v6_ v7_ v8_ : Value, e = .returned (.tuple #[.agg #[.int .i64 r1, .int .u64 r2, .int .u64 r3, .int .u64 r4, .int .u64 r5, v5_, v6_, v7_, v8_], .int .i64 r10]) ∧ Kd.R k86 86 w' w.heap.size (fun k_ => some k_ ≠ (v6_ : Value).ownBlock) v5_ r6 ∧ Kd.R k86 86 w' w.heap.size (fun k_ => some k_ ≠ (v5_ : Value).ownBlock) v6_ r7 ∧ Kd.R (Kd.int .i64) 2 w' w.heap.size (fun k_ => some k_ ≠ (v8_ : Value).ownBlock) v7_ r8 ∧ Kd.R (Kd.int .i64) 2 w' w.heap.size (fun k_ => some k_ ≠ (v7_ : Value).ownBlock) v8_ r9 ∧ Below w.heap.size w w' := by
 have hu31 := Try.underlying31
 have hu26 := Try.underlying26
 have HR0_5 := Aside0.mk hr0_5
 have HC0_5 := Aside0.mk hc0_5
 clear hr0_5 hc0_5
 have HR0_6 := Aside0.mk hr0_6
 have HC0_6 := Aside0.mk hc0_6
 clear hr0_6 hc0_6
 have HR0_7 := Aside0.mk hr0_7
 have HC0_7 := Aside0.mk hc0_7
 clear hr0_7 hc0_7
 have HR0_8 := Aside0.mk hr0_8
 have HC0_8 := Aside0.mk hc0_8
 clear hr0_8 hc0_8
 have HB := Aside0.mk (Below.refl w.heap.size w)
 have H : ((fhist_Check.f a0_0 a0_1 a0_2 a0_3 a0_4 l0_5 l0_6 l0_7 l0_8).bind fun t103 => (if t103 = 0 then ((fhist_wholes.f (([a0_2, a0_3] : List Int))).bind fun bt107 => ((fhist_wholes.f l0_7).bind fun bt111 => ((fhist_wholes.f l0_8).bind fun bt115 => (if bt107.2 = true then (if bt111.2 = true then (fhist_Back.j0 k bt107.1 bt111.1 bt115.1 (!bt115.2) a0_0 a0_1 a0_2 a0_3 a0_4 l0_5 l0_6 l0_7 l0_8) else (fhist_Back.j0 k bt107.1 bt111.1 bt115.1 true a0_0 a0_1 a0_2 a0_3 a0_4 l0_5 l0_6 l0_7 l0_8)) else (fhist_Back.j0 k bt107.1 bt111.1 bt115.1 true a0_0 a0_1 a0_2 a0_3 a0_4 l0_5 l0_6 l0_7 l0_8))))) else (some (0, 0, 0, 0, 0, ([] : List (S86)), ([] : List (S86)), ([] : List Int), ([] : List Int), t103)))) = some (r1, r2, r3, r4, r5, r6, r7, r8, r9, r10) := h
 clear h
 replace H := Option.bind_eq_some_iff.mp H
 obtain ⟨t103, A20, H⟩ := H
 replace H : (if t103 = 0 then ((fhist_wholes.f (([a0_2, a0_3] : List Int))).bind fun bt107 => ((fhist_wholes.f l0_7).bind fun bt111 => ((fhist_wholes.f l0_8).bind fun bt115 => (if bt107.2 = true then (if bt111.2 = true then (fhist_Back.j0 k bt107.1 bt111.1 bt115.1 (!bt115.2) a0_0 a0_1 a0_2 a0_3 a0_4 l0_5 l0_6 l0_7 l0_8) else (fhist_Back.j0 k bt107.1 bt111.1 bt115.1 true a0_0 a0_1 a0_2 a0_3 a0_4 l0_5 l0_6 l0_7 l0_8)) else (fhist_Back.j0 k bt107.1 bt111.1 bt115.1 true a0_0 a0_1 a0_2 a0_3 a0_4 l0_5 l0_6 l0_7 l0_8))))) else (some (0, 0, 0, 0, 0, ([] : List (S86)), ([] : List (S86)), ([] : List Int), ([] : List Int), t103))) = some (r1, r2, r3, r4, r5, r6, r7, r8, r9, r10) := H
 have A2 := Aside0.mk A20
 clear A20
 by_cases c3 : t103 = 0
 ·rw [if_pos c3] at H
  have c3b0 : (t103 == 0) = true := beq_iff_eq.mpr c3
  have c3b1 : (t103 != 0) = false := bne_eq_false_iff_eq.mpr c3
  clear c3
  obtain ⟨y104, hy104⟩ : ∃ y_ : List Int, y_ = (([a0_2, a0_3] : List Int)) := ⟨_, rfl⟩
  replace H : ((fhist_wholes.f y104).bind fun bt107 => ((fhist_wholes.f l0_7).bind fun bt111 => ((fhist_wholes.f l0_8).bind fun bt115 => (if bt107.2 = true then (if bt111.2 = true then (fhist_Back.j0 k bt107.1 bt111.1 bt115.1 (!bt115.2) a0_0 a0_1 a0_2 a0_3 a0_4 l0_5 l0_6 l0_7 l0_8) else (fhist_Back.j0 k bt107.1 bt111.1 bt115.1 true a0_0 a0_1 a0_2 a0_3 a0_4 l0_5 l0_6 l0_7 l0_8)) else (fhist_Back.j0 k bt107.1 bt111.1 bt115.1 true a0_0 a0_1 a0_2 a0_3 a0_4 l0_5 l0_6 l0_7 l0_8))))) = some (r1, r2, r3, r4, r5, r6, r7, r8, r9, r10) := by first | (rw [hy104]; with_reducible exact H) | (have H2_ := (Option.bind_some _ _).symm.trans H; rw [hy104]; with_reducible exact H2_) | (have H2_ := (Option.bind_some _ _).symm.trans H; with_reducible exact H2_) | with_reducible exact H | (rw [hy104]; exact H) | exact H
  have Ny104 := Aside0.mk hy104
  clear hy104
  replace H := Option.bind_eq_some_iff.mp H
  obtain ⟨⟨t107, t108⟩, A40, H⟩ := H
  replace H : ((fhist_wholes.f l0_7).bind fun bt111 => ((fhist_wholes.f l0_8).bind fun bt115 => (if t108 = true then (if bt111.2 = true then (fhist_Back.j0 k t107 bt111.1 bt115.1 (!bt115.2) a0_0 a0_1 a0_2 a0_3 a0_4 l0_5 l0_6 l0_7 l0_8) else (fhist_Back.j0 k t107 bt111.1 bt115.1 true a0_0 a0_1 a0_2 a0_3 a0_4 l0_5 l0_6 l0_7 l0_8)) else (fhist_Back.j0 k t107 bt111.1 bt115.1 true a0_0 a0_1 a0_2 a0_3 a0_4 l0_5 l0_6 l0_7 l0_8)))) = some (r1, r2, r3, r4, r5, r6, r7, r8, r9, r10) := H
  have A4 := Aside0.mk A40
  clear A40
  replace H := Option.bind_eq_some_iff.mp H
  obtain ⟨⟨t111, t112⟩, A50, H⟩ := H
  replace H : ((fhist_wholes.f l0_8).bind fun bt115 => (if t108 = true then (if t112 = true then (fhist_Back.j0 k t107 t111 bt115.1 (!bt115.2) a0_0 a0_1 a0_2 a0_3 a0_4 l0_5 l0_6 l0_7 l0_8) else (fhist_Back.j0 k t107 t111 bt115.1 true a0_0 a0_1 a0_2 a0_3 a0_4 l0_5 l0_6 l0_7 l0_8)) else (fhist_Back.j0 k t107 t111 bt115.1 true a0_0 a0_1 a0_2 a0_3 a0_4 l0_5 l0_6 l0_7 l0_8))) = some (r1, r2, r3, r4, r5, r6, r7, r8, r9, r10) := H
  have A5 := Aside0.mk A50
  clear A50
  replace H := Option.bind_eq_some_iff.mp H
  obtain ⟨⟨t115, t116⟩, A60, H⟩ := H
  replace H : (if t108 = true then (if t112 = true then (fhist_Back.j0 k t107 t111 t115 (!t116) a0_0 a0_1 a0_2 a0_3 a0_4 l0_5 l0_6 l0_7 l0_8) else (fhist_Back.j0 k t107 t111 t115 true a0_0 a0_1 a0_2 a0_3 a0_4 l0_5 l0_6 l0_7 l0_8)) else (fhist_Back.j0 k t107 t111 t115 true a0_0 a0_1 a0_2 a0_3 a0_4 l0_5 l0_6 l0_7 l0_8)) = some (r1, r2, r3, r4, r5, r6, r7, r8, r9, r10) := H
  have A6 := Aside0.mk A60
  clear A60
  have HC7 := Aside0.mk H
  clear H
  go_enter Try.func35, Try.ntmps35
  go_upto_region 7 with (first | ((with_reducible refine gate_dst (N := 1) rfl ?_); refine box_event ?hg (N := 1) ?hd (cs := #[.int .i64 a0_0, .int .u64 a0_1, .int .u64 a0_2, .int .u64 a0_3, .int .u64 a0_4, .slice A0_5 l0_5.length c0_5, .slice A0_6 l0_6.length c0_6, .slice A0_7 l0_7.length c0_7, .slice A0_8 l0_8.length c0_8]) (t := 31) ?hr ?_; (case hd => rfl); (case hg => rfl); (case hr => first | (go_simp; done) | (go_simp; rfl)); intro gb101 hg w8 hbox hb; have BK101 := Aside0.mk (hbox); have GW101 := Aside0.mk ((by rw [hg]; exact (below_size (below_u HB.out)) : w.heap.size ≤ gb101)); have GE101 := Aside0.mk ((by rw [hg]; exact (below_size (below_u HB.out)) : w.heap.size ≤ gb101)); replace HB := Aside0.mk (below_step (below_u HB.out) hb); clear hb hbox hg) | ((with_reducible refine gate_dst (N := 2) rfl ?_); refine box_event ?hg (N := 2) ?hd (cs := #[.int .i64 0, .int .u64 0, .int .u64 0, .int .u64 0, .int .u64 0, .slice none 0 0, .slice none 0 0, .slice none 0 0, .slice none 0 0]) (t := 26) ?hr ?_; (case hd => rfl); (case hg => rfl); (case hr => first | (go_simp; done) | (go_simp; rfl)); intro gb102 hg w9 hbox hb; have BK102 := Aside0.mk (hbox); have GW102 := Aside0.mk ((by rw [hg]; exact (below_size (by repeat (first | (with_reducible first | exact HB.out | refine below_q ?_ | refine below_set ?_ GE101.out) | exact HB.out))) : w.heap.size ≤ gb102)); have GE102 := Aside0.mk ((by rw [hg]; exact (below_size (by repeat (first | (with_reducible first | exact HB.out | refine below_q ?_ | refine below_set ?_ GE101.out) | exact HB.out))) : w.heap.size ≤ gb102)); have NB101_102 := Aside0.mk ((by rw [hg]; exact Nat.ne_of_lt (blk_lt (g := gb101) (o := .cells #[.int .i64 a0_0, .int .u64 a0_1, .int .u64 a0_2, .int .u64 a0_3, .int .u64 a0_4, .slice A0_5 l0_5.length c0_5, .slice A0_6 l0_6.length c0_6, .slice A0_7 l0_7.length c0_7, .slice A0_8 l0_8.length c0_8] 31 (0, 0)) (blk_u BK101.out)) : gb101 ≠ gb102)); have NB102_101 := Aside0.mk ((by rw [hg]; exact Nat.ne_of_gt (blk_lt (g := gb101) (o := .cells #[.int .i64 a0_0, .int .u64 a0_1, .int .u64 a0_2, .int .u64 a0_3, .int .u64 a0_4, .slice A0_5 l0_5.length c0_5, .slice A0_6 l0_6.length c0_6, .slice A0_7 l0_7.length c0_7, .slice A0_8 l0_8.length c0_8] 31 (0, 0)) (blk_u BK101.out)) : gb102 ≠ gb101)); replace BK101 := Aside0.mk (blk_ub BK101.out hb); replace HB := Aside0.mk (below_step (by repeat (first | (with_reducible first | exact HB.out | refine below_q ?_ | refine below_set ?_ GE101.out) | exact HB.out)) hb); clear hb hbox hg; have hnb10 := NB101_102.out; have hnc10 := NB102_101.out; have hcz11_0 := blk_cell BK101.out; have hfz11_0 := blk_frozen BK101.out) | ((with_reducible refine gate_callee (f := 87) rfl ?_); refine goesL_ (some 14) rfl rfl Try.func87 (by kernel_rfl) rfl #[.agg #[.int .i64 a0_0, .int .u64 a0_1, .int .u64 a0_2, .int .u64 a0_3, .int .u64 a0_4, .slice A0_5 l0_5.length c0_5, .slice A0_6 l0_6.length c0_6, .slice A0_7 l0_7.length c0_7, .slice A0_8 l0_8.length c0_8]] rfl (by (try simp only [List.map_toArray, List.map_cons, List.map_nil]); first | done | rfl | (simp only [List.length_drop, List.length_take]; rfl)) ?_; (with_reducible refine (fhist_Check.calls a0_0 a0_1 a0_2 a0_3 a0_4 _ _ l0_5 _ _ l0_6 _ _ l0_7 _ _ l0_8 t103 _ ?side1 ?side2 ?side3 ?side4 ?side5 ?side6 ?side7 ?side8 A2.out).mono ?_); (case side1 => exact Kd.C_u (Kd.C_below HR0_5.out HB.out)); (case side2 => exact HC0_5.out); (case side3 => exact Kd.C_u (Kd.C_below HR0_6.out HB.out)); (case side4 => exact HC0_6.out); (case side5 => exact Kd.C_u (Kd.C_below HR0_7.out HB.out)); (case side6 => exact HC0_7.out); (case side7 => exact Kd.C_u (Kd.C_below HR0_8.out HB.out)); (case side8 => exact HC0_8.out); rintro e w12 ⟨rfl, hb⟩; refine ⟨_, rfl, ?_⟩; replace BK101 := Aside0.mk (blk_ub BK101.out hb); replace BK102 := Aside0.mk (blk_ub BK102.out hb); replace HB := Aside0.mk (below_step (by repeat (first | (with_reducible first | exact HB.out | refine below_q ?_ | refine below_set ?_ GE101.out | refine below_set ?_ GE102.out) | exact HB.out)) hb); (try clear hb); (try clear hb2); (try clear hk); (try clear hi); clear A2; have hcz13_0 := blk_cell BK101.out; have hfz13_0 := blk_frozen BK101.out) | ((with_reducible refine gate_dst (N := 24) rfl ?_); refine Kd.R_lit (Kd.int .u64) _ 22 ?hg (N := 24) ?hd (xs := ([a0_2, a0_3] : List Int)) (inner := [.int .u64 a0_2, .int .u64 a0_3]) (ok := fun _ => True) (okp := fun _ => True) ?hr ?hp (fun _ hk => hk) trivial (Below.refl _ _) (Nat.le_refl _) (by simp) ?_; (case hd => rfl); (case hg => rfl); (case hr => first | (go_simp; done) | (go_simp; rfl)); (case hp => exact (Reps.one (show Kd.M (Kd.int .u64) _ _ _ a0_2 [.int .u64 a0_2] from rfl) (Reps.one (show Kd.M (Kd.int .u64) _ _ _ a0_3 [.int .u64 a0_3] from rfl) (Reps.none _ _)))); intro v105 w14 ho15 hb hg_ hnew_; clear hg_ hnew_; (first | rw [← Ny104.out] at ho15 | (simp only [Int.reduceToNat] at ho15; rw [← Ny104.out] at ho15)); have HO106 := Aside0.mk (Kd.R_lower ho15 (below_size (by repeat (first | (with_reducible first | exact HB.out | refine below_q ?_ | refine below_set ?_ GE101.out | refine below_set ?_ GE102.out) | exact HB.out)))); replace BK101 := Aside0.mk (blk_ub BK101.out hb); replace BK102 := Aside0.mk (blk_ub BK102.out hb); replace HB := Aside0.mk (below_step (by repeat (first | (with_reducible first | exact HB.out | refine below_q ?_ | refine below_set ?_ GE101.out | refine below_set ?_ GE102.out) | exact HB.out)) hb); clear hb ho15; obtain ⟨Ao16, co16, eo16⟩ := Kd.R_slice HO106.out; subst eo16) | ((with_reducible refine gate_callee (f := 91) rfl ?_); refine goesL_ (some 25) rfl rfl Try.func91 (by kernel_rfl) rfl #[.slice Ao16 y104.length co16] rfl (by (try simp only [List.map_toArray, List.map_cons, List.map_nil]); first | done | rfl | (simp only [List.length_drop, List.length_take]; rfl)) ?_; (with_reducible refine (fhist_wholes.calls _ _ y104 t107 t108 _ ?side1 ?side2 A4.out).mono ?_); (case side1 => exact Kd.C_u (Kd.R_reads' HO106.out).2.2); (case side2 => exact (Kd.R_reads' HO106.out).2.1); rintro e w17 ⟨v109, rfl, ho0, hb⟩; refine ⟨_, rfl, ?_⟩; have HO110 := Aside0.mk (Kd.R_lower (Kd.R_new' ho0 (Kd.R_lt (Kd.R_u HO106.out))) (below_size (by repeat (first | (with_reducible first | exact HB.out | refine below_q ?_ | refine below_set ?_ GE101.out | refine below_set ?_ GE102.out) | exact HB.out)))); replace HO106 := Aside0.mk (Kd.R_elder' (Kd.R_u HO106.out) (Kd.R_base ho0) hb); replace BK101 := Aside0.mk (blk_ub BK101.out hb); replace BK102 := Aside0.mk (blk_ub BK102.out hb); replace HB := Aside0.mk (below_step (by repeat (first | (with_reducible first | exact HB.out | refine below_q ?_ | refine below_set ?_ GE101.out | refine below_set ?_ GE102.out) | exact HB.out)) hb); (try clear hb); (try clear hb2); (try clear hk); (try clear hi); (try clear ho0); clear A4; have hcz18_0 := blk_cell BK101.out; have hfz18_0 := blk_frozen BK101.out) | ((with_reducible refine gate_callee (f := 91) rfl ?_); refine goesL_ (some 31) rfl rfl Try.func91 (by kernel_rfl) rfl #[.slice A0_7 l0_7.length c0_7] rfl (by (try simp only [List.map_toArray, List.map_cons, List.map_nil]); first | done | rfl | (simp only [List.length_drop, List.length_take]; rfl)) ?_; (with_reducible refine (fhist_wholes.calls _ _ l0_7 t111 t112 _ ?side1 ?side2 A5.out).mono ?_); (case side1 => exact Kd.C_u (Kd.C_below HR0_7.out HB.out)); (case side2 => exact HC0_7.out); rintro e w19 ⟨v113, rfl, ho0, hb⟩; refine ⟨_, rfl, ?_⟩; have HO114 := Aside0.mk (Kd.R_lower (Kd.R_new' (Kd.R_new' ho0 (Kd.R_lt (Kd.R_u HO106.out))) (Kd.R_lt (Kd.R_u HO110.out))) (below_size (by repeat (first | (with_reducible first | exact HB.out | refine below_q ?_ | refine below_set ?_ GE101.out | refine below_set ?_ GE102.out) | exact HB.out)))); replace HO106 := Aside0.mk (Kd.R_elder' (Kd.R_u HO106.out) (Kd.R_base ho0) hb); replace HO110 := Aside0.mk (Kd.R_elder' (Kd.R_u HO110.out) (Kd.R_base ho0) hb); replace BK101 := Aside0.mk (blk_ub BK101.out hb); replace BK102 := Aside0.mk (blk_ub BK102.out hb); replace HB := Aside0.mk (below_step (by repeat (first | (with_reducible first | exact HB.out | refine below_q ?_ | refine below_set ?_ GE101.out | refine below_set ?_ GE102.out) | exact HB.out)) hb); (try clear hb); (try clear hb2); (try clear hk); (try clear hi); (try clear ho0); clear A5; have hcz20_0 := blk_cell BK101.out; have hfz20_0 := blk_frozen BK101.out) | ((with_reducible refine gate_callee (f := 91) rfl ?_); refine goesL_ (some 37) rfl rfl Try.func91 (by kernel_rfl) rfl #[.slice A0_8 l0_8.length c0_8] rfl (by (try simp only [List.map_toArray, List.map_cons, List.map_nil]); first | done | rfl | (simp only [List.length_drop, List.length_take]; rfl)) ?_; (with_reducible refine (fhist_wholes.calls _ _ l0_8 t115 t116 _ ?side1 ?side2 A6.out).mono ?_); (case side1 => exact Kd.C_u (Kd.C_below HR0_8.out HB.out)); (case side2 => exact HC0_8.out); rintro e w21 ⟨v117, rfl, ho0, hb⟩; refine ⟨_, rfl, ?_⟩; have HO118 := Aside0.mk (Kd.R_lower (Kd.R_new' (Kd.R_new' (Kd.R_new' ho0 (Kd.R_lt (Kd.R_u HO106.out))) (Kd.R_lt (Kd.R_u HO110.out))) (Kd.R_lt (Kd.R_u HO114.out))) (below_size (by repeat (first | (with_reducible first | exact HB.out | refine below_q ?_ | refine below_set ?_ GE101.out | refine below_set ?_ GE102.out) | exact HB.out)))); replace HO106 := Aside0.mk (Kd.R_elder' (Kd.R_u HO106.out) (Kd.R_base ho0) hb); replace HO110 := Aside0.mk (Kd.R_elder' (Kd.R_u HO110.out) (Kd.R_base ho0) hb); replace HO114 := Aside0.mk (Kd.R_elder' (Kd.R_u HO114.out) (Kd.R_base ho0) hb); replace BK101 := Aside0.mk (blk_ub BK101.out hb); replace BK102 := Aside0.mk (blk_ub BK102.out hb); replace HB := Aside0.mk (below_step (by repeat (first | (with_reducible first | exact HB.out | refine below_q ?_ | refine below_set ?_ GE101.out | refine below_set ?_ GE102.out) | exact HB.out)) hb); (try clear hb); (try clear hb2); (try clear hk); (try clear hi); (try clear ho0); clear A6))
  (try simp only [Act.put, List.setIfInBounds_toArray, List.set_cons_zero, List.set_cons_succ])
  go_cut [49] (fun v49 wc => ∃ (kq : Nat) (x49_6 : Bool), v49 = .bool x49_6 ∧ Aside0 (fhist_Back.j0 kq t107 t111 t115 x49_6 a0_0 a0_1 a0_2 a0_3 a0_4 l0_5 l0_6 l0_7 l0_8 = some (r1, r2, r3, r4, r5, r6, r7, r8, r9, r10)) ∧ Aside0 (kq ≤ k) ∧ Aside0 (Kd.R (Kd.int .u64) 22 wc w.heap.size (fun k_ => some k_ ≠ (v113 : Value).ownBlock ∧ some k_ ≠ (v117 : Value).ownBlock) v109 t107) ∧ Aside0 (Kd.R (Kd.int .u64) 22 wc w.heap.size (fun k_ => some k_ ≠ (v109 : Value).ownBlock ∧ some k_ ≠ (v117 : Value).ownBlock) v113 t111) ∧ Aside0 (Kd.R (Kd.int .u64) 22 wc w.heap.size (fun k_ => some k_ ≠ (v109 : Value).ownBlock ∧ some k_ ≠ (v113 : Value).ownBlock) v117 t115) ∧ Aside0 (wc.heap[gb101]? = some (.cells #[.int .i64 a0_0, .int .u64 a0_1, .int .u64 a0_2, .int .u64 a0_3, .int .u64 a0_4, (.slice A0_5 l0_5.length c0_5), (.slice A0_6 l0_6.length c0_6), (.slice A0_7 l0_7.length c0_7), (.slice A0_8 l0_8.length c0_8)] 31 (0, 0))) ∧ Aside0 (wc.heap[gb102]? = some (.cells #[.int .i64 0, .int .u64 0, .int .u64 0, .int .u64 0, .int .u64 0, (.slice none 0 0), (.slice none 0 0), (.slice none 0 0), (.slice none 0 0)] 26 (0, 0))) ∧ Aside0 (Below w.heap.size w wc))
  case first =>
   have H := HC7.out
   clear HC7
   by_cases c22 : t108 = true
   ·subst c22
    have H1 : (if t112 = true then (fhist_Back.j0 k t107 t111 t115 (!t116) a0_0 a0_1 a0_2 a0_3 a0_4 l0_5 l0_6 l0_7 l0_8) else (fhist_Back.j0 k t107 t111 t115 true a0_0 a0_1 a0_2 a0_3 a0_4 l0_5 l0_6 l0_7 l0_8)) = some (r1, r2, r3, r4, r5, r6, r7, r8, r9, r10) := by rw [if_pos rfl] at H; exact H
    clear H
    have H := H1
    clear H1
    by_cases c23 : t112 = true
    ·subst c23
     have H1 : (fhist_Back.j0 k t107 t111 t115 (!t116) a0_0 a0_1 a0_2 a0_3 a0_4 l0_5 l0_6 l0_7 l0_8) = some (r1, r2, r3, r4, r5, r6, r7, r8, r9, r10) := by rw [if_pos rfl] at H; exact H
     clear H
     have H := H1
     clear H1
     have H' := Aside0.mk H
     clear H
     go_wp2
     go_meet
     case rel => exact ⟨_, (!t116), (by first | rfl | (simp; done) | (simp [*]; done)), H', ⟨by first | omega | exact Nat.le_refl _⟩, ⟨by (repeat with_reducible refine Kd.R_q ?_); exact Kd.R_mono HO110.out (fun _ hk => ⟨hk.1.2, hk.2⟩)⟩, ⟨by (repeat with_reducible refine Kd.R_q ?_); exact Kd.R_mono HO114.out (fun _ hk => ⟨hk.1.2, hk.2⟩)⟩, ⟨by (repeat with_reducible refine Kd.R_q ?_); exact Kd.R_mono HO118.out (fun _ hk => ⟨hk.1.2, hk.2⟩)⟩, ⟨by (repeat with_reducible refine blk_q ?_); exact BK101.out⟩, ⟨by (repeat with_reducible refine blk_q ?_); exact BK102.out⟩, ⟨by repeat (first | (with_reducible first | exact HB.out | apply below_alloc | apply pw_below_drewN | apply below_drew1 | refine below_set ?_ GE101.out | refine below_set ?_ GE102.out) | exact HB.out)⟩⟩
    replace c23 := Bool.eq_false_iff.mpr c23
    subst c23
    have H1 : (fhist_Back.j0 k t107 t111 t115 true a0_0 a0_1 a0_2 a0_3 a0_4 l0_5 l0_6 l0_7 l0_8) = some (r1, r2, r3, r4, r5, r6, r7, r8, r9, r10) := by rw [if_neg (show ¬ (false = true) by decide)] at H; exact H
    clear H
    have H := H1
    clear H1
    have H' := Aside0.mk H
    clear H
    go_wp2
    go_meet
    case rel => exact ⟨_, (true), (by first | rfl | (simp; done) | (simp [*]; done)), H', ⟨by first | omega | exact Nat.le_refl _⟩, ⟨by (repeat with_reducible refine Kd.R_q ?_); exact Kd.R_mono HO110.out (fun _ hk => ⟨hk.1.2, hk.2⟩)⟩, ⟨by (repeat with_reducible refine Kd.R_q ?_); exact Kd.R_mono HO114.out (fun _ hk => ⟨hk.1.2, hk.2⟩)⟩, ⟨by (repeat with_reducible refine Kd.R_q ?_); exact Kd.R_mono HO118.out (fun _ hk => ⟨hk.1.2, hk.2⟩)⟩, ⟨by (repeat with_reducible refine blk_q ?_); exact BK101.out⟩, ⟨by (repeat with_reducible refine blk_q ?_); exact BK102.out⟩, ⟨by repeat (first | (with_reducible first | exact HB.out | apply below_alloc | apply pw_below_drewN | apply below_drew1 | refine below_set ?_ GE101.out | refine below_set ?_ GE102.out) | exact HB.out)⟩⟩
   replace c22 := Bool.eq_false_iff.mpr c22
   subst c22
   have H1 : (fhist_Back.j0 k t107 t111 t115 true a0_0 a0_1 a0_2 a0_3 a0_4 l0_5 l0_6 l0_7 l0_8) = some (r1, r2, r3, r4, r5, r6, r7, r8, r9, r10) := by rw [if_neg (show ¬ (false = true) by decide)] at H; exact H
   clear H
   have H := H1
   clear H1
   have H' := Aside0.mk H
   clear H
   go_wp2
   go_meet
   case rel => exact ⟨_, (true), (by first | rfl | (simp; done) | (simp [*]; done)), H', ⟨by first | omega | exact Nat.le_refl _⟩, ⟨by (repeat with_reducible refine Kd.R_q ?_); exact Kd.R_mono HO110.out (fun _ hk => ⟨hk.1.2, hk.2⟩)⟩, ⟨by (repeat with_reducible refine Kd.R_q ?_); exact Kd.R_mono HO114.out (fun _ hk => ⟨hk.1.2, hk.2⟩)⟩, ⟨by (repeat with_reducible refine Kd.R_q ?_); exact Kd.R_mono HO118.out (fun _ hk => ⟨hk.1.2, hk.2⟩)⟩, ⟨by (repeat with_reducible refine blk_q ?_); exact BK101.out⟩, ⟨by (repeat with_reducible refine blk_q ?_); exact BK102.out⟩, ⟨by repeat (first | (with_reducible first | exact HB.out | apply below_alloc | apply pw_below_drewN | apply below_drew1 | refine below_set ?_ GE101.out | refine below_set ?_ GE102.out) | exact HB.out)⟩⟩
  case rest =>
   clear HC7
   try clear c1
   try clear c2
   try clear p2
   try clear c3
   try clear c3b0
   try clear c3b1
   try clear c8
   try clear c9
   try clear c10
   try clear c22
   try clear c23
   try clear hcz11_0
   try clear hcz13_0
   try clear hcz18_0
   try clear hcz20_0
   try clear hfz11_0
   try clear hfz13_0
   try clear hfz18_0
   try clear hfz20_0
   obtain ⟨kq, x49_6, rfl, HA, HJ6, HO_5, HO_7, HO_9, BK101, BK102, HB⟩ := hcut
   cases kq with
   | zero => exact absurd HA.out (by simp [fhist_Back.j0])
   | succ kj6 =>
    have H := HA.out
    clear HA
    simp only [fhist_Back.j0] at H
    by_cases c24 : x49_6 = true
    ·subst c24
     have H1 : (some (0, 0, 0, 0, 0, ([] : List (S86)), ([] : List (S86)), ([] : List Int), ([] : List Int), 10)) = some (r1, r2, r3, r4, r5, r6, r7, r8, r9, r10) := by rw [if_pos rfl] at H; exact H
     clear H
     have H := H1
     clear H1
     simp only [Option.some.injEq, Prod.mk.injEq] at H
     obtain ⟨rfl, rfl, rfl, rfl, rfl, rfl, rfl, rfl, rfl, rfl⟩ := H
     have hnb25 := NB102_101.out
     have hnc25 := NB101_102.out
     have hcz26_0 := blk_cell BK102.out
     have hfz26_0 := blk_frozen BK102.out
     go_wp2
     refine bodyPost_ret (results_ct rfl _ _ gb102 26 #[.int .i64 0, .int .u64 0, .int .u64 0, .int .u64 0, .int .u64 0, .slice none 0 0, .slice none 0 0, .slice none 0 0, .slice none 0 0] (0, 0) _ rfl (by (repeat with_reducible refine blk_q ?_); refine blk_put (cs := #[.int .i64 0, .int .u64 0, .int .u64 0, .int .u64 0, .int .u64 0, .slice none 0 0, .slice none 0 0, .slice none 0 0, .slice none 0 0]) ?_ 8 _ rfl; (repeat with_reducible refine blk_q ?_); refine blk_put (cs := #[.int .i64 0, .int .u64 0, .int .u64 0, .int .u64 0, .int .u64 0, .slice none 0 0, .slice none 0 0, .slice none 0 0, .slice none 0 0]) ?_ 7 _ rfl; (repeat with_reducible refine blk_q ?_); refine blk_put (cs := #[.int .i64 0, .int .u64 0, .int .u64 0, .int .u64 0, .int .u64 0, .slice none 0 0, .slice none 0 0, .slice none 0 0, .slice none 0 0]) ?_ 6 _ rfl; (repeat with_reducible refine blk_q ?_); refine blk_put (cs := #[.int .i64 0, .int .u64 0, .int .u64 0, .int .u64 0, .int .u64 0, .slice none 0 0, .slice none 0 0, .slice none 0 0, .slice none 0 0]) ?_ 5 _ rfl; (repeat with_reducible refine blk_q ?_); refine blk_put (cs := #[.int .i64 0, .int .u64 0, .int .u64 0, .int .u64 0, .int .u64 0, .slice none 0 0, .slice none 0 0, .slice none 0 0, .slice none 0 0]) ?_ 4 _ rfl; (repeat with_reducible refine blk_q ?_); refine blk_put (cs := #[.int .i64 0, .int .u64 0, .int .u64 0, .int .u64 0, .int .u64 0, .slice none 0 0, .slice none 0 0, .slice none 0 0, .slice none 0 0]) ?_ 3 _ rfl; (repeat with_reducible refine blk_q ?_); refine blk_put (cs := #[.int .i64 0, .int .u64 0, .int .u64 0, .int .u64 0, .int .u64 0, .slice none 0 0, .slice none 0 0, .slice none 0 0, .slice none 0 0]) ?_ 2 _ rfl; (repeat with_reducible refine blk_q ?_); refine blk_put (cs := #[.int .i64 0, .int .u64 0, .int .u64 0, .int .u64 0, .int .u64 0, .slice none 0 0, .slice none 0 0, .slice none 0 0, .slice none 0 0]) ?_ 1 _ rfl; (repeat with_reducible refine blk_q ?_); refine blk_put (cs := #[.int .i64 0, .int .u64 0, .int .u64 0, .int .u64 0, .int .u64 0, .slice none 0 0, .slice none 0 0, .slice none 0 0, .slice none 0 0]) ?_ 0 _ rfl; (repeat with_reducible refine blk_q ?_); exact BK102.out) Try.underlying26 rfl (by kernel_rfl)) rfl ?_
     exact ⟨_, _, _, _, by first | rfl | (simp [errW_none, errW_some] <;> rfl) | (simp [*, errW_none, errW_some] <;> rfl), by first | exact Kd.R_nil _ _ _ _ _ | exact Kd.N_nil _ _ _ _ _ | exact Kd.V_nil _ _ _ _ _ | exact Kd.Q_nil _ _ _ _ _ | exact Kd.S_nil _ _ _ _ _, by first | exact Kd.R_nil _ _ _ _ _ | exact Kd.N_nil _ _ _ _ _ | exact Kd.V_nil _ _ _ _ _ | exact Kd.Q_nil _ _ _ _ _ | exact Kd.S_nil _ _ _ _ _, by first | exact Kd.R_nil _ _ _ _ _ | exact Kd.N_nil _ _ _ _ _ | exact Kd.V_nil _ _ _ _ _ | exact Kd.Q_nil _ _ _ _ _ | exact Kd.S_nil _ _ _ _ _, by first | exact Kd.R_nil _ _ _ _ _ | exact Kd.N_nil _ _ _ _ _ | exact Kd.V_nil _ _ _ _ _ | exact Kd.Q_nil _ _ _ _ _ | exact Kd.S_nil _ _ _ _ _, by repeat (first | (with_reducible first | exact HB.out | apply below_alloc | apply pw_below_drewN | apply below_drew1 | refine below_set ?_ GE101.out | refine below_set ?_ GE102.out) | exact HB.out)⟩
    replace c24 := Bool.eq_false_iff.mpr c24
    subst c24
    have H1 : (if 0 < (t107.length : Int) then (if 1 < (t107.length : Int) then ((slices_Clone_span.f l0_5).bind fun t121 => ((slices_Clone_span.f l0_6).bind fun t124 => ((fhist_differences.f t111).bind fun bt128 => ((fhist_differences.f t115).bind fun bt132 => (if bt128.2 = true then (fhist_Back.j1 kj6 (!bt132.2) a0_0 a0_1 (rd t107 0) (rd t107 1) a0_4 t121 t124 bt128.1 bt132.1) else (fhist_Back.j1 kj6 true a0_0 a0_1 (rd t107 0) (rd t107 1) a0_4 t121 t124 bt128.1 bt132.1)))))) else (none)) else (none)) = some (r1, r2, r3, r4, r5, r6, r7, r8, r9, r10) := by rw [if_neg (show ¬ (false = true) by decide)] at H; exact H
    clear H
    have H := H1
    clear H1
    by_cases c27 : 0 < (t107.length : Int)
    ·rw [if_pos c27] at H
     have c27b0 : decide (0 < (t107.length : Int)) = true := decide_eq_true c27
     have c27b1 : decide (0 < t107.length) = true := decide_eq_true (by omega)
     clear c27
     by_cases c28 : 1 < (t107.length : Int)
     ·rw [if_pos c28] at H
      have c28b0 : decide (1 < (t107.length : Int)) = true := decide_eq_true c28
      have c28b1 : decide (1 < t107.length) = true := decide_eq_true (by omega)
      clear c28
      replace H := Option.bind_eq_some_iff.mp H
      obtain ⟨t121, A290, H⟩ := H
      replace H : ((slices_Clone_span.f l0_6).bind fun t124 => ((fhist_differences.f t111).bind fun bt128 => ((fhist_differences.f t115).bind fun bt132 => (if bt128.2 = true then (fhist_Back.j1 kj6 (!bt132.2) a0_0 a0_1 (rd t107 0) (rd t107 1) a0_4 t121 t124 bt128.1 bt132.1) else (fhist_Back.j1 kj6 true a0_0 a0_1 (rd t107 0) (rd t107 1) a0_4 t121 t124 bt128.1 bt132.1))))) = some (r1, r2, r3, r4, r5, r6, r7, r8, r9, r10) := H
      have A29 := Aside0.mk A290
      clear A290
      replace H := Option.bind_eq_some_iff.mp H
      obtain ⟨t124, A300, H⟩ := H
      replace H : ((fhist_differences.f t111).bind fun bt128 => ((fhist_differences.f t115).bind fun bt132 => (if bt128.2 = true then (fhist_Back.j1 kj6 (!bt132.2) a0_0 a0_1 (rd t107 0) (rd t107 1) a0_4 t121 t124 bt128.1 bt132.1) else (fhist_Back.j1 kj6 true a0_0 a0_1 (rd t107 0) (rd t107 1) a0_4 t121 t124 bt128.1 bt132.1)))) = some (r1, r2, r3, r4, r5, r6, r7, r8, r9, r10) := H
      have A30 := Aside0.mk A300
      clear A300
      replace H := Option.bind_eq_some_iff.mp H
      obtain ⟨⟨t128, t129⟩, A310, H⟩ := H
      replace H : ((fhist_differences.f t115).bind fun bt132 => (if t129 = true then (fhist_Back.j1 kj6 (!bt132.2) a0_0 a0_1 (rd t107 0) (rd t107 1) a0_4 t121 t124 t128 bt132.1) else (fhist_Back.j1 kj6 true a0_0 a0_1 (rd t107 0) (rd t107 1) a0_4 t121 t124 t128 bt132.1))) = some (r1, r2, r3, r4, r5, r6, r7, r8, r9, r10) := H
      have A31 := Aside0.mk A310
      clear A310
      replace H := Option.bind_eq_some_iff.mp H
      obtain ⟨⟨t132, t133⟩, A320, H⟩ := H
      replace H : (if t129 = true then (fhist_Back.j1 kj6 (!t133) a0_0 a0_1 (rd t107 0) (rd t107 1) a0_4 t121 t124 t128 t132) else (fhist_Back.j1 kj6 true a0_0 a0_1 (rd t107 0) (rd t107 1) a0_4 t121 t124 t128 t132)) = some (r1, r2, r3, r4, r5, r6, r7, r8, r9, r10) := H
      have A32 := Aside0.mk A320
      clear A320
      have HC33 := Aside0.mk H
      clear H
      try go_wp2
      have n0_ := Aside0.mk (Kd.R_drew HO_5.out)
      have n1_ := Aside0.mk (Kd.R_drew HO_7.out)
      have n2_ := Aside0.mk (Kd.R_drew HO_9.out)
      have n3_ := Aside0.mk (blk_drew BK101.out)
      have n4_ := Aside0.mk (blk_drew BK102.out)
      have n5_ := Aside0.mk (below_drew1 HB.out)
      clear HO_5
      clear HO_7
      clear HO_9
      clear BK101
      clear BK102
      clear HB
      have HO_5 := n0_
      have HO_7 := n1_
      have HO_9 := n2_
      have BK101 := n3_
      have BK102 := n4_
      have HB := n5_
      clear n0_ n1_ n2_ n3_ n4_ n5_
      obtain ⟨Ao35, co35, eo35⟩ := Kd.R_slice HO_5.out
      (first | subst eo35 | (injection eo35 with f1_ f2_ f3_; have f4_ := f1_.symm; have f5_ := f3_.symm; clear f1_ f2_ f3_; subst f4_; subst f5_))
      have p119 : 0 ≤ (0 : Int) := (by omega)
      have q119 : 0 < (t107.length : Int) := of_decide_eq_true (by assumption)
      obtain ⟨ad119, e119, hx119_0⟩ := Kd.at_int (Kd.R_reads' HO_5.out).2.2 0 p119 q119
      cases e119
      have qi119 : (0 < t107.length) = True := eq_true (by omega)
      (try rw [show ((0 : Int)).toNat = 0 from rfl] at hx119_0)
      (try rw [Addr.add_zero'] at hx119_0)
      replace p119 := eq_true p119
      replace q119 := eq_true q119
      have p120 : 0 ≤ (1 : Int) := (by omega)
      have q120 : 1 < (t107.length : Int) := of_decide_eq_true (by assumption)
      obtain ⟨ad120, e120, hx120_0⟩ := Kd.at_int (Kd.R_reads' HO_5.out).2.2 1 p120 q120
      obtain rfl : ad119 = ad120 := (by injection e120)
      (try simp only [show (1 : Int).toNat = 1 from rfl, Nat.reduceMul, Nat.reduceEqDiff, Go.Addr.add, ↓reduceIte] at hx120_0)
      have qi120 : (1 < t107.length) = True := eq_true (by omega)
      (try rw [show ((1 : Int)).toNat = 1 from rfl] at hx120_0)
      replace p120 := eq_true p120
      replace q120 := eq_true q120
      refine start_ (n := 21) (S := fun w' => w'.cell? ⟨gb101, 0, none⟩ = some (.int .i64 a0_0) ∧ w'.cell? ⟨gb101, 1, none⟩ = some (.int .u64 a0_1) ∧ w'.cell? ⟨gb101, 2, none⟩ = some (.int .u64 a0_2) ∧ w'.cell? ⟨gb101, 3, none⟩ = some (.int .u64 a0_3) ∧ w'.cell? ⟨gb101, 4, none⟩ = some (.int .u64 a0_4) ∧ w'.cell? ⟨gb101, 5, none⟩ = some (.slice A0_5 l0_5.length c0_5) ∧ w'.cell? ⟨gb101, 6, none⟩ = some (.slice A0_6 l0_6.length c0_6) ∧ w'.cell? ⟨gb101, 7, none⟩ = some (.slice A0_7 l0_7.length c0_7) ∧ w'.cell? ⟨gb101, 8, none⟩ = some (.slice A0_8 l0_8.length c0_8) ∧ w'.cell? ad119 = some (.int .u64 (rd t107 0)) ∧ w'.cell? ⟨ad119.block, ad119.off + 1, none⟩ = some (.int .u64 (rd t107 1))) (ds := []) #[false, false, false, false, false, false, false, false, false, false, false, false, false, false, false, false, false, false, false, false, false] (by kernel_rfl) rfl rfl ⟨(blk_cell BK101.out 0).trans rfl, (blk_cell BK101.out 1).trans rfl, (blk_cell BK101.out 2).trans rfl, (blk_cell BK101.out 3).trans rfl, (blk_cell BK101.out 4).trans rfl, (blk_cell BK101.out 5).trans rfl, (blk_cell BK101.out 6).trans rfl, (blk_cell BK101.out 7).trans rfl, (blk_cell BK101.out 8).trans rfl, hx119_0, hx120_0⟩ (fun hHeld => ?_); refine with_tabW fhist_Back.tab9 fhist_Back.bits9 (fun HT_ HW_ => ?_)
      generalize wc.drew = w34 at HO_5 HO_7 HO_9 BK101 BK102 HB hx119_0 hx120_0 hHeld ⊢
      refine pure_ (i := 0) (N := some 51) (v := ?_) (a' := ?_) #[true, false, false, false, false, false, false, false, false, false, false, false, false, false, false, false, false, false, false, false, false] rfl rfl (any_of HT_.out (by kernel_rfl)) (fun _ _ _ h => h) (Or.inl ⟨by rfl, ?_⟩) ?_ ?_
      rotate_left
      ·intro w'
       go_simp
       with_reducible rfl
      rotate_left
      ·simp only [Act.put, List.setIfInBounds_toArray, List.set_cons_zero, List.set_cons_succ, i64_w, i32_w]
       rfl
      refine pure_ (i := 2) (N := some 53) (v := ?_) (a' := ?_) #[true, false, true, false, false, false, false, false, false, false, false, false, false, false, false, false, false, false, false, false, false] rfl rfl (any_of HT_.out (by kernel_rfl)) (fun _ _ _ h => h) (Or.inl ⟨by rfl, ?_⟩) ?_ ?_
      rotate_left
      ·intro w'
       go_simp
       with_reducible rfl
      rotate_left
      ·simp only [Act.put, List.setIfInBounds_toArray, List.set_cons_zero, List.set_cons_succ, i64_w, i32_w]
       rfl
      refine pure_ (i := 4) (N := some 55) (v := ?_) (a' := ?_) #[true, false, true, false, true, false, false, false, false, false, false, false, false, false, false, false, false, false, false, false, false] rfl rfl (any_of HT_.out (by kernel_rfl)) (fun _ _ _ h => h) (Or.inl ⟨by rfl, ?_⟩) ?_ ?_
      rotate_left
      ·intro w'
       go_simp
       with_reducible rfl
      rotate_left
      ·simp only [Act.put, List.setIfInBounds_toArray, List.set_cons_zero, List.set_cons_succ, i64_w, i32_w]
       rfl
      refine pure_ (i := 5) (N := some 56) (v := ?_) (a' := ?_) #[true, false, true, false, true, true, false, false, false, false, false, false, false, false, false, false, false, false, false, false, false] rfl rfl (any_of HT_.out (by kernel_rfl)) (fun _ _ _ h => h) (Or.inl ⟨by rfl, ?_⟩) ?_ ?_
      rotate_left
      ·intro w'
       go_simp
       with_reducible rfl
      rotate_left
      ·simp only [Act.put, List.setIfInBounds_toArray, List.set_cons_zero, List.set_cons_succ, i64_w, i32_w]
       rfl
      refine pure_ (i := 7) (N := some 58) (v := ?_) (a' := ?_) #[true, false, true, false, true, true, false, true, false, false, false, false, false, false, false, false, false, false, false, false, false] rfl rfl (any_of HT_.out (by kernel_rfl)) (fun _ _ _ h => h) (Or.inl ⟨by rfl, ?_⟩) ?_ ?_
      rotate_left
      ·intro w'
       go_simp
       with_reducible rfl
      rotate_left
      ·simp only [Act.put, List.setIfInBounds_toArray, List.set_cons_zero, List.set_cons_succ, i64_w, i32_w]
       rfl
      refine pure_ (i := 8) (N := some 59) (v := ?_) (a' := ?_) #[true, false, true, false, true, true, false, true, true, false, false, false, false, false, false, false, false, false, false, false, false] rfl rfl (any_of HT_.out (by kernel_rfl)) (fun _ _ _ h => h) (Or.inl ⟨by rfl, ?_⟩) ?_ ?_
      rotate_left
      ·intro w'
       go_simp
       with_reducible rfl
      rotate_left
      ·simp only [Act.put, List.setIfInBounds_toArray, List.set_cons_zero, List.set_cons_succ, i64_w, i32_w]
       rfl
      refine pure_ (i := 10) (N := some 61) (v := ?_) (a' := ?_) #[true, false, true, false, true, true, false, true, true, false, true, false, false, false, false, false, false, false, false, false, false] rfl rfl (any_of HT_.out (by kernel_rfl)) (fun _ _ _ h => h) (Or.inl ⟨by rfl, ?_⟩) ?_ ?_
      rotate_left
      ·intro w'
       go_simp
       with_reducible rfl
      rotate_left
      ·simp only [Act.put, List.setIfInBounds_toArray, List.set_cons_zero, List.set_cons_succ, i64_w, i32_w]
       rfl
      refine pure_ (i := 12) (N := some 63) (v := ?_) (a' := ?_) #[true, false, true, false, true, true, false, true, true, false, true, false, true, false, false, false, false, false, false, false, false] rfl rfl (any_of HT_.out (by kernel_rfl)) (fun _ _ _ h => h) (Or.inl ⟨by rfl, ?_⟩) ?_ ?_
      rotate_left
      ·intro w'
       go_simp
       with_reducible rfl
      rotate_left
      ·simp only [Act.put, List.setIfInBounds_toArray, List.set_cons_zero, List.set_cons_succ, i64_w, i32_w]
       rfl
      refine pure_ (i := 15) (N := some 66) (v := ?_) (a' := ?_) #[true, false, true, false, true, true, false, true, true, false, true, false, true, false, false, true, false, false, false, false, false] rfl rfl (any_of HT_.out (by kernel_rfl)) (fun _ _ _ h => h) (Or.inl ⟨by rfl, ?_⟩) ?_ ?_
      rotate_left
      ·intro w'
       go_simp
       with_reducible rfl
      rotate_left
      ·simp only [Act.put, List.setIfInBounds_toArray, List.set_cons_zero, List.set_cons_succ, i64_w, i32_w]
       rfl
      refine take_ (i := 1) (N := some 52) (v := ?_) (a' := ?_) #[true, true, true, false, true, true, false, true, true, false, true, false, true, false, false, true, false, false, false, false, false] rfl rfl (take_ofW HT_.out HW_.out (by kernel_rfl)) (fun _ _ _ h => h) (Or.inl ⟨by rfl, ?_⟩) hHeld ?_ ?_
      rotate_left
      ·rintro w' ⟨s0, s1, s2, s3, s4, s5, s6, s7, s8, s9, s10⟩
       go_simp
       with_reducible rfl
      rotate_left
      ·simp only [Act.put, List.setIfInBounds_toArray, List.set_cons_zero, List.set_cons_succ, i64_w, i32_w]
       rfl
      refine take_ (i := 3) (N := some 54) (v := ?_) (a' := ?_) #[true, true, true, true, true, true, false, true, true, false, true, false, true, false, false, true, false, false, false, false, false] rfl rfl (take_ofW HT_.out HW_.out (by kernel_rfl)) (fun _ _ _ h => h) (Or.inl ⟨by rfl, ?_⟩) hHeld ?_ ?_
      rotate_left
      ·rintro w' ⟨s0, s1, s2, s3, s4, s5, s6, s7, s8, s9, s10⟩
       go_simp
       with_reducible rfl
      rotate_left
      ·simp only [Act.put, List.setIfInBounds_toArray, List.set_cons_zero, List.set_cons_succ, i64_w, i32_w]
       rfl
      refine take_ (i := 6) (N := some 57) (v := ?_) (a' := ?_) #[true, true, true, true, true, true, true, true, true, false, true, false, true, false, false, true, false, false, false, false, false] rfl rfl (take_ofW HT_.out HW_.out (by kernel_rfl)) (fun _ _ _ h => h) (Or.inl ⟨by rfl, ?_⟩) hHeld ?_ ?_
      rotate_left
      ·rintro w' ⟨s0, s1, s2, s3, s4, s5, s6, s7, s8, s9, s10⟩
       go_simp
       with_reducible rfl
      rotate_left
      ·simp only [Act.put, List.setIfInBounds_toArray, List.set_cons_zero, List.set_cons_succ, i64_w, i32_w]
       rfl
      refine take_ (i := 9) (N := some 60) (v := ?_) (a' := ?_) #[true, true, true, true, true, true, true, true, true, true, true, false, true, false, false, true, false, false, false, false, false] rfl rfl (take_ofW HT_.out HW_.out (by kernel_rfl)) (fun _ _ _ h => h) (Or.inl ⟨by rfl, ?_⟩) hHeld ?_ ?_
      rotate_left
      ·rintro w' ⟨s0, s1, s2, s3, s4, s5, s6, s7, s8, s9, s10⟩
       go_simp
       with_reducible rfl
      rotate_left
      ·simp only [Act.put, List.setIfInBounds_toArray, List.set_cons_zero, List.set_cons_succ, i64_w, i32_w]
       rfl
      refine take_ (i := 11) (N := some 62) (v := ?_) (a' := ?_) #[true, true, true, true, true, true, true, true, true, true, true, true, true, false, false, true, false, false, false, false, false] rfl rfl (take_ofW HT_.out HW_.out (by kernel_rfl)) (fun _ _ _ h => h) (Or.inl ⟨by rfl, ?_⟩) hHeld ?_ ?_
      rotate_left
      ·rintro w' ⟨s0, s1, s2, s3, s4, s5, s6, s7, s8, s9, s10⟩
       go_simp
       with_reducible rfl
      rotate_left
      ·simp only [Act.put, List.setIfInBounds_toArray, List.set_cons_zero, List.set_cons_succ, i64_w, i32_w]
       rfl
      refine take_ (i := 13) (N := some 64) (v := ?_) (a' := ?_) #[true, true, true, true, true, true, true, true, true, true, true, true, true, true, false, true, false, false, false, false, false] rfl rfl (take_ofW HT_.out HW_.out (by kernel_rfl)) (fun _ _ _ h => h) (Or.inl ⟨by rfl, ?_⟩) hHeld ?_ ?_
      rotate_left
      ·rintro w' ⟨s0, s1, s2, s3, s4, s5, s6, s7, s8, s9, s10⟩
       go_simp
       with_reducible rfl
      rotate_left
      ·simp only [Act.put, List.setIfInBounds_toArray, List.set_cons_zero, List.set_cons_succ, i64_w, i32_w]
       rfl
      refine take_ (i := 16) (N := some 67) (v := ?_) (a' := ?_) #[true, true, true, true, true, true, true, true, true, true, true, true, true, true, false, true, true, false, false, false, false] rfl rfl (take_ofW HT_.out HW_.out (by kernel_rfl)) (fun _ _ _ h => h) (Or.inl ⟨by rfl, ?_⟩) hHeld ?_ ?_
      rotate_left
      ·rintro w' ⟨s0, s1, s2, s3, s4, s5, s6, s7, s8, s9, s10⟩
       go_simp
       with_reducible rfl
      rotate_left
      ·simp only [Act.put, List.setIfInBounds_toArray, List.set_cons_zero, List.set_cons_succ, i64_w, i32_w]
       rfl
      refine join_ (σ := Value × Value × Nat) 1 #[true, true, true, true, true, true, true, true, true, true, true, true, true, true, true, true, true, true, true, true, false] (fun s_ => [(65, s_.1), (68, s_.2.1), (11, .pointer (some ⟨s_.2.2, 0, none⟩)), (69, .agg #[.int .i64 a0_0, .int .u64 a0_1, .int .u64 (rd t107 0), .int .u64 (rd t107 1), .int .u64 a0_4, s_.1, s_.2.1, .slice none 0 0, .slice none 0 0])]) (fun s_ w' => (w'.cell? ⟨gb101, 0, none⟩ = some (.int .i64 a0_0) ∧ w'.cell? ⟨gb101, 1, none⟩ = some (.int .u64 a0_1) ∧ w'.cell? ⟨gb101, 2, none⟩ = some (.int .u64 a0_2) ∧ w'.cell? ⟨gb101, 3, none⟩ = some (.int .u64 a0_3) ∧ w'.cell? ⟨gb101, 4, none⟩ = some (.int .u64 a0_4) ∧ w'.cell? ⟨gb101, 5, none⟩ = some (.slice A0_5 l0_5.length c0_5) ∧ w'.cell? ⟨gb101, 6, none⟩ = some (.slice A0_6 l0_6.length c0_6) ∧ w'.cell? ⟨gb101, 7, none⟩ = some (.slice A0_7 l0_7.length c0_7) ∧ w'.cell? ⟨gb101, 8, none⟩ = some (.slice A0_8 l0_8.length c0_8) ∧ w'.cell? ad119 = some (.int .u64 (rd t107 0)) ∧ w'.cell? ⟨ad119.block, ad119.off + 1, none⟩ = some (.int .u64 (rd t107 1))) ∧ (Kd.R k86 86 w' w.heap.size (fun k_ => some k_ ≠ (s_.2.1 : Value).ownBlock) s_.1 t121) ∧ (Kd.R k86 86 w' w.heap.size (fun k_ => some k_ ≠ (s_.1 : Value).ownBlock) s_.2.1 t124) ∧ (Kd.R (Kd.int .u64) 22 w' w.heap.size (fun k_ => some k_ ≠ (v113 : Value).ownBlock ∧ some k_ ≠ (v117 : Value).ownBlock) (.slice (some ad119) t107.length co35) t107) ∧ (Kd.R (Kd.int .u64) 22 w' w.heap.size (fun k_ => some k_ ≠ (.slice (some ad119) t107.length co35 : Value).ownBlock ∧ some k_ ≠ (v117 : Value).ownBlock) v113 t111) ∧ (Kd.R (Kd.int .u64) 22 w' w.heap.size (fun k_ => some k_ ≠ (.slice (some ad119) t107.length co35 : Value).ownBlock ∧ some k_ ≠ (v113 : Value).ownBlock) v117 t115) ∧ (w'.heap[gb101]? = some (.cells #[.int .i64 a0_0, .int .u64 a0_1, .int .u64 a0_2, .int .u64 a0_3, .int .u64 a0_4, .slice A0_5 l0_5.length c0_5, .slice A0_6 l0_6.length c0_6, .slice A0_7 l0_7.length c0_7, .slice A0_8 l0_8.length c0_8] 31 (0, 0))) ∧ (w'.heap[gb102]? = some (.cells #[.int .i64 0, .int .u64 0, .int .u64 0, .int .u64 0, .int .u64 0, .slice none 0 0, .slice none 0 0, .slice none 0 0, .slice none 0 0] 26 (0, 0))) ∧ (w'.heap[s_.2.2]? = some (.cells #[.int .i64 0, .int .u64 0, .int .u64 0, .int .u64 0, .int .u64 0, .slice none 0 0, .slice none 0 0, .slice none 0 0, .slice none 0 0] 26 (0, 0))) ∧ (w.heap.size ≤ s_.2.2) ∧ (w.heap.size ≤ s_.2.2) ∧ (gb101 ≠ s_.2.2) ∧ (s_.2.2 ≠ gb101) ∧ (gb102 ≠ s_.2.2) ∧ (s_.2.2 ≠ gb102) ∧ (Below w.heap.size w w')) ?_ ?_
      rotate_left
      ·intro hCont
       refine two_ (i := 14) (j := 19) (Ni := some 65) (Nj := some 11) #[true, true, true, true, true, true, true, true, true, true, true, true, true, true, true, true, true, false, false, false, false] #[true, true, true, true, true, true, true, true, true, true, true, true, true, true, false, true, true, false, false, true, false] rfl rfl rfl rfl (two_of HT_.out (by kernel_rfl)) (by decide) (by decide) (fun K hK => ?_) (fun K hK => ?_)
       ·skip
        refine goes_ Try.func51 (by kernel_rfl) rfl #[.slice A0_5 l0_5.length c0_5] (by rfl) rfl rfl (by (try simp only [List.map_toArray, List.map_cons, List.map_nil]); first | done | rfl | (simp only [List.length_drop, List.length_take]; rfl)) ?_
        with_reducible refine (slices_Clone_span.calls _ _ l0_5 t121 _ ?side1 ?side2 A29.out).mono ?_
        (case side1 => exact Kd.C_u (Kd.C_below HR0_5.out HB.out))
        (case side2 => exact HC0_5.out)
        rintro e w36 ⟨v122, rfl, ho0, hb⟩
        have HS9_ := (hb.cell (World.block_lt_of_cell? _ _ (hHeld.2.2.2.2.2.2.2.2.2.1))).trans (hHeld.2.2.2.2.2.2.2.2.2.1)
        have HS10_ := (hb.cell (World.block_lt_of_cell? _ _ (hHeld.2.2.2.2.2.2.2.2.2.2))).trans (hHeld.2.2.2.2.2.2.2.2.2.2)
        refine ⟨_, rfl, ?_⟩
        have n0_ := Aside0.mk (Kd.R_ub HO_5.out hb)
        have n1_ := Aside0.mk (Kd.R_ub HO_7.out hb)
        have n2_ := Aside0.mk (Kd.R_ub HO_9.out hb)
        have n3_ := Aside0.mk (Kd.R_lower ho0 (below_size (by repeat (first | (with_reducible first | exact HB.out | refine below_q ?_ | refine below_set ?_ GE101.out | refine below_set ?_ GE102.out) | exact HB.out))))
        have n4_ := Aside0.mk (blk_ub BK101.out hb)
        have n5_ := Aside0.mk (blk_ub BK102.out hb)
        have n6_ := Aside0.mk (below_step (by repeat (first | (with_reducible first | exact HB.out | refine below_q ?_ | refine below_set ?_ GE101.out | refine below_set ?_ GE102.out) | exact HB.out)) hb)
        clear HO_5
        clear HO_7
        clear HO_9
        clear BK101
        clear BK102
        clear HB
        have HO_5 := n0_
        have HO_7 := n1_
        have HO_9 := n2_
        have HO123 := n3_
        have BK101 := n4_
        have BK102 := n5_
        have HB := n6_
        clear n0_ n1_ n2_ n3_ n4_ n5_ n6_
        (try clear hb)
        (try clear hb2)
        (try clear hk)
        (try clear hi)
        (try clear ho0)
        refine hK.out _ _ ⟨(blk_cell BK101.out 0).trans rfl, (blk_cell BK101.out 1).trans rfl, (blk_cell BK101.out 2).trans rfl, (blk_cell BK101.out 3).trans rfl, (blk_cell BK101.out 4).trans rfl, (blk_cell BK101.out 5).trans rfl, (blk_cell BK101.out 6).trans rfl, (blk_cell BK101.out 7).trans rfl, (blk_cell BK101.out 8).trans rfl, HS9_, HS10_⟩ (fun hHeld => ?_)
        clear hK K
        refine norm_ (a' := ?_) ?_ ?_
        rotate_left
        ·show Act.put _ (some 65) _ = _
         simp only [Act.put, List.setIfInBounds_toArray, List.set_cons_zero, List.set_cons_succ, i64_w, i32_w]
         rfl
        refine two_ (i := 17) (j := 19) (Ni := some 68) (Nj := some 11) #[true, true, true, true, true, true, true, true, true, true, true, true, true, true, true, true, true, true, false, false, false] #[true, true, true, true, true, true, true, true, true, true, true, true, true, true, true, true, true, false, false, true, false] rfl rfl rfl rfl (two_of HT_.out (by kernel_rfl)) (by decide) (by decide) (fun K hK => ?_) (fun K hK => ?_)
        ·skip
         refine goes_ Try.func51 (by kernel_rfl) rfl #[.slice A0_6 l0_6.length c0_6] (by rfl) rfl rfl (by (try simp only [List.map_toArray, List.map_cons, List.map_nil]); first | done | rfl | (simp only [List.length_drop, List.length_take]; rfl)) ?_
         with_reducible refine (slices_Clone_span.calls _ _ l0_6 t124 _ ?side1 ?side2 A30.out).mono ?_
         (case side1 => exact Kd.C_u (Kd.C_below HR0_6.out HB.out))
         (case side2 => exact HC0_6.out)
         rintro e w37 ⟨v125, rfl, ho0, hb⟩
         have HS9_ := (hb.cell (World.block_lt_of_cell? _ _ (hHeld.2.2.2.2.2.2.2.2.2.1))).trans (hHeld.2.2.2.2.2.2.2.2.2.1)
         have HS10_ := (hb.cell (World.block_lt_of_cell? _ _ (hHeld.2.2.2.2.2.2.2.2.2.2))).trans (hHeld.2.2.2.2.2.2.2.2.2.2)
         refine ⟨_, rfl, ?_⟩
         have n0_ := Aside0.mk (Kd.R_ub HO_5.out hb)
         have n1_ := Aside0.mk (Kd.R_ub HO_7.out hb)
         have n2_ := Aside0.mk (Kd.R_ub HO_9.out hb)
         have n3_ := Aside0.mk (Kd.R_elder' (Kd.R_u HO123.out) (Kd.R_base ho0) hb)
         have n4_ := Aside0.mk (Kd.R_lower (Kd.R_new' ho0 (Kd.R_lt (Kd.R_u HO123.out))) (below_size (by repeat (first | (with_reducible first | exact HB.out | refine below_q ?_ | refine below_set ?_ GE101.out | refine below_set ?_ GE102.out) | exact HB.out))))
         have n5_ := Aside0.mk (blk_ub BK101.out hb)
         have n6_ := Aside0.mk (blk_ub BK102.out hb)
         have n7_ := Aside0.mk (below_step (by repeat (first | (with_reducible first | exact HB.out | refine below_q ?_ | refine below_set ?_ GE101.out | refine below_set ?_ GE102.out) | exact HB.out)) hb)
         clear HO_5
         clear HO_7
         clear HO_9
         clear HO123
         clear BK101
         clear BK102
         clear HB
         have HO_5 := n0_
         have HO_7 := n1_
         have HO_9 := n2_
         have HO123 := n3_
         have HO126 := n4_
         have BK101 := n5_
         have BK102 := n6_
         have HB := n7_
         clear n0_ n1_ n2_ n3_ n4_ n5_ n6_ n7_
         (try clear hb)
         (try clear hb2)
         (try clear hk)
         (try clear hi)
         (try clear ho0)
         obtain ⟨Ao38, co38, eo38⟩ := Kd.R_slice HO126.out
         (first | subst eo38 | (injection eo38 with f1_ f2_ f3_; have f4_ := f1_.symm; have f5_ := f3_.symm; clear f1_ f2_ f3_; subst f4_; subst f5_))
         obtain ⟨Ao39, co39, eo39⟩ := Kd.R_slice HO123.out
         (first | subst eo39 | (injection eo39 with f1_ f2_ f3_; have f4_ := f1_.symm; have f5_ := f3_.symm; clear f1_ f2_ f3_; subst f4_; subst f5_))
         refine hK.out _ _ ⟨(blk_cell BK101.out 0).trans rfl, (blk_cell BK101.out 1).trans rfl, (blk_cell BK101.out 2).trans rfl, (blk_cell BK101.out 3).trans rfl, (blk_cell BK101.out 4).trans rfl, (blk_cell BK101.out 5).trans rfl, (blk_cell BK101.out 6).trans rfl, (blk_cell BK101.out 7).trans rfl, (blk_cell BK101.out 8).trans rfl, HS9_, HS10_⟩ (fun hHeld => ?_)
         clear hK K
         refine norm_ (a' := ?_) ?_ ?_
         rotate_left
         ·show Act.put _ (some 68) _ = _
          simp only [Act.put, List.setIfInBounds_toArray, List.set_cons_zero, List.set_cons_succ, i64_w, i32_w]
          rfl
         refine pure_ (i := 18) (N := some 69) (v := ?_) (a' := ?_) #[true, true, true, true, true, true, true, true, true, true, true, true, true, true, true, true, true, true, true, false, false] rfl rfl (any_of HT_.out (by kernel_rfl)) (fun _ _ _ h => h) (Or.inl ⟨by rfl, ?_⟩) ?_ ?_
         rotate_left
         ·intro w'
          go_simp
          with_reducible rfl
         rotate_left
         ·simp only [Act.put, List.setIfInBounds_toArray, List.set_cons_zero, List.set_cons_succ, i64_w, i32_w]
          rfl
         refine one_ (i := 19) (N := some 11) #[true, true, true, true, true, true, true, true, true, true, true, true, true, true, true, true, true, true, true, true, false] rfl rfl (one_of HT_.out (by kernel_rfl)) (by decide) (fun K hK => ?_)
         refine box_step ?hg (N := 11) ?hd (cs := #[.int .i64 0, .int .u64 0, .int .u64 0, .int .u64 0, .int .u64 0, .slice none 0 0, .slice none 0 0, .slice none 0 0, .slice none 0 0]) (t := 26) ?hr ?_; (case hd => rfl); (case hg => rfl); (case hr => first | (go_simp; done) | (go_simp; rfl))
         intro gb127 hg w40 hbox hb
         have HS9_ := (hb.cell (World.block_lt_of_cell? _ _ (hHeld.2.2.2.2.2.2.2.2.2.1))).trans (hHeld.2.2.2.2.2.2.2.2.2.1)
         have HS10_ := (hb.cell (World.block_lt_of_cell? _ _ (hHeld.2.2.2.2.2.2.2.2.2.2))).trans (hHeld.2.2.2.2.2.2.2.2.2.2)
         have n0_ := Aside0.mk (Kd.R_ub HO_5.out hb)
         have n1_ := Aside0.mk (Kd.R_ub HO_7.out hb)
         have n2_ := Aside0.mk (Kd.R_ub HO_9.out hb)
         have n3_ := Aside0.mk (Kd.R_ub HO123.out hb)
         have n4_ := Aside0.mk (Kd.R_ub HO126.out hb)
         have n5_ := Aside0.mk (blk_ub BK101.out hb)
         have n6_ := Aside0.mk (blk_ub BK102.out hb)
         have n7_ := Aside0.mk (below_step (by repeat (first | (with_reducible first | exact HB.out | refine below_q ?_ | refine below_set ?_ GE101.out | refine below_set ?_ GE102.out) | exact HB.out)) hb)
         have n8_ := Aside0.mk (hbox)
         have n9_ := Aside0.mk ((by rw [hg]; exact (below_size (by repeat (first | (with_reducible first | exact HB.out | refine below_q ?_ | refine below_set ?_ GE101.out | refine below_set ?_ GE102.out) | exact HB.out))) : w.heap.size ≤ gb127))
         have n10_ := Aside0.mk ((by rw [hg]; exact (below_size (by repeat (first | (with_reducible first | exact HB.out | refine below_q ?_ | refine below_set ?_ GE101.out | refine below_set ?_ GE102.out) | exact HB.out))) : w.heap.size ≤ gb127))
         have n11_ := Aside0.mk ((by rw [hg]; exact Nat.ne_of_lt (blk_lt (g := gb101) (o := .cells #[.int .i64 a0_0, .int .u64 a0_1, .int .u64 a0_2, .int .u64 a0_3, .int .u64 a0_4, .slice A0_5 l0_5.length c0_5, .slice A0_6 l0_6.length c0_6, .slice A0_7 l0_7.length c0_7, .slice A0_8 l0_8.length c0_8] 31 (0, 0)) (blk_u BK101.out)) : gb101 ≠ gb127))
         have n12_ := Aside0.mk ((by rw [hg]; exact Nat.ne_of_gt (blk_lt (g := gb101) (o := .cells #[.int .i64 a0_0, .int .u64 a0_1, .int .u64 a0_2, .int .u64 a0_3, .int .u64 a0_4, .slice A0_5 l0_5.length c0_5, .slice A0_6 l0_6.length c0_6, .slice A0_7 l0_7.length c0_7, .slice A0_8 l0_8.length c0_8] 31 (0, 0)) (blk_u BK101.out)) : gb127 ≠ gb101))
         have n13_ := Aside0.mk ((by rw [hg]; exact Nat.ne_of_lt (blk_lt (g := gb102) (o := .cells #[.int .i64 0, .int .u64 0, .int .u64 0, .int .u64 0, .int .u64 0, .slice none 0 0, .slice none 0 0, .slice none 0 0, .slice none 0 0] 26 (0, 0)) (blk_u BK102.out)) : gb102 ≠ gb127))
         have n14_ := Aside0.mk ((by rw [hg]; exact Nat.ne_of_gt (blk_lt (g := gb102) (o := .cells #[.int .i64 0, .int .u64 0, .int .u64 0, .int .u64 0, .int .u64 0, .slice none 0 0, .slice none 0 0, .slice none 0 0, .slice none 0 0] 26 (0, 0)) (blk_u BK102.out)) : gb127 ≠ gb102))
         clear HO_5
         clear HO_7
         clear HO_9
         clear HO123
         clear HO126
         clear BK101
         clear BK102
         clear HB
         have HO_5 := n0_
         have HO_7 := n1_
         have HO_9 := n2_
         have HO123 := n3_
         have HO126 := n4_
         have BK101 := n5_
         have BK102 := n6_
         have HB := n7_
         have BK127 := n8_
         have GW127 := n9_
         have GE127 := n10_
         have NB101_127 := n11_
         have NB127_101 := n12_
         have NB102_127 := n13_
         have NB127_102 := n14_
         clear n0_ n1_ n2_ n3_ n4_ n5_ n6_ n7_ n8_ n9_ n10_ n11_ n12_ n13_ n14_
         clear hb hbox hg
         refine hK.out _ _ ⟨(blk_cell BK101.out 0).trans rfl, (blk_cell BK101.out 1).trans rfl, (blk_cell BK101.out 2).trans rfl, (blk_cell BK101.out 3).trans rfl, (blk_cell BK101.out 4).trans rfl, (blk_cell BK101.out 5).trans rfl, (blk_cell BK101.out 6).trans rfl, (blk_cell BK101.out 7).trans rfl, (blk_cell BK101.out 8).trans rfl, HS9_, HS10_⟩ (fun hHeld => ?_)
         clear hK K
         refine norm_ (a' := ?_) ?_ ?_
         rotate_left
         ·show Act.put _ (some 11) _ = _
          simp only [Act.put, List.setIfInBounds_toArray, List.set_cons_zero, List.set_cons_succ, i64_w, i32_w]
          rfl
         exact norm_ (by simp only [putAll, Act.put, List.setIfInBounds_toArray, List.set_cons_zero, List.set_cons_succ]) (hCont (.slice Ao39 t121.length co39, .slice Ao38 t124.length co38, gb127) _ ⟨hHeld, (Kd.R_u (Kd.R_mono HO123.out (fun _ hk => hk.2))), (Kd.R_u (Kd.R_mono HO126.out (fun _ hk => hk.2))), (Kd.R_u HO_5.out), (Kd.R_u HO_7.out), (Kd.R_u HO_9.out), (blk_u BK101.out), (blk_u BK102.out), (blk_u BK127.out), GW127.out, GE127.out, NB101_127.out, NB127_101.out, NB102_127.out, NB127_102.out, (by repeat (first | (with_reducible first | exact HB.out | refine below_q ?_ | refine below_set ?_ GE101.out | refine below_set ?_ GE102.out | refine below_set ?_ GE127.out) | exact HB.out))⟩)
        skip
        refine box_step ?hg (N := 11) ?hd (cs := #[.int .i64 0, .int .u64 0, .int .u64 0, .int .u64 0, .int .u64 0, .slice none 0 0, .slice none 0 0, .slice none 0 0, .slice none 0 0]) (t := 26) ?hr ?_; (case hd => rfl); (case hg => rfl); (case hr => first | (go_simp; done) | (go_simp; rfl))
        intro gb127 hg w37 hbox hb
        have HS9_ := (hb.cell (World.block_lt_of_cell? _ _ (hHeld.2.2.2.2.2.2.2.2.2.1))).trans (hHeld.2.2.2.2.2.2.2.2.2.1)
        have HS10_ := (hb.cell (World.block_lt_of_cell? _ _ (hHeld.2.2.2.2.2.2.2.2.2.2))).trans (hHeld.2.2.2.2.2.2.2.2.2.2)
        have n0_ := Aside0.mk (Kd.R_ub HO_5.out hb)
        have n1_ := Aside0.mk (Kd.R_ub HO_7.out hb)
        have n2_ := Aside0.mk (Kd.R_ub HO_9.out hb)
        have n3_ := Aside0.mk (Kd.R_ub HO123.out hb)
        have n4_ := Aside0.mk (blk_ub BK101.out hb)
        have n5_ := Aside0.mk (blk_ub BK102.out hb)
        have n6_ := Aside0.mk (below_step (by repeat (first | (with_reducible first | exact HB.out | refine below_q ?_ | refine below_set ?_ GE101.out | refine below_set ?_ GE102.out) | exact HB.out)) hb)
        have n7_ := Aside0.mk (hbox)
        have n8_ := Aside0.mk ((by rw [hg]; exact (below_size (by repeat (first | (with_reducible first | exact HB.out | refine below_q ?_ | refine below_set ?_ GE101.out | refine below_set ?_ GE102.out) | exact HB.out))) : w.heap.size ≤ gb127))
        have n9_ := Aside0.mk ((by rw [hg]; exact (below_size (by repeat (first | (with_reducible first | exact HB.out | refine below_q ?_ | refine below_set ?_ GE101.out | refine below_set ?_ GE102.out) | exact HB.out))) : w.heap.size ≤ gb127))
        have n10_ := Aside0.mk ((by rw [hg]; exact Nat.ne_of_lt (blk_lt (g := gb101) (o := .cells #[.int .i64 a0_0, .int .u64 a0_1, .int .u64 a0_2, .int .u64 a0_3, .int .u64 a0_4, .slice A0_5 l0_5.length c0_5, .slice A0_6 l0_6.length c0_6, .slice A0_7 l0_7.length c0_7, .slice A0_8 l0_8.length c0_8] 31 (0, 0)) (blk_u BK101.out)) : gb101 ≠ gb127))
        have n11_ := Aside0.mk ((by rw [hg]; exact Nat.ne_of_gt (blk_lt (g := gb101) (o := .cells #[.int .i64 a0_0, .int .u64 a0_1, .int .u64 a0_2, .int .u64 a0_3, .int .u64 a0_4, .slice A0_5 l0_5.length c0_5, .slice A0_6 l0_6.length c0_6, .slice A0_7 l0_7.length c0_7, .slice A0_8 l0_8.length c0_8] 31 (0, 0)) (blk_u BK101.out)) : gb127 ≠ gb101))
        have n12_ := Aside0.mk ((by rw [hg]; exact Nat.ne_of_lt (blk_lt (g := gb102) (o := .cells #[.int .i64 0, .int .u64 0, .int .u64 0, .int .u64 0, .int .u64 0, .slice none 0 0, .slice none 0 0, .slice none 0 0, .slice none 0 0] 26 (0, 0)) (blk_u BK102.out)) : gb102 ≠ gb127))
        have n13_ := Aside0.mk ((by rw [hg]; exact Nat.ne_of_gt (blk_lt (g := gb102) (o := .cells #[.int .i64 0, .int .u64 0, .int .u64 0, .int .u64 0, .int .u64 0, .slice none 0 0, .slice none 0 0, .slice none 0 0, .slice none 0 0] 26 (0, 0)) (blk_u BK102.out)) : gb127 ≠ gb102))
        clear HO_5
        clear HO_7
        clear HO_9
        clear HO123
        clear BK101
        clear BK102
        clear HB
        have HO_5 := n0_
        have HO_7 := n1_
        have HO_9 := n2_
        have HO123 := n3_
        have BK101 := n4_
        have BK102 := n5_
        have HB := n6_
        have BK127 := n7_
        have GW127 := n8_
        have GE127 := n9_
        have NB101_127 := n10_
        have NB127_101 := n11_
        have NB102_127 := n12_
        have NB127_102 := n13_
        clear n0_ n1_ n2_ n3_ n4_ n5_ n6_ n7_ n8_ n9_ n10_ n11_ n12_ n13_
        clear hb hbox hg
        refine hK.out _ _ ⟨(blk_cell BK101.out 0).trans rfl, (blk_cell BK101.out 1).trans rfl, (blk_cell BK101.out 2).trans rfl, (blk_cell BK101.out 3).trans rfl, (blk_cell BK101.out 4).trans rfl, (blk_cell BK101.out 5).trans rfl, (blk_cell BK101.out 6).trans rfl, (blk_cell BK101.out 7).trans rfl, (blk_cell BK101.out 8).trans rfl, HS9_, HS10_⟩ (fun hHeld => ?_)
        clear hK K
        refine norm_ (a' := ?_) ?_ ?_
        rotate_left
        ·show Act.put _ (some 11) _ = _
         simp only [Act.put, List.setIfInBounds_toArray, List.set_cons_zero, List.set_cons_succ, i64_w, i32_w]
         rfl
        refine one_ (i := 17) (N := some 68) #[true, true, true, true, true, true, true, true, true, true, true, true, true, true, true, true, true, true, false, true, false] rfl rfl (one_of HT_.out (by kernel_rfl)) (by decide) (fun K hK => ?_)
        refine goes_ Try.func51 (by kernel_rfl) rfl #[.slice A0_6 l0_6.length c0_6] (by rfl) rfl rfl (by (try simp only [List.map_toArray, List.map_cons, List.map_nil]); first | done | rfl | (simp only [List.length_drop, List.length_take]; rfl)) ?_
        with_reducible refine (slices_Clone_span.calls _ _ l0_6 t124 _ ?side1 ?side2 A30.out).mono ?_
        (case side1 => exact Kd.C_u (Kd.C_below HR0_6.out HB.out))
        (case side2 => exact HC0_6.out)
        rintro e w38 ⟨v125, rfl, ho0, hb⟩
        have HS9_ := (hb.cell (World.block_lt_of_cell? _ _ (hHeld.2.2.2.2.2.2.2.2.2.1))).trans (hHeld.2.2.2.2.2.2.2.2.2.1)
        have HS10_ := (hb.cell (World.block_lt_of_cell? _ _ (hHeld.2.2.2.2.2.2.2.2.2.2))).trans (hHeld.2.2.2.2.2.2.2.2.2.2)
        refine ⟨_, rfl, ?_⟩
        have n0_ := Aside0.mk (Kd.R_ub HO_5.out hb)
        have n1_ := Aside0.mk (Kd.R_ub HO_7.out hb)
        have n2_ := Aside0.mk (Kd.R_ub HO_9.out hb)
        have n3_ := Aside0.mk (Kd.R_elder' (Kd.R_u HO123.out) (Kd.R_base ho0) hb)
        have n4_ := Aside0.mk (Kd.R_lower (Kd.R_new' ho0 (Kd.R_lt (Kd.R_u HO123.out))) (below_size (by repeat (first | (with_reducible first | exact HB.out | refine below_q ?_ | refine below_set ?_ GE101.out | refine below_set ?_ GE102.out | refine below_set ?_ GE127.out) | exact HB.out))))
        have n5_ := Aside0.mk (blk_ub BK101.out hb)
        have n6_ := Aside0.mk (blk_ub BK102.out hb)
        have n7_ := Aside0.mk (blk_ub BK127.out hb)
        have n8_ := Aside0.mk (below_step (by repeat (first | (with_reducible first | exact HB.out | refine below_q ?_ | refine below_set ?_ GE101.out | refine below_set ?_ GE102.out | refine below_set ?_ GE127.out) | exact HB.out)) hb)
        clear HO_5
        clear HO_7
        clear HO_9
        clear HO123
        clear BK101
        clear BK102
        clear BK127
        clear HB
        have HO_5 := n0_
        have HO_7 := n1_
        have HO_9 := n2_
        have HO123 := n3_
        have HO126 := n4_
        have BK101 := n5_
        have BK102 := n6_
        have BK127 := n7_
        have HB := n8_
        clear n0_ n1_ n2_ n3_ n4_ n5_ n6_ n7_ n8_
        (try clear hb)
        (try clear hb2)
        (try clear hk)
        (try clear hi)
        (try clear ho0)
        obtain ⟨Ao39, co39, eo39⟩ := Kd.R_slice HO126.out
        (first | subst eo39 | (injection eo39 with f1_ f2_ f3_; have f4_ := f1_.symm; have f5_ := f3_.symm; clear f1_ f2_ f3_; subst f4_; subst f5_))
        obtain ⟨Ao40, co40, eo40⟩ := Kd.R_slice HO123.out
        (first | subst eo40 | (injection eo40 with f1_ f2_ f3_; have f4_ := f1_.symm; have f5_ := f3_.symm; clear f1_ f2_ f3_; subst f4_; subst f5_))
        refine hK.out _ _ ⟨(blk_cell BK101.out 0).trans rfl, (blk_cell BK101.out 1).trans rfl, (blk_cell BK101.out 2).trans rfl, (blk_cell BK101.out 3).trans rfl, (blk_cell BK101.out 4).trans rfl, (blk_cell BK101.out 5).trans rfl, (blk_cell BK101.out 6).trans rfl, (blk_cell BK101.out 7).trans rfl, (blk_cell BK101.out 8).trans rfl, HS9_, HS10_⟩ (fun hHeld => ?_)
        clear hK K
        refine norm_ (a' := ?_) ?_ ?_
        rotate_left
        ·show Act.put _ (some 68) _ = _
         simp only [Act.put, List.setIfInBounds_toArray, List.set_cons_zero, List.set_cons_succ, i64_w, i32_w]
         rfl
        refine pure_ (i := 18) (N := some 69) (v := ?_) (a' := ?_) #[true, true, true, true, true, true, true, true, true, true, true, true, true, true, true, true, true, true, true, true, false] rfl rfl (any_of HT_.out (by kernel_rfl)) (fun _ _ _ h => h) (Or.inl ⟨by rfl, ?_⟩) ?_ ?_
        rotate_left
        ·intro w'
         go_simp
         with_reducible rfl
        rotate_left
        ·simp only [Act.put, List.setIfInBounds_toArray, List.set_cons_zero, List.set_cons_succ, i64_w, i32_w]
         rfl
        exact norm_ (by simp only [putAll, Act.put, List.setIfInBounds_toArray, List.set_cons_zero, List.set_cons_succ]) (hCont (.slice Ao40 t121.length co40, .slice Ao39 t124.length co39, gb127) _ ⟨hHeld, (Kd.R_u (Kd.R_mono HO123.out (fun _ hk => hk.2))), (Kd.R_u (Kd.R_mono HO126.out (fun _ hk => hk.2))), (Kd.R_u HO_5.out), (Kd.R_u HO_7.out), (Kd.R_u HO_9.out), (blk_u BK101.out), (blk_u BK102.out), (blk_u BK127.out), GW127.out, GE127.out, NB101_127.out, NB127_101.out, NB102_127.out, NB127_102.out, (by repeat (first | (with_reducible first | exact HB.out | refine below_q ?_ | refine below_set ?_ GE101.out | refine below_set ?_ GE102.out | refine below_set ?_ GE127.out) | exact HB.out))⟩)
       skip
       refine box_step ?hg (N := 11) ?hd (cs := #[.int .i64 0, .int .u64 0, .int .u64 0, .int .u64 0, .int .u64 0, .slice none 0 0, .slice none 0 0, .slice none 0 0, .slice none 0 0]) (t := 26) ?hr ?_; (case hd => rfl); (case hg => rfl); (case hr => first | (go_simp; done) | (go_simp; rfl))
       intro gb127 hg w36 hbox hb
       have HS9_ := (hb.cell (World.block_lt_of_cell? _ _ (hHeld.2.2.2.2.2.2.2.2.2.1))).trans (hHeld.2.2.2.2.2.2.2.2.2.1)
       have HS10_ := (hb.cell (World.block_lt_of_cell? _ _ (hHeld.2.2.2.2.2.2.2.2.2.2))).trans (hHeld.2.2.2.2.2.2.2.2.2.2)
       have n0_ := Aside0.mk (Kd.R_ub HO_5.out hb)
       have n1_ := Aside0.mk (Kd.R_ub HO_7.out hb)
       have n2_ := Aside0.mk (Kd.R_ub HO_9.out hb)
       have n3_ := Aside0.mk (blk_ub BK101.out hb)
       have n4_ := Aside0.mk (blk_ub BK102.out hb)
       have n5_ := Aside0.mk (below_step (by repeat (first | (with_reducible first | exact HB.out | refine below_q ?_ | refine below_set ?_ GE101.out | refine below_set ?_ GE102.out) | exact HB.out)) hb)
       have n6_ := Aside0.mk (hbox)
       have n7_ := Aside0.mk ((by rw [hg]; exact (below_size (by repeat (first | (with_reducible first | exact HB.out | refine below_q ?_ | refine below_set ?_ GE101.out | refine below_set ?_ GE102.out) | exact HB.out))) : w.heap.size ≤ gb127))
       have n8_ := Aside0.mk ((by rw [hg]; exact (below_size (by repeat (first | (with_reducible first | exact HB.out | refine below_q ?_ | refine below_set ?_ GE101.out | refine below_set ?_ GE102.out) | exact HB.out))) : w.heap.size ≤ gb127))
       have n9_ := Aside0.mk ((by rw [hg]; exact Nat.ne_of_lt (blk_lt (g := gb101) (o := .cells #[.int .i64 a0_0, .int .u64 a0_1, .int .u64 a0_2, .int .u64 a0_3, .int .u64 a0_4, .slice A0_5 l0_5.length c0_5, .slice A0_6 l0_6.length c0_6, .slice A0_7 l0_7.length c0_7, .slice A0_8 l0_8.length c0_8] 31 (0, 0)) (blk_u BK101.out)) : gb101 ≠ gb127))
       have n10_ := Aside0.mk ((by rw [hg]; exact Nat.ne_of_gt (blk_lt (g := gb101) (o := .cells #[.int .i64 a0_0, .int .u64 a0_1, .int .u64 a0_2, .int .u64 a0_3, .int .u64 a0_4, .slice A0_5 l0_5.length c0_5, .slice A0_6 l0_6.length c0_6, .slice A0_7 l0_7.length c0_7, .slice A0_8 l0_8.length c0_8] 31 (0, 0)) (blk_u BK101.out)) : gb127 ≠ gb101))
       have n11_ := Aside0.mk ((by rw [hg]; exact Nat.ne_of_lt (blk_lt (g := gb102) (o := .cells #[.int .i64 0, .int .u64 0, .int .u64 0, .int .u64 0, .int .u64 0, .slice none 0 0, .slice none 0 0, .slice none 0 0, .slice none 0 0] 26 (0, 0)) (blk_u BK102.out)) : gb102 ≠ gb127))
       have n12_ := Aside0.mk ((by rw [hg]; exact Nat.ne_of_gt (blk_lt (g := gb102) (o := .cells #[.int .i64 0, .int .u64 0, .int .u64 0, .int .u64 0, .int .u64 0, .slice none 0 0, .slice none 0 0, .slice none 0 0, .slice none 0 0] 26 (0, 0)) (blk_u BK102.out)) : gb127 ≠ gb102))
       clear HO_5
       clear HO_7
       clear HO_9
       clear BK101
       clear BK102
       clear HB
       have HO_5 := n0_
       have HO_7 := n1_
       have HO_9 := n2_
       have BK101 := n3_
       have BK102 := n4_
       have HB := n5_
       have BK127 := n6_
       have GW127 := n7_
       have GE127 := n8_
       have NB101_127 := n9_
       have NB127_101 := n10_
       have NB102_127 := n11_
       have NB127_102 := n12_
       clear n0_ n1_ n2_ n3_ n4_ n5_ n6_ n7_ n8_ n9_ n10_ n11_ n12_
       clear hb hbox hg
       refine hK.out _ _ ⟨(blk_cell BK101.out 0).trans rfl, (blk_cell BK101.out 1).trans rfl, (blk_cell BK101.out 2).trans rfl, (blk_cell BK101.out 3).trans rfl, (blk_cell BK101.out 4).trans rfl, (blk_cell BK101.out 5).trans rfl, (blk_cell BK101.out 6).trans rfl, (blk_cell BK101.out 7).trans rfl, (blk_cell BK101.out 8).trans rfl, HS9_, HS10_⟩ (fun hHeld => ?_)
       clear hK K
       refine norm_ (a' := ?_) ?_ ?_
       rotate_left
       ·show Act.put _ (some 11) _ = _
        simp only [Act.put, List.setIfInBounds_toArray, List.set_cons_zero, List.set_cons_succ, i64_w, i32_w]
        rfl
       refine one_ (i := 14) (N := some 65) #[true, true, true, true, true, true, true, true, true, true, true, true, true, true, true, true, true, false, false, true, false] rfl rfl (one_of HT_.out (by kernel_rfl)) (by decide) (fun K hK => ?_)
       refine goes_ Try.func51 (by kernel_rfl) rfl #[.slice A0_5 l0_5.length c0_5] (by rfl) rfl rfl (by (try simp only [List.map_toArray, List.map_cons, List.map_nil]); first | done | rfl | (simp only [List.length_drop, List.length_take]; rfl)) ?_
       with_reducible refine (slices_Clone_span.calls _ _ l0_5 t121 _ ?side1 ?side2 A29.out).mono ?_
       (case side1 => exact Kd.C_u (Kd.C_below HR0_5.out HB.out))
       (case side2 => exact HC0_5.out)
       rintro e w37 ⟨v122, rfl, ho0, hb⟩
       have HS9_ := (hb.cell (World.block_lt_of_cell? _ _ (hHeld.2.2.2.2.2.2.2.2.2.1))).trans (hHeld.2.2.2.2.2.2.2.2.2.1)
       have HS10_ := (hb.cell (World.block_lt_of_cell? _ _ (hHeld.2.2.2.2.2.2.2.2.2.2))).trans (hHeld.2.2.2.2.2.2.2.2.2.2)
       refine ⟨_, rfl, ?_⟩
       have n0_ := Aside0.mk (Kd.R_ub HO_5.out hb)
       have n1_ := Aside0.mk (Kd.R_ub HO_7.out hb)
       have n2_ := Aside0.mk (Kd.R_ub HO_9.out hb)
       have n3_ := Aside0.mk (Kd.R_lower ho0 (below_size (by repeat (first | (with_reducible first | exact HB.out | refine below_q ?_ | refine below_set ?_ GE101.out | refine below_set ?_ GE102.out | refine below_set ?_ GE127.out) | exact HB.out))))
       have n4_ := Aside0.mk (blk_ub BK101.out hb)
       have n5_ := Aside0.mk (blk_ub BK102.out hb)
       have n6_ := Aside0.mk (blk_ub BK127.out hb)
       have n7_ := Aside0.mk (below_step (by repeat (first | (with_reducible first | exact HB.out | refine below_q ?_ | refine below_set ?_ GE101.out | refine below_set ?_ GE102.out | refine below_set ?_ GE127.out) | exact HB.out)) hb)
       clear HO_5
       clear HO_7
       clear HO_9
       clear BK101
       clear BK102
       clear BK127
       clear HB
       have HO_5 := n0_
       have HO_7 := n1_
       have HO_9 := n2_
       have HO123 := n3_
       have BK101 := n4_
       have BK102 := n5_
       have BK127 := n6_
       have HB := n7_
       clear n0_ n1_ n2_ n3_ n4_ n5_ n6_ n7_
       (try clear hb)
       (try clear hb2)
       (try clear hk)
       (try clear hi)
       (try clear ho0)
       refine hK.out _ _ ⟨(blk_cell BK101.out 0).trans rfl, (blk_cell BK101.out 1).trans rfl, (blk_cell BK101.out 2).trans rfl, (blk_cell BK101.out 3).trans rfl, (blk_cell BK101.out 4).trans rfl, (blk_cell BK101.out 5).trans rfl, (blk_cell BK101.out 6).trans rfl, (blk_cell BK101.out 7).trans rfl, (blk_cell BK101.out 8).trans rfl, HS9_, HS10_⟩ (fun hHeld => ?_)
       clear hK K
       refine norm_ (a' := ?_) ?_ ?_
       rotate_left
       ·show Act.put _ (some 65) _ = _
        simp only [Act.put, List.setIfInBounds_toArray, List.set_cons_zero, List.set_cons_succ, i64_w, i32_w]
        rfl
       refine one_ (i := 17) (N := some 68) #[true, true, true, true, true, true, true, true, true, true, true, true, true, true, true, true, true, true, false, true, false] rfl rfl (one_of HT_.out (by kernel_rfl)) (by decide) (fun K hK => ?_)
       refine goes_ Try.func51 (by kernel_rfl) rfl #[.slice A0_6 l0_6.length c0_6] (by rfl) rfl rfl (by (try simp only [List.map_toArray, List.map_cons, List.map_nil]); first | done | rfl | (simp only [List.length_drop, List.length_take]; rfl)) ?_
       with_reducible refine (slices_Clone_span.calls _ _ l0_6 t124 _ ?side1 ?side2 A30.out).mono ?_
       (case side1 => exact Kd.C_u (Kd.C_below HR0_6.out HB.out))
       (case side2 => exact HC0_6.out)
       rintro e w38 ⟨v125, rfl, ho0, hb⟩
       have HS9_ := (hb.cell (World.block_lt_of_cell? _ _ (hHeld.2.2.2.2.2.2.2.2.2.1))).trans (hHeld.2.2.2.2.2.2.2.2.2.1)
       have HS10_ := (hb.cell (World.block_lt_of_cell? _ _ (hHeld.2.2.2.2.2.2.2.2.2.2))).trans (hHeld.2.2.2.2.2.2.2.2.2.2)
       refine ⟨_, rfl, ?_⟩
       have n0_ := Aside0.mk (Kd.R_ub HO_5.out hb)
       have n1_ := Aside0.mk (Kd.R_ub HO_7.out hb)
       have n2_ := Aside0.mk (Kd.R_ub HO_9.out hb)
       have n3_ := Aside0.mk (Kd.R_elder' (Kd.R_u HO123.out) (Kd.R_base ho0) hb)
       have n4_ := Aside0.mk (Kd.R_lower (Kd.R_new' ho0 (Kd.R_lt (Kd.R_u HO123.out))) (below_size (by repeat (first | (with_reducible first | exact HB.out | refine below_q ?_ | refine below_set ?_ GE101.out | refine below_set ?_ GE102.out | refine below_set ?_ GE127.out) | exact HB.out))))
       have n5_ := Aside0.mk (blk_ub BK101.out hb)
       have n6_ := Aside0.mk (blk_ub BK102.out hb)
       have n7_ := Aside0.mk (blk_ub BK127.out hb)
       have n8_ := Aside0.mk (below_step (by repeat (first | (with_reducible first | exact HB.out | refine below_q ?_ | refine below_set ?_ GE101.out | refine below_set ?_ GE102.out | refine below_set ?_ GE127.out) | exact HB.out)) hb)
       clear HO_5
       clear HO_7
       clear HO_9
       clear HO123
       clear BK101
       clear BK102
       clear BK127
       clear HB
       have HO_5 := n0_
       have HO_7 := n1_
       have HO_9 := n2_
       have HO123 := n3_
       have HO126 := n4_
       have BK101 := n5_
       have BK102 := n6_
       have BK127 := n7_
       have HB := n8_
       clear n0_ n1_ n2_ n3_ n4_ n5_ n6_ n7_ n8_
       (try clear hb)
       (try clear hb2)
       (try clear hk)
       (try clear hi)
       (try clear ho0)
       obtain ⟨Ao39, co39, eo39⟩ := Kd.R_slice HO126.out
       (first | subst eo39 | (injection eo39 with f1_ f2_ f3_; have f4_ := f1_.symm; have f5_ := f3_.symm; clear f1_ f2_ f3_; subst f4_; subst f5_))
       obtain ⟨Ao40, co40, eo40⟩ := Kd.R_slice HO123.out
       (first | subst eo40 | (injection eo40 with f1_ f2_ f3_; have f4_ := f1_.symm; have f5_ := f3_.symm; clear f1_ f2_ f3_; subst f4_; subst f5_))
       refine hK.out _ _ ⟨(blk_cell BK101.out 0).trans rfl, (blk_cell BK101.out 1).trans rfl, (blk_cell BK101.out 2).trans rfl, (blk_cell BK101.out 3).trans rfl, (blk_cell BK101.out 4).trans rfl, (blk_cell BK101.out 5).trans rfl, (blk_cell BK101.out 6).trans rfl, (blk_cell BK101.out 7).trans rfl, (blk_cell BK101.out 8).trans rfl, HS9_, HS10_⟩ (fun hHeld => ?_)
       clear hK K
       refine norm_ (a' := ?_) ?_ ?_
       rotate_left
       ·show Act.put _ (some 68) _ = _
        simp only [Act.put, List.setIfInBounds_toArray, List.set_cons_zero, List.set_cons_succ, i64_w, i32_w]
        rfl
       refine pure_ (i := 18) (N := some 69) (v := ?_) (a' := ?_) #[true, true, true, true, true, true, true, true, true, true, true, true, true, true, true, true, true, true, true, true, false] rfl rfl (any_of HT_.out (by kernel_rfl)) (fun _ _ _ h => h) (Or.inl ⟨by rfl, ?_⟩) ?_ ?_
       rotate_left
       ·intro w'
        go_simp
        with_reducible rfl
       rotate_left
       ·simp only [Act.put, List.setIfInBounds_toArray, List.set_cons_zero, List.set_cons_succ, i64_w, i32_w]
        rfl
       exact norm_ (by simp only [putAll, Act.put, List.setIfInBounds_toArray, List.set_cons_zero, List.set_cons_succ]) (hCont (.slice Ao40 t121.length co40, .slice Ao39 t124.length co39, gb127) _ ⟨hHeld, (Kd.R_u (Kd.R_mono HO123.out (fun _ hk => hk.2))), (Kd.R_u (Kd.R_mono HO126.out (fun _ hk => hk.2))), (Kd.R_u HO_5.out), (Kd.R_u HO_7.out), (Kd.R_u HO_9.out), (blk_u BK101.out), (blk_u BK102.out), (blk_u BK127.out), GW127.out, GE127.out, NB101_127.out, NB127_101.out, NB102_127.out, NB127_102.out, (by repeat (first | (with_reducible first | exact HB.out | refine below_q ?_ | refine below_set ?_ GE101.out | refine below_set ?_ GE102.out | refine below_set ?_ GE127.out) | exact HB.out))⟩)
      rintro ⟨v122, v125, gb127⟩ w41 ⟨hS_, h0_, h1_, h2_, h3_, h4_, h5_, h6_, h7_, h8_, h9_, h10_, h11_, h12_, h13_, h14_⟩
      have n0_ : Aside0 (Kd.R k86 86 w41 w.heap.size (fun k_ => some k_ ≠ (v125 : Value).ownBlock) v122 t121) := ⟨h0_⟩
      have n1_ : Aside0 (Kd.R k86 86 w41 w.heap.size (fun k_ => some k_ ≠ (v122 : Value).ownBlock) v125 t124) := ⟨h1_⟩
      have n2_ : Aside0 (Kd.R (Kd.int .u64) 22 w41 w.heap.size (fun k_ => some k_ ≠ (v113 : Value).ownBlock ∧ some k_ ≠ (v117 : Value).ownBlock) (.slice (some ad119) t107.length co35) t107) := ⟨h2_⟩
      have n3_ : Aside0 (Kd.R (Kd.int .u64) 22 w41 w.heap.size (fun k_ => some k_ ≠ (.slice (some ad119) t107.length co35 : Value).ownBlock ∧ some k_ ≠ (v117 : Value).ownBlock) v113 t111) := ⟨h3_⟩
      have n4_ : Aside0 (Kd.R (Kd.int .u64) 22 w41 w.heap.size (fun k_ => some k_ ≠ (.slice (some ad119) t107.length co35 : Value).ownBlock ∧ some k_ ≠ (v113 : Value).ownBlock) v117 t115) := ⟨h4_⟩
      have n5_ : Aside0 (w41.heap[gb101]? = some (.cells #[.int .i64 a0_0, .int .u64 a0_1, .int .u64 a0_2, .int .u64 a0_3, .int .u64 a0_4, .slice A0_5 l0_5.length c0_5, .slice A0_6 l0_6.length c0_6, .slice A0_7 l0_7.length c0_7, .slice A0_8 l0_8.length c0_8] 31 (0, 0))) := ⟨h5_⟩
      have n6_ : Aside0 (w41.heap[gb102]? = some (.cells #[.int .i64 0, .int .u64 0, .int .u64 0, .int .u64 0, .int .u64 0, .slice none 0 0, .slice none 0 0, .slice none 0 0, .slice none 0 0] 26 (0, 0))) := ⟨h6_⟩
      have n7_ : Aside0 (w41.heap[gb127]? = some (.cells #[.int .i64 0, .int .u64 0, .int .u64 0, .int .u64 0, .int .u64 0, .slice none 0 0, .slice none 0 0, .slice none 0 0, .slice none 0 0] 26 (0, 0))) := ⟨h7_⟩
      have n8_ : Aside0 (w.heap.size ≤ gb127) := ⟨h8_⟩
      have n9_ : Aside0 (w.heap.size ≤ gb127) := ⟨h9_⟩
      have n10_ : Aside0 (gb101 ≠ gb127) := ⟨h10_⟩
      have n11_ : Aside0 (gb127 ≠ gb101) := ⟨h11_⟩
      have n12_ : Aside0 (gb102 ≠ gb127) := ⟨h12_⟩
      have n13_ : Aside0 (gb127 ≠ gb102) := ⟨h13_⟩
      have n14_ : Aside0 (Below w.heap.size w w41) := ⟨h14_⟩
      clear HO_5
      clear HO_7
      clear HO_9
      clear BK101
      clear BK102
      clear HB
      clear h0_ h1_ h2_ h3_ h4_ h5_ h6_ h7_ h8_ h9_ h10_ h11_ h12_ h13_ h14_
      have HO123 := n0_
      have HO126 := n1_
      have HO_5 := n2_
      have HO_7 := n3_
      have HO_9 := n4_
      have BK101 := n5_
      have BK102 := n6_
      have BK127 := n7_
      have GW127 := n8_
      have GE127 := n9_
      have NB101_127 := n10_
      have NB127_101 := n11_
      have NB102_127 := n12_
      have NB127_102 := n13_
      have HB := n14_
      clear n0_ n1_ n2_ n3_ n4_ n5_ n6_ n7_ n8_ n9_ n10_ n11_ n12_ n13_ n14_
      have hHeld : w41.cell? ⟨gb101, 0, none⟩ = some (.int .i64 a0_0) ∧ w41.cell? ⟨gb101, 1, none⟩ = some (.int .u64 a0_1) ∧ w41.cell? ⟨gb101, 2, none⟩ = some (.int .u64 a0_2) ∧ w41.cell? ⟨gb101, 3, none⟩ = some (.int .u64 a0_3) ∧ w41.cell? ⟨gb101, 4, none⟩ = some (.int .u64 a0_4) ∧ w41.cell? ⟨gb101, 5, none⟩ = some (.slice A0_5 l0_5.length c0_5) ∧ w41.cell? ⟨gb101, 6, none⟩ = some (.slice A0_6 l0_6.length c0_6) ∧ w41.cell? ⟨gb101, 7, none⟩ = some (.slice A0_7 l0_7.length c0_7) ∧ w41.cell? ⟨gb101, 8, none⟩ = some (.slice A0_8 l0_8.length c0_8) ∧ w41.cell? ad119 = some (.int .u64 (rd t107 0)) ∧ w41.cell? ⟨ad119.block, ad119.off + 1, none⟩ = some (.int .u64 (rd t107 1)) := hS_
      obtain ⟨Ao42, co42, eo42⟩ := Kd.R_slice HO126.out
      (first | subst eo42 | (injection eo42 with f1_ f2_ f3_; have f4_ := f1_.symm; have f5_ := f3_.symm; clear f1_ f2_ f3_; subst f4_; subst f5_))
      obtain ⟨Ao43, co43, eo43⟩ := Kd.R_slice HO123.out
      (first | subst eo43 | (injection eo43 with f1_ f2_ f3_; have f4_ := f1_.symm; have f5_ := f3_.symm; clear f1_ f2_ f3_; subst f4_; subst f5_))
      refine norm_ (a' := ?_) ?_ ?_
      rotate_left
      ·simp only [putAll, Act.put, List.setIfInBounds_toArray, List.set_cons_zero, List.set_cons_succ]
       rfl
      refine one_ (i := 20) (N := none) #[true, true, true, true, true, true, true, true, true, true, true, true, true, true, true, true, true, true, true, true, true] rfl rfl (one_of HT_.out (by kernel_rfl)) (by decide) (fun K hK => ?_)
      have hs44 : w41.cell? ⟨gb127, 0, none⟩ = some (.int .i64 0) := (blk_cell BK127.out 0).trans rfl
      have hfs44 := blk_frozen BK127.out 0
      have hns44_0 := NB101_127.out
      have hns44_1 := NB102_127.out
      have hms44_0 := NB127_101.out
      have hms44_1 := NB127_102.out
      have hs45 : w41.cell? ⟨gb127, 1, none⟩ = some (.int .u64 0) := (blk_cell BK127.out 1).trans rfl
      have hfs45 := blk_frozen BK127.out 1
      have hns45_0 := NB101_127.out
      have hns45_1 := NB102_127.out
      have hms45_0 := NB127_101.out
      have hms45_1 := NB127_102.out
      have hs46 : w41.cell? ⟨gb127, 2, none⟩ = some (.int .u64 0) := (blk_cell BK127.out 2).trans rfl
      have hfs46 := blk_frozen BK127.out 2
      have hns46_0 := NB101_127.out
      have hns46_1 := NB102_127.out
      have hms46_0 := NB127_101.out
      have hms46_1 := NB127_102.out
      have hs47 : w41.cell? ⟨gb127, 3, none⟩ = some (.int .u64 0) := (blk_cell BK127.out 3).trans rfl
      have hfs47 := blk_frozen BK127.out 3
      have hns47_0 := NB101_127.out
      have hns47_1 := NB102_127.out
      have hms47_0 := NB127_101.out
      have hms47_1 := NB127_102.out
      have hs48 : w41.cell? ⟨gb127, 4, none⟩ = some (.int .u64 0) := (blk_cell BK127.out 4).trans rfl
      have hfs48 := blk_frozen BK127.out 4
      have hns48_0 := NB101_127.out
      have hns48_1 := NB102_127.out
      have hms48_0 := NB127_101.out
      have hms48_1 := NB127_102.out
      have hs49 : w41.cell? ⟨gb127, 5, none⟩ = some (.slice none 0 0) := (blk_cell BK127.out 5).trans rfl
      have hfs49 := blk_frozen BK127.out 5
      have hns49_0 := NB101_127.out
      have hns49_1 := NB102_127.out
      have hms49_0 := NB127_101.out
      have hms49_1 := NB127_102.out
      have hs50 : w41.cell? ⟨gb127, 6, none⟩ = some (.slice none 0 0) := (blk_cell BK127.out 6).trans rfl
      have hfs50 := blk_frozen BK127.out 6
      have hns50_0 := NB101_127.out
      have hns50_1 := NB102_127.out
      have hms50_0 := NB127_101.out
      have hms50_1 := NB127_102.out
      have hs51 : w41.cell? ⟨gb127, 7, none⟩ = some (.slice none 0 0) := (blk_cell BK127.out 7).trans rfl
      have hfs51 := blk_frozen BK127.out 7
      have hns51_0 := NB101_127.out
      have hns51_1 := NB102_127.out
      have hms51_0 := NB127_101.out
      have hms51_1 := NB127_102.out
      have hs52 : w41.cell? ⟨gb127, 8, none⟩ = some (.slice none 0 0) := (blk_cell BK127.out 8).trans rfl
      have hfs52 := blk_frozen BK127.out 8
      have hns52_0 := NB101_127.out
      have hns52_1 := NB102_127.out
      have hms52_0 := NB127_101.out
      have hms52_1 := NB127_102.out
      refine skip_ (w1 := ?_) (by rfl) rfl ?_ ?_
      rotate_left
      ·go_simp
       rfl
      refine hK.out _ _ ⟨((cell_far (p := ⟨gb127, _, none⟩) NB101_127.out _).trans (((cell_far (p := ⟨gb127, _, none⟩) NB101_127.out _).trans (((cell_far (p := ⟨gb127, _, none⟩) NB101_127.out _).trans (((cell_far (p := ⟨gb127, _, none⟩) NB101_127.out _).trans (((cell_far (p := ⟨gb127, _, none⟩) NB101_127.out _).trans (((cell_far (p := ⟨gb127, _, none⟩) NB101_127.out _).trans (((cell_far (p := ⟨gb127, _, none⟩) NB101_127.out _).trans (((cell_far (p := ⟨gb127, _, none⟩) NB101_127.out _).trans (((cell_far (p := ⟨gb127, _, none⟩) NB101_127.out _).trans (hHeld.1)))))))))))))))))), ((cell_far (p := ⟨gb127, _, none⟩) NB101_127.out _).trans (((cell_far (p := ⟨gb127, _, none⟩) NB101_127.out _).trans (((cell_far (p := ⟨gb127, _, none⟩) NB101_127.out _).trans (((cell_far (p := ⟨gb127, _, none⟩) NB101_127.out _).trans (((cell_far (p := ⟨gb127, _, none⟩) NB101_127.out _).trans (((cell_far (p := ⟨gb127, _, none⟩) NB101_127.out _).trans (((cell_far (p := ⟨gb127, _, none⟩) NB101_127.out _).trans (((cell_far (p := ⟨gb127, _, none⟩) NB101_127.out _).trans (((cell_far (p := ⟨gb127, _, none⟩) NB101_127.out _).trans (hHeld.2.1)))))))))))))))))), ((cell_far (p := ⟨gb127, _, none⟩) NB101_127.out _).trans (((cell_far (p := ⟨gb127, _, none⟩) NB101_127.out _).trans (((cell_far (p := ⟨gb127, _, none⟩) NB101_127.out _).trans (((cell_far (p := ⟨gb127, _, none⟩) NB101_127.out _).trans (((cell_far (p := ⟨gb127, _, none⟩) NB101_127.out _).trans (((cell_far (p := ⟨gb127, _, none⟩) NB101_127.out _).trans (((cell_far (p := ⟨gb127, _, none⟩) NB101_127.out _).trans (((cell_far (p := ⟨gb127, _, none⟩) NB101_127.out _).trans (((cell_far (p := ⟨gb127, _, none⟩) NB101_127.out _).trans (hHeld.2.2.1)))))))))))))))))), ((cell_far (p := ⟨gb127, _, none⟩) NB101_127.out _).trans (((cell_far (p := ⟨gb127, _, none⟩) NB101_127.out _).trans (((cell_far (p := ⟨gb127, _, none⟩) NB101_127.out _).trans (((cell_far (p := ⟨gb127, _, none⟩) NB101_127.out _).trans (((cell_far (p := ⟨gb127, _, none⟩) NB101_127.out _).trans (((cell_far (p := ⟨gb127, _, none⟩) NB101_127.out _).trans (((cell_far (p := ⟨gb127, _, none⟩) NB101_127.out _).trans (((cell_far (p := ⟨gb127, _, none⟩) NB101_127.out _).trans (((cell_far (p := ⟨gb127, _, none⟩) NB101_127.out _).trans (hHeld.2.2.2.1)))))))))))))))))), ((cell_far (p := ⟨gb127, _, none⟩) NB101_127.out _).trans (((cell_far (p := ⟨gb127, _, none⟩) NB101_127.out _).trans (((cell_far (p := ⟨gb127, _, none⟩) NB101_127.out _).trans (((cell_far (p := ⟨gb127, _, none⟩) NB101_127.out _).trans (((cell_far (p := ⟨gb127, _, none⟩) NB101_127.out _).trans (((cell_far (p := ⟨gb127, _, none⟩) NB101_127.out _).trans (((cell_far (p := ⟨gb127, _, none⟩) NB101_127.out _).trans (((cell_far (p := ⟨gb127, _, none⟩) NB101_127.out _).trans (((cell_far (p := ⟨gb127, _, none⟩) NB101_127.out _).trans (hHeld.2.2.2.2.1)))))))))))))))))), ((cell_far (p := ⟨gb127, _, none⟩) NB101_127.out _).trans (((cell_far (p := ⟨gb127, _, none⟩) NB101_127.out _).trans (((cell_far (p := ⟨gb127, _, none⟩) NB101_127.out _).trans (((cell_far (p := ⟨gb127, _, none⟩) NB101_127.out _).trans (((cell_far (p := ⟨gb127, _, none⟩) NB101_127.out _).trans (((cell_far (p := ⟨gb127, _, none⟩) NB101_127.out _).trans (((cell_far (p := ⟨gb127, _, none⟩) NB101_127.out _).trans (((cell_far (p := ⟨gb127, _, none⟩) NB101_127.out _).trans (((cell_far (p := ⟨gb127, _, none⟩) NB101_127.out _).trans (hHeld.2.2.2.2.2.1)))))))))))))))))), ((cell_far (p := ⟨gb127, _, none⟩) NB101_127.out _).trans (((cell_far (p := ⟨gb127, _, none⟩) NB101_127.out _).trans (((cell_far (p := ⟨gb127, _, none⟩) NB101_127.out _).trans (((cell_far (p := ⟨gb127, _, none⟩) NB101_127.out _).trans (((cell_far (p := ⟨gb127, _, none⟩) NB101_127.out _).trans (((cell_far (p := ⟨gb127, _, none⟩) NB101_127.out _).trans (((cell_far (p := ⟨gb127, _, none⟩) NB101_127.out _).trans (((cell_far (p := ⟨gb127, _, none⟩) NB101_127.out _).trans (((cell_far (p := ⟨gb127, _, none⟩) NB101_127.out _).trans (hHeld.2.2.2.2.2.2.1)))))))))))))))))), ((cell_far (p := ⟨gb127, _, none⟩) NB101_127.out _).trans (((cell_far (p := ⟨gb127, _, none⟩) NB101_127.out _).trans (((cell_far (p := ⟨gb127, _, none⟩) NB101_127.out _).trans (((cell_far (p := ⟨gb127, _, none⟩) NB101_127.out _).trans (((cell_far (p := ⟨gb127, _, none⟩) NB101_127.out _).trans (((cell_far (p := ⟨gb127, _, none⟩) NB101_127.out _).trans (((cell_far (p := ⟨gb127, _, none⟩) NB101_127.out _).trans (((cell_far (p := ⟨gb127, _, none⟩) NB101_127.out _).trans (((cell_far (p := ⟨gb127, _, none⟩) NB101_127.out _).trans (hHeld.2.2.2.2.2.2.2.1)))))))))))))))))), ((cell_far (p := ⟨gb127, _, none⟩) NB101_127.out _).trans (((cell_far (p := ⟨gb127, _, none⟩) NB101_127.out _).trans (((cell_far (p := ⟨gb127, _, none⟩) NB101_127.out _).trans (((cell_far (p := ⟨gb127, _, none⟩) NB101_127.out _).trans (((cell_far (p := ⟨gb127, _, none⟩) NB101_127.out _).trans (((cell_far (p := ⟨gb127, _, none⟩) NB101_127.out _).trans (((cell_far (p := ⟨gb127, _, none⟩) NB101_127.out _).trans (((cell_far (p := ⟨gb127, _, none⟩) NB101_127.out _).trans (((cell_far (p := ⟨gb127, _, none⟩) NB101_127.out _).trans (hHeld.2.2.2.2.2.2.2.2.1)))))))))))))))))), ((cell_far (p := ⟨gb127, _, none⟩) (by first | exact Kd.own_blk (Kd.R_ne HO_5.out BK127.out (by decide)) | (rw [add_block]; exact Kd.own_blk (Kd.R_ne HO_5.out BK127.out (by decide))) | (show (Addr.add _ _).block ≠ _; rw [add_block]; exact Kd.own_blk (Kd.R_ne HO_5.out BK127.out (by decide))) | (dsimp only; exact Kd.own_blk (Kd.R_ne HO_5.out BK127.out (by decide)))) _).trans (((cell_far (p := ⟨gb127, _, none⟩) (by first | exact Kd.own_blk (Kd.R_ne HO_5.out BK127.out (by decide)) | (rw [add_block]; exact Kd.own_blk (Kd.R_ne HO_5.out BK127.out (by decide))) | (show (Addr.add _ _).block ≠ _; rw [add_block]; exact Kd.own_blk (Kd.R_ne HO_5.out BK127.out (by decide))) | (dsimp only; exact Kd.own_blk (Kd.R_ne HO_5.out BK127.out (by decide)))) _).trans (((cell_far (p := ⟨gb127, _, none⟩) (by first | exact Kd.own_blk (Kd.R_ne HO_5.out BK127.out (by decide)) | (rw [add_block]; exact Kd.own_blk (Kd.R_ne HO_5.out BK127.out (by decide))) | (show (Addr.add _ _).block ≠ _; rw [add_block]; exact Kd.own_blk (Kd.R_ne HO_5.out BK127.out (by decide))) | (dsimp only; exact Kd.own_blk (Kd.R_ne HO_5.out BK127.out (by decide)))) _).trans (((cell_far (p := ⟨gb127, _, none⟩) (by first | exact Kd.own_blk (Kd.R_ne HO_5.out BK127.out (by decide)) | (rw [add_block]; exact Kd.own_blk (Kd.R_ne HO_5.out BK127.out (by decide))) | (show (Addr.add _ _).block ≠ _; rw [add_block]; exact Kd.own_blk (Kd.R_ne HO_5.out BK127.out (by decide))) | (dsimp only; exact Kd.own_blk (Kd.R_ne HO_5.out BK127.out (by decide)))) _).trans (((cell_far (p := ⟨gb127, _, none⟩) (by first | exact Kd.own_blk (Kd.R_ne HO_5.out BK127.out (by decide)) | (rw [add_block]; exact Kd.own_blk (Kd.R_ne HO_5.out BK127.out (by decide))) | (show (Addr.add _ _).block ≠ _; rw [add_block]; exact Kd.own_blk (Kd.R_ne HO_5.out BK127.out (by decide))) | (dsimp only; exact Kd.own_blk (Kd.R_ne HO_5.out BK127.out (by decide)))) _).trans (((cell_far (p := ⟨gb127, _, none⟩) (by first | exact Kd.own_blk (Kd.R_ne HO_5.out BK127.out (by decide)) | (rw [add_block]; exact Kd.own_blk (Kd.R_ne HO_5.out BK127.out (by decide))) | (show (Addr.add _ _).block ≠ _; rw [add_block]; exact Kd.own_blk (Kd.R_ne HO_5.out BK127.out (by decide))) | (dsimp only; exact Kd.own_blk (Kd.R_ne HO_5.out BK127.out (by decide)))) _).trans (((cell_far (p := ⟨gb127, _, none⟩) (by first | exact Kd.own_blk (Kd.R_ne HO_5.out BK127.out (by decide)) | (rw [add_block]; exact Kd.own_blk (Kd.R_ne HO_5.out BK127.out (by decide))) | (show (Addr.add _ _).block ≠ _; rw [add_block]; exact Kd.own_blk (Kd.R_ne HO_5.out BK127.out (by decide))) | (dsimp only; exact Kd.own_blk (Kd.R_ne HO_5.out BK127.out (by decide)))) _).trans (((cell_far (p := ⟨gb127, _, none⟩) (by first | exact Kd.own_blk (Kd.R_ne HO_5.out BK127.out (by decide)) | (rw [add_block]; exact Kd.own_blk (Kd.R_ne HO_5.out BK127.out (by decide))) | (show (Addr.add _ _).block ≠ _; rw [add_block]; exact Kd.own_blk (Kd.R_ne HO_5.out BK127.out (by decide))) | (dsimp only; exact Kd.own_blk (Kd.R_ne HO_5.out BK127.out (by decide)))) _).trans (((cell_far (p := ⟨gb127, _, none⟩) (by first | exact Kd.own_blk (Kd.R_ne HO_5.out BK127.out (by decide)) | (rw [add_block]; exact Kd.own_blk (Kd.R_ne HO_5.out BK127.out (by decide))) | (show (Addr.add _ _).block ≠ _; rw [add_block]; exact Kd.own_blk (Kd.R_ne HO_5.out BK127.out (by decide))) | (dsimp only; exact Kd.own_blk (Kd.R_ne HO_5.out BK127.out (by decide)))) _).trans (hHeld.2.2.2.2.2.2.2.2.2.1)))))))))))))))))), ((cell_far (p := ⟨gb127, _, none⟩) (by first | exact Kd.own_blk (Kd.R_ne HO_5.out BK127.out (by decide)) | (rw [add_block]; exact Kd.own_blk (Kd.R_ne HO_5.out BK127.out (by decide))) | (show (Addr.add _ _).block ≠ _; rw [add_block]; exact Kd.own_blk (Kd.R_ne HO_5.out BK127.out (by decide))) | (dsimp only; exact Kd.own_blk (Kd.R_ne HO_5.out BK127.out (by decide)))) _).trans (((cell_far (p := ⟨gb127, _, none⟩) (by first | exact Kd.own_blk (Kd.R_ne HO_5.out BK127.out (by decide)) | (rw [add_block]; exact Kd.own_blk (Kd.R_ne HO_5.out BK127.out (by decide))) | (show (Addr.add _ _).block ≠ _; rw [add_block]; exact Kd.own_blk (Kd.R_ne HO_5.out BK127.out (by decide))) | (dsimp only; exact Kd.own_blk (Kd.R_ne HO_5.out BK127.out (by decide)))) _).trans (((cell_far (p := ⟨gb127, _, none⟩) (by first | exact Kd.own_blk (Kd.R_ne HO_5.out BK127.out (by decide)) | (rw [add_block]; exact Kd.own_blk (Kd.R_ne HO_5.out BK127.out (by decide))) | (show (Addr.add _ _).block ≠ _; rw [add_block]; exact Kd.own_blk (Kd.R_ne HO_5.out BK127.out (by decide))) | (dsimp only; exact Kd.own_blk (Kd.R_ne HO_5.out BK127.out (by decide)))) _).trans (((cell_far (p := ⟨gb127, _, none⟩) (by first | exact Kd.own_blk (Kd.R_ne HO_5.out BK127.out (by decide)) | (rw [add_block]; exact Kd.own_blk (Kd.R_ne HO_5.out BK127.out (by decide))) | (show (Addr.add _ _).block ≠ _; rw [add_block]; exact Kd.own_blk (Kd.R_ne HO_5.out BK127.out (by decide))) | (dsimp only; exact Kd.own_blk (Kd.R_ne HO_5.out BK127.out (by decide)))) _).trans (((cell_far (p := ⟨gb127, _, none⟩) (by first | exact Kd.own_blk (Kd.R_ne HO_5.out BK127.out (by decide)) | (rw [add_block]; exact Kd.own_blk (Kd.R_ne HO_5.out BK127.out (by decide))) | (show (Addr.add _ _).block ≠ _; rw [add_block]; exact Kd.own_blk (Kd.R_ne HO_5.out BK127.out (by decide))) | (dsimp only; exact Kd.own_blk (Kd.R_ne HO_5.out BK127.out (by decide)))) _).trans (((cell_far (p := ⟨gb127, _, none⟩) (by first | exact Kd.own_blk (Kd.R_ne HO_5.out BK127.out (by decide)) | (rw [add_block]; exact Kd.own_blk (Kd.R_ne HO_5.out BK127.out (by decide))) | (show (Addr.add _ _).block ≠ _; rw [add_block]; exact Kd.own_blk (Kd.R_ne HO_5.out BK127.out (by decide))) | (dsimp only; exact Kd.own_blk (Kd.R_ne HO_5.out BK127.out (by decide)))) _).trans (((cell_far (p := ⟨gb127, _, none⟩) (by first | exact Kd.own_blk (Kd.R_ne HO_5.out BK127.out (by decide)) | (rw [add_block]; exact Kd.own_blk (Kd.R_ne HO_5.out BK127.out (by decide))) | (show (Addr.add _ _).block ≠ _; rw [add_block]; exact Kd.own_blk (Kd.R_ne HO_5.out BK127.out (by decide))) | (dsimp only; exact Kd.own_blk (Kd.R_ne HO_5.out BK127.out (by decide)))) _).trans (((cell_far (p := ⟨gb127, _, none⟩) (by first | exact Kd.own_blk (Kd.R_ne HO_5.out BK127.out (by decide)) | (rw [add_block]; exact Kd.own_blk (Kd.R_ne HO_5.out BK127.out (by decide))) | (show (Addr.add _ _).block ≠ _; rw [add_block]; exact Kd.own_blk (Kd.R_ne HO_5.out BK127.out (by decide))) | (dsimp only; exact Kd.own_blk (Kd.R_ne HO_5.out BK127.out (by decide)))) _).trans (((cell_far (p := ⟨gb127, _, none⟩) (by first | exact Kd.own_blk (Kd.R_ne HO_5.out BK127.out (by decide)) | (rw [add_block]; exact Kd.own_blk (Kd.R_ne HO_5.out BK127.out (by decide))) | (show (Addr.add _ _).block ≠ _; rw [add_block]; exact Kd.own_blk (Kd.R_ne HO_5.out BK127.out (by decide))) | (dsimp only; exact Kd.own_blk (Kd.R_ne HO_5.out BK127.out (by decide)))) _).trans (hHeld.2.2.2.2.2.2.2.2.2.2))))))))))))))))))⟩ (fun hHeld => ?_)
      clear hK K
      refine done_ (done_of HT_.out (by kernel_rfl)) ?_
      obtain ⟨Ao53, co53, eo53⟩ := Kd.R_slice HO_7.out
      subst eo53
      go_upto_region 12 with (first | ((with_reducible refine gate_callee (f := 92) rfl ?_); refine goesL_ (some 72) rfl rfl Try.func92 (by kernel_rfl) rfl #[.slice Ao53 t111.length co53] rfl (by (try simp only [List.map_toArray, List.map_cons, List.map_nil]); first | done | rfl | (simp only [List.length_drop, List.length_take]; rfl)) ?_; (with_reducible refine (fhist_differences.calls _ _ t111 t128 t129 _ ?side1 ?side2 A31.out).mono ?_); (case side1 => refine (Kd.R_reads' (e := 22) (base := w.heap.size) (ok := fun k_ => (some k_ ≠ (.slice (some ad119) t107.length co35 : Value).ownBlock ∧ some k_ ≠ (v117 : Value).ownBlock)) (n := t111.length) (c := co53) ?_).2.2; exact (Kd.R_u (Kd.R_mono (Kd.R_far (p := ⟨gb127, 8, none⟩) (Kd.R_far (p := ⟨gb127, 7, none⟩) (Kd.R_far (p := ⟨gb127, 6, none⟩) (Kd.R_far (p := ⟨gb127, 5, none⟩) (Kd.R_far (p := ⟨gb127, 4, none⟩) (Kd.R_far (p := ⟨gb127, 3, none⟩) (Kd.R_far (p := ⟨gb127, 2, none⟩) (Kd.R_far (p := ⟨gb127, 1, none⟩) (Kd.R_far (p := ⟨gb127, 0, none⟩) (Kd.R_types HO_7.out BK127.out (by decide)) (fun _ hk => hk.2) (.int .i64 a0_0)) (fun _ hk => hk.2) (.int .u64 a0_1)) (fun _ hk => hk.2) (.int .u64 (rd t107 0))) (fun _ hk => hk.2) (.int .u64 (rd t107 1))) (fun _ hk => hk.2) (.int .u64 a0_4)) (fun _ hk => hk.2) (.slice Ao43 t121.length co43)) (fun _ hk => hk.2) (.slice Ao42 t124.length co42)) (fun _ hk => hk.2) (.slice none 0 0)) (fun _ hk => hk.2) (.slice none 0 0)) (fun _ h_ => h_.1)))); (case side2 => exact (Kd.R_reads' HO_7.out).2.1); rintro e w54 ⟨v130, rfl, ho0, hb⟩; refine ⟨_, rfl, ?_⟩; have n0_ := Aside0.mk (Kd.R_below (Kd.R_u (Kd.R_mono (Kd.R_far (p := ⟨gb127, 8, none⟩) (Kd.R_far (p := ⟨gb127, 7, none⟩) (Kd.R_far (p := ⟨gb127, 6, none⟩) (Kd.R_far (p := ⟨gb127, 5, none⟩) (Kd.R_far (p := ⟨gb127, 4, none⟩) (Kd.R_far (p := ⟨gb127, 3, none⟩) (Kd.R_far (p := ⟨gb127, 2, none⟩) (Kd.R_far (p := ⟨gb127, 1, none⟩) (Kd.R_far (p := ⟨gb127, 0, none⟩) (Kd.R_types HO_5.out BK127.out (by decide)) (fun _ hk => hk.2) (.int .i64 a0_0)) (fun _ hk => hk.2) (.int .u64 a0_1)) (fun _ hk => hk.2) (.int .u64 (rd t107 0))) (fun _ hk => hk.2) (.int .u64 (rd t107 1))) (fun _ hk => hk.2) (.int .u64 a0_4)) (fun _ hk => hk.2) (.slice Ao43 t121.length co43)) (fun _ hk => hk.2) (.slice Ao42 t124.length co42)) (fun _ hk => hk.2) (.slice none 0 0)) (fun _ hk => hk.2) (.slice none 0 0)) (fun _ h_ => h_.1))) hb); have n1_ := Aside0.mk (Kd.R_below (Kd.R_u (Kd.R_mono (Kd.R_far (p := ⟨gb127, 8, none⟩) (Kd.R_far (p := ⟨gb127, 7, none⟩) (Kd.R_far (p := ⟨gb127, 6, none⟩) (Kd.R_far (p := ⟨gb127, 5, none⟩) (Kd.R_far (p := ⟨gb127, 4, none⟩) (Kd.R_far (p := ⟨gb127, 3, none⟩) (Kd.R_far (p := ⟨gb127, 2, none⟩) (Kd.R_far (p := ⟨gb127, 1, none⟩) (Kd.R_far (p := ⟨gb127, 0, none⟩) (Kd.R_types HO_7.out BK127.out (by decide)) (fun _ hk => hk.2) (.int .i64 a0_0)) (fun _ hk => hk.2) (.int .u64 a0_1)) (fun _ hk => hk.2) (.int .u64 (rd t107 0))) (fun _ hk => hk.2) (.int .u64 (rd t107 1))) (fun _ hk => hk.2) (.int .u64 a0_4)) (fun _ hk => hk.2) (.slice Ao43 t121.length co43)) (fun _ hk => hk.2) (.slice Ao42 t124.length co42)) (fun _ hk => hk.2) (.slice none 0 0)) (fun _ hk => hk.2) (.slice none 0 0)) (fun _ h_ => h_.1))) hb); have n2_ := Aside0.mk (Kd.R_below (Kd.R_u (Kd.R_mono (Kd.R_far (p := ⟨gb127, 8, none⟩) (Kd.R_far (p := ⟨gb127, 7, none⟩) (Kd.R_far (p := ⟨gb127, 6, none⟩) (Kd.R_far (p := ⟨gb127, 5, none⟩) (Kd.R_far (p := ⟨gb127, 4, none⟩) (Kd.R_far (p := ⟨gb127, 3, none⟩) (Kd.R_far (p := ⟨gb127, 2, none⟩) (Kd.R_far (p := ⟨gb127, 1, none⟩) (Kd.R_far (p := ⟨gb127, 0, none⟩) (Kd.R_types HO_9.out BK127.out (by decide)) (fun _ hk => hk.2) (.int .i64 a0_0)) (fun _ hk => hk.2) (.int .u64 a0_1)) (fun _ hk => hk.2) (.int .u64 (rd t107 0))) (fun _ hk => hk.2) (.int .u64 (rd t107 1))) (fun _ hk => hk.2) (.int .u64 a0_4)) (fun _ hk => hk.2) (.slice Ao43 t121.length co43)) (fun _ hk => hk.2) (.slice Ao42 t124.length co42)) (fun _ hk => hk.2) (.slice none 0 0)) (fun _ hk => hk.2) (.slice none 0 0)) (fun _ h_ => h_.1))) hb); have n3_ := Aside0.mk (Kd.R_below (Kd.R_u (Kd.R_mono (Kd.R_far (p := ⟨gb127, 8, none⟩) (Kd.R_far (p := ⟨gb127, 7, none⟩) (Kd.R_far (p := ⟨gb127, 6, none⟩) (Kd.R_far (p := ⟨gb127, 5, none⟩) (Kd.R_far (p := ⟨gb127, 4, none⟩) (Kd.R_far (p := ⟨gb127, 3, none⟩) (Kd.R_far (p := ⟨gb127, 2, none⟩) (Kd.R_far (p := ⟨gb127, 1, none⟩) (Kd.R_far (p := ⟨gb127, 0, none⟩) (Kd.R_types HO123.out BK127.out (by decide)) (fun _ hk => hk.2) (.int .i64 a0_0)) (fun _ hk => hk.2) (.int .u64 a0_1)) (fun _ hk => hk.2) (.int .u64 (rd t107 0))) (fun _ hk => hk.2) (.int .u64 (rd t107 1))) (fun _ hk => hk.2) (.int .u64 a0_4)) (fun _ hk => hk.2) (.slice Ao43 t121.length co43)) (fun _ hk => hk.2) (.slice Ao42 t124.length co42)) (fun _ hk => hk.2) (.slice none 0 0)) (fun _ hk => hk.2) (.slice none 0 0)) (fun _ h_ => h_.1))) hb); have n4_ := Aside0.mk (Kd.R_below (Kd.R_u (Kd.R_mono (Kd.R_far (p := ⟨gb127, 8, none⟩) (Kd.R_far (p := ⟨gb127, 7, none⟩) (Kd.R_far (p := ⟨gb127, 6, none⟩) (Kd.R_far (p := ⟨gb127, 5, none⟩) (Kd.R_far (p := ⟨gb127, 4, none⟩) (Kd.R_far (p := ⟨gb127, 3, none⟩) (Kd.R_far (p := ⟨gb127, 2, none⟩) (Kd.R_far (p := ⟨gb127, 1, none⟩) (Kd.R_far (p := ⟨gb127, 0, none⟩) (Kd.R_types HO126.out BK127.out (by decide)) (fun _ hk => hk.2) (.int .i64 a0_0)) (fun _ hk => hk.2) (.int .u64 a0_1)) (fun _ hk => hk.2) (.int .u64 (rd t107 0))) (fun _ hk => hk.2) (.int .u64 (rd t107 1))) (fun _ hk => hk.2) (.int .u64 a0_4)) (fun _ hk => hk.2) (.slice Ao43 t121.length co43)) (fun _ hk => hk.2) (.slice Ao42 t124.length co42)) (fun _ hk => hk.2) (.slice none 0 0)) (fun _ hk => hk.2) (.slice none 0 0)) (fun _ h_ => h_.1))) hb); have HO131 := Aside0.mk (Kd.R_lower ho0 (below_size (by repeat (first | (with_reducible first | exact HB.out | refine below_q ?_ | refine below_set ?_ GE101.out | refine below_set ?_ GE102.out | refine below_set ?_ GE127.out) | exact HB.out)))); replace BK101 := Aside0.mk (blk_below (g := gb101) (o := .cells #[.int .i64 a0_0, .int .u64 a0_1, .int .u64 a0_2, .int .u64 a0_3, .int .u64 a0_4, .slice A0_5 l0_5.length c0_5, .slice A0_6 l0_6.length c0_6, .slice A0_7 l0_7.length c0_7, .slice A0_8 l0_8.length c0_8] 31 (0, 0)) (by (repeat with_reducible refine blk_q ?_); refine blk_far ?_ NB101_127.out _; (repeat with_reducible refine blk_q ?_); refine blk_far ?_ NB101_127.out _; (repeat with_reducible refine blk_q ?_); refine blk_far ?_ NB101_127.out _; (repeat with_reducible refine blk_q ?_); refine blk_far ?_ NB101_127.out _; (repeat with_reducible refine blk_q ?_); refine blk_far ?_ NB101_127.out _; (repeat with_reducible refine blk_q ?_); refine blk_far ?_ NB101_127.out _; (repeat with_reducible refine blk_q ?_); refine blk_far ?_ NB101_127.out _; (repeat with_reducible refine blk_q ?_); refine blk_far ?_ NB101_127.out _; (repeat with_reducible refine blk_q ?_); refine blk_far ?_ NB101_127.out _; (repeat with_reducible refine blk_q ?_); exact BK101.out) hb); replace BK102 := Aside0.mk (blk_below (g := gb102) (o := .cells #[.int .i64 0, .int .u64 0, .int .u64 0, .int .u64 0, .int .u64 0, .slice none 0 0, .slice none 0 0, .slice none 0 0, .slice none 0 0] 26 (0, 0)) (by (repeat with_reducible refine blk_q ?_); refine blk_far ?_ NB102_127.out _; (repeat with_reducible refine blk_q ?_); refine blk_far ?_ NB102_127.out _; (repeat with_reducible refine blk_q ?_); refine blk_far ?_ NB102_127.out _; (repeat with_reducible refine blk_q ?_); refine blk_far ?_ NB102_127.out _; (repeat with_reducible refine blk_q ?_); refine blk_far ?_ NB102_127.out _; (repeat with_reducible refine blk_q ?_); refine blk_far ?_ NB102_127.out _; (repeat with_reducible refine blk_q ?_); refine blk_far ?_ NB102_127.out _; (repeat with_reducible refine blk_q ?_); refine blk_far ?_ NB102_127.out _; (repeat with_reducible refine blk_q ?_); refine blk_far ?_ NB102_127.out _; (repeat with_reducible refine blk_q ?_); exact BK102.out) hb); replace BK127 := Aside0.mk (blk_below (g := gb127) (o := .cells #[.int .i64 a0_0, .int .u64 a0_1, .int .u64 (rd t107 0), .int .u64 (rd t107 1), .int .u64 a0_4, .slice Ao43 t121.length co43, .slice Ao42 t124.length co42, .slice none 0 0, .slice none 0 0] 26 (0, 0)) (by (repeat with_reducible refine blk_q ?_); refine blk_put (cs := #[.int .i64 a0_0, .int .u64 a0_1, .int .u64 (rd t107 0), .int .u64 (rd t107 1), .int .u64 a0_4, .slice Ao43 t121.length co43, .slice Ao42 t124.length co42, .slice none 0 0, .slice none 0 0]) ?_ 8 _ rfl; (repeat with_reducible refine blk_q ?_); refine blk_put (cs := #[.int .i64 a0_0, .int .u64 a0_1, .int .u64 (rd t107 0), .int .u64 (rd t107 1), .int .u64 a0_4, .slice Ao43 t121.length co43, .slice Ao42 t124.length co42, .slice none 0 0, .slice none 0 0]) ?_ 7 _ rfl; (repeat with_reducible refine blk_q ?_); refine blk_put (cs := #[.int .i64 a0_0, .int .u64 a0_1, .int .u64 (rd t107 0), .int .u64 (rd t107 1), .int .u64 a0_4, .slice Ao43 t121.length co43, .slice none 0 0, .slice none 0 0, .slice none 0 0]) ?_ 6 _ rfl; (repeat with_reducible refine blk_q ?_); refine blk_put (cs := #[.int .i64 a0_0, .int .u64 a0_1, .int .u64 (rd t107 0), .int .u64 (rd t107 1), .int .u64 a0_4, .slice none 0 0, .slice none 0 0, .slice none 0 0, .slice none 0 0]) ?_ 5 _ rfl; (repeat with_reducible refine blk_q ?_); refine blk_put (cs := #[.int .i64 a0_0, .int .u64 a0_1, .int .u64 (rd t107 0), .int .u64 (rd t107 1), .int .u64 0, .slice none 0 0, .slice none 0 0, .slice none 0 0, .slice none 0 0]) ?_ 4 _ rfl; (repeat with_reducible refine blk_q ?_); refine blk_put (cs := #[.int .i64 a0_0, .int .u64 a0_1, .int .u64 (rd t107 0), .int .u64 0, .int .u64 0, .slice none 0 0, .slice none 0 0, .slice none 0 0, .slice none 0 0]) ?_ 3 _ rfl; (repeat with_reducible refine blk_q ?_); refine blk_put (cs := #[.int .i64 a0_0, .int .u64 a0_1, .int .u64 0, .int .u64 0, .int .u64 0, .slice none 0 0, .slice none 0 0, .slice none 0 0, .slice none 0 0]) ?_ 2 _ rfl; (repeat with_reducible refine blk_q ?_); refine blk_put (cs := #[.int .i64 a0_0, .int .u64 0, .int .u64 0, .int .u64 0, .int .u64 0, .slice none 0 0, .slice none 0 0, .slice none 0 0, .slice none 0 0]) ?_ 1 _ rfl; (repeat with_reducible refine blk_q ?_); refine blk_put (cs := #[.int .i64 0, .int .u64 0, .int .u64 0, .int .u64 0, .int .u64 0, .slice none 0 0, .slice none 0 0, .slice none 0 0, .slice none 0 0]) ?_ 0 _ rfl; (repeat with_reducible refine blk_q ?_); exact BK127.out) hb); replace HB := Aside0.mk (below_step (by repeat (first | (with_reducible first | exact HB.out | refine below_q ?_ | refine below_set ?_ GE101.out | refine below_set ?_ GE102.out | refine below_set ?_ GE127.out) | exact HB.out)) hb); clear HO_5; have HO_5 := n0_; clear n0_; clear HO_7; have HO_7 := n1_; clear n1_; clear HO_9; have HO_9 := n2_; clear n2_; clear HO123; have HO123 := n3_; clear n3_; clear HO126; have HO126 := n4_; clear n4_; (try clear hb); (try clear hb2); (try clear hk); (try clear hi); (try clear ho0); clear A31; obtain ⟨Ao55, co55, eo55⟩ := Kd.R_slice HO131.out; subst eo55; have hnb56 := NB127_101.out; have hnc56 := NB101_127.out; have hnb57 := NB127_102.out; have hnc57 := NB102_127.out; have hcz58_0 := blk_cell BK127.out; have hfz58_0 := blk_frozen BK127.out; obtain ⟨Ao59, co59, eo59⟩ := Kd.R_slice HO_9.out; subst eo59) | ((with_reducible refine gate_callee (f := 92) rfl ?_); refine goesL_ (some 78) rfl rfl Try.func92 (by kernel_rfl) rfl #[.slice Ao59 t115.length co59] rfl (by (try simp only [List.map_toArray, List.map_cons, List.map_nil]); first | done | rfl | (simp only [List.length_drop, List.length_take]; rfl)) ?_; (with_reducible refine (fhist_differences.calls _ _ t115 t132 t133 _ ?side1 ?side2 A32.out).mono ?_); (case side1 => refine (Kd.R_reads' (e := 22) (base := w.heap.size) (ok := fun k_ => (some k_ ≠ (.slice (some ad119) t107.length co35 : Value).ownBlock ∧ some k_ ≠ (.slice Ao53 t111.length co53 : Value).ownBlock)) (n := t115.length) (c := co59) ?_).2.2; exact (Kd.R_u (Kd.R_mono (Kd.R_far (p := ⟨gb127, 7, none⟩) (Kd.R_types HO_9.out BK127.out (by decide)) (fun _ hk => hk.2) (.slice Ao55 t128.length co55)) (fun _ h_ => h_.1)))); (case side2 => exact (Kd.R_reads' HO_9.out).2.1); rintro e w60 ⟨v134, rfl, ho0, hb⟩; refine ⟨_, rfl, ?_⟩; have n0_ := Aside0.mk (Kd.R_below (Kd.R_u (Kd.R_mono (Kd.R_far (p := ⟨gb127, 7, none⟩) (Kd.R_types HO_5.out BK127.out (by decide)) (fun _ hk => hk.2) (.slice Ao55 t128.length co55)) (fun _ h_ => h_.1))) hb); have n1_ := Aside0.mk (Kd.R_below (Kd.R_u (Kd.R_mono (Kd.R_far (p := ⟨gb127, 7, none⟩) (Kd.R_types HO_7.out BK127.out (by decide)) (fun _ hk => hk.2) (.slice Ao55 t128.length co55)) (fun _ h_ => h_.1))) hb); have n2_ := Aside0.mk (Kd.R_below (Kd.R_u (Kd.R_mono (Kd.R_far (p := ⟨gb127, 7, none⟩) (Kd.R_types HO_9.out BK127.out (by decide)) (fun _ hk => hk.2) (.slice Ao55 t128.length co55)) (fun _ h_ => h_.1))) hb); have n3_ := Aside0.mk (Kd.R_below (Kd.R_u (Kd.R_mono (Kd.R_far (p := ⟨gb127, 7, none⟩) (Kd.R_types HO123.out BK127.out (by decide)) (fun _ hk => hk.2) (.slice Ao55 t128.length co55)) (fun _ h_ => h_.1))) hb); have n4_ := Aside0.mk (Kd.R_below (Kd.R_u (Kd.R_mono (Kd.R_far (p := ⟨gb127, 7, none⟩) (Kd.R_types HO126.out BK127.out (by decide)) (fun _ hk => hk.2) (.slice Ao55 t128.length co55)) (fun _ h_ => h_.1))) hb); have n5_ := Aside0.mk (Kd.R_elder' (Kd.R_u (Kd.R_mono (Kd.R_far (p := ⟨gb127, 7, none⟩) (Kd.R_types HO131.out BK127.out (by decide)) (fun _ hk => hk.2) (.slice Ao55 t128.length co55)) (fun _ h_ => h_.1))) (Kd.R_base ho0) hb); have HO135 := Aside0.mk (Kd.R_lower (Kd.R_new' ho0 (Kd.R_lt (Kd.R_u (Kd.R_mono (Kd.R_far (p := ⟨gb127, 7, none⟩) (Kd.R_types HO131.out BK127.out (by decide)) (fun _ hk => hk.2) (.slice Ao55 t128.length co55)) (fun _ h_ => h_.1))))) (below_size (by repeat (first | (with_reducible first | exact HB.out | refine below_q ?_ | refine below_set ?_ GE101.out | refine below_set ?_ GE102.out | refine below_set ?_ GE127.out) | exact HB.out)))); replace BK101 := Aside0.mk (blk_below (g := gb101) (o := .cells #[.int .i64 a0_0, .int .u64 a0_1, .int .u64 a0_2, .int .u64 a0_3, .int .u64 a0_4, .slice A0_5 l0_5.length c0_5, .slice A0_6 l0_6.length c0_6, .slice A0_7 l0_7.length c0_7, .slice A0_8 l0_8.length c0_8] 31 (0, 0)) (by (repeat with_reducible refine blk_q ?_); refine blk_far ?_ NB101_127.out _; (repeat with_reducible refine blk_q ?_); exact BK101.out) hb); replace BK102 := Aside0.mk (blk_below (g := gb102) (o := .cells #[.int .i64 0, .int .u64 0, .int .u64 0, .int .u64 0, .int .u64 0, .slice none 0 0, .slice none 0 0, .slice none 0 0, .slice none 0 0] 26 (0, 0)) (by (repeat with_reducible refine blk_q ?_); refine blk_far ?_ NB102_127.out _; (repeat with_reducible refine blk_q ?_); exact BK102.out) hb); replace BK127 := Aside0.mk (blk_below (g := gb127) (o := .cells #[.int .i64 a0_0, .int .u64 a0_1, .int .u64 (rd t107 0), .int .u64 (rd t107 1), .int .u64 a0_4, .slice Ao43 t121.length co43, .slice Ao42 t124.length co42, .slice Ao55 t128.length co55, .slice none 0 0] 26 (0, 0)) (by (repeat with_reducible refine blk_q ?_); refine blk_put (cs := #[.int .i64 a0_0, .int .u64 a0_1, .int .u64 (rd t107 0), .int .u64 (rd t107 1), .int .u64 a0_4, .slice Ao43 t121.length co43, .slice Ao42 t124.length co42, .slice none 0 0, .slice none 0 0]) ?_ 7 _ rfl; (repeat with_reducible refine blk_q ?_); exact BK127.out) hb); replace HB := Aside0.mk (below_step (by repeat (first | (with_reducible first | exact HB.out | refine below_q ?_ | refine below_set ?_ GE101.out | refine below_set ?_ GE102.out | refine below_set ?_ GE127.out) | exact HB.out)) hb); clear HO_5; have HO_5 := n0_; clear n0_; clear HO_7; have HO_7 := n1_; clear n1_; clear HO_9; have HO_9 := n2_; clear n2_; clear HO123; have HO123 := n3_; clear n3_; clear HO126; have HO126 := n4_; clear n4_; clear HO131; have HO131 := n5_; clear n5_; (try clear hb); (try clear hb2); (try clear hk); (try clear hi); (try clear ho0); clear A32; obtain ⟨Ao61, co61, eo61⟩ := Kd.R_slice HO135.out; subst eo61; have hcz62_0 := blk_cell BK127.out; have hfz62_0 := blk_frozen BK127.out))
      (try simp only [Act.put, List.setIfInBounds_toArray, List.set_cons_zero, List.set_cons_succ])
      go_cut [87] (fun v87 wc => ∃ (kq : Nat) (x87_32 : Bool), v87 = .bool x87_32 ∧ Aside0 (fhist_Back.j1 kq x87_32 a0_0 a0_1 (rd t107 0) (rd t107 1) a0_4 t121 t124 t128 t132 = some (r1, r2, r3, r4, r5, r6, r7, r8, r9, r10)) ∧ Aside0 (kq ≤ kj6) ∧ Aside0 (Kd.R k86 86 wc w.heap.size (fun k_ => some k_ ≠ ((.slice Ao42 t124.length co42) : Value).ownBlock) (.slice Ao43 t121.length co43) t121) ∧ Aside0 (Kd.R k86 86 wc w.heap.size (fun k_ => some k_ ≠ ((.slice Ao43 t121.length co43) : Value).ownBlock) (.slice Ao42 t124.length co42) t124) ∧ Aside0 (Kd.R (Kd.int .i64) 2 wc w.heap.size (fun k_ => some k_ ≠ ((.slice Ao61 t132.length co61) : Value).ownBlock) (.slice Ao55 t128.length co55) t128) ∧ Aside0 (Kd.R (Kd.int .i64) 2 wc w.heap.size (fun k_ => some k_ ≠ ((.slice Ao55 t128.length co55) : Value).ownBlock) (.slice Ao61 t132.length co61) t132) ∧ Aside0 (wc.heap[gb101]? = some (.cells #[.int .i64 a0_0, .int .u64 a0_1, .int .u64 a0_2, .int .u64 a0_3, .int .u64 a0_4, (.slice A0_5 l0_5.length c0_5), (.slice A0_6 l0_6.length c0_6), (.slice A0_7 l0_7.length c0_7), (.slice A0_8 l0_8.length c0_8)] 31 (0, 0))) ∧ Aside0 (wc.heap[gb102]? = some (.cells #[.int .i64 0, .int .u64 0, .int .u64 0, .int .u64 0, .int .u64 0, (.slice none 0 0), (.slice none 0 0), (.slice none 0 0), (.slice none 0 0)] 26 (0, 0))) ∧ Aside0 (wc.heap[gb127]? = some (.cells #[.int .i64 a0_0, .int .u64 a0_1, .int .u64 (rd t107 0), .int .u64 (rd t107 1), .int .u64 a0_4, (.slice Ao43 t121.length co43), (.slice Ao42 t124.length co42), (.slice Ao55 t128.length co55), (.slice Ao61 t132.length co61)] 26 (0, 0))) ∧ Aside0 (Below w.heap.size w wc))
      case first =>
       have H := HC33.out
       clear HC33
       by_cases c63 : t129 = true
       ·subst c63
        have H1 : (fhist_Back.j1 kj6 (!t133) a0_0 a0_1 (rd t107 0) (rd t107 1) a0_4 t121 t124 t128 t132) = some (r1, r2, r3, r4, r5, r6, r7, r8, r9, r10) := by rw [if_pos rfl] at H; exact H
        clear H
        have H := H1
        clear H1
        have H' := Aside0.mk H
        clear H
        go_wp2
        go_meet
        case rel => exact ⟨_, (!t133), (by first | rfl | (simp; done) | (simp [*]; done)), H', ⟨by have := HJ6.out; first | omega | exact Nat.le_refl _⟩, ⟨by (repeat with_reducible refine Kd.R_q ?_); exact Kd.R_mono (Kd.R_far (p := ⟨gb127, 8, none⟩) (Kd.R_types HO123.out BK127.out (by decide)) (fun _ hk => hk.2) (.slice Ao61 t132.length co61)) (fun _ hk => hk.1)⟩, ⟨by (repeat with_reducible refine Kd.R_q ?_); exact Kd.R_mono (Kd.R_far (p := ⟨gb127, 8, none⟩) (Kd.R_types HO126.out BK127.out (by decide)) (fun _ hk => hk.2) (.slice Ao61 t132.length co61)) (fun _ hk => hk.1)⟩, ⟨by (repeat with_reducible refine Kd.R_q ?_); exact Kd.R_mono (Kd.R_far (p := ⟨gb127, 8, none⟩) (Kd.R_types HO131.out BK127.out (by decide)) (fun _ hk => hk.2) (.slice Ao61 t132.length co61)) (fun _ hk => hk.1.2)⟩, ⟨by (repeat with_reducible refine Kd.R_q ?_); exact Kd.R_mono (Kd.R_far (p := ⟨gb127, 8, none⟩) (Kd.R_types HO135.out BK127.out (by decide)) (fun _ hk => hk.2) (.slice Ao61 t132.length co61)) (fun _ hk => hk.1.2)⟩, ⟨by (repeat with_reducible refine blk_q ?_); refine blk_far ?_ NB101_127.out _; (repeat with_reducible refine blk_q ?_); exact BK101.out⟩, ⟨by (repeat with_reducible refine blk_q ?_); refine blk_far ?_ NB102_127.out _; (repeat with_reducible refine blk_q ?_); exact BK102.out⟩, ⟨by (repeat with_reducible refine blk_q ?_); refine blk_put (cs := #[.int .i64 a0_0, .int .u64 a0_1, .int .u64 (rd t107 0), .int .u64 (rd t107 1), .int .u64 a0_4, .slice Ao43 t121.length co43, .slice Ao42 t124.length co42, .slice Ao55 t128.length co55, .slice none 0 0]) ?_ 8 _ rfl; (repeat with_reducible refine blk_q ?_); exact BK127.out⟩, ⟨by repeat (first | (with_reducible first | exact HB.out | apply below_alloc | apply pw_below_drewN | apply below_drew1 | refine below_set ?_ GE101.out | refine below_set ?_ GE102.out | refine below_set ?_ GE127.out) | exact HB.out)⟩⟩
       replace c63 := Bool.eq_false_iff.mpr c63
       subst c63
       have H1 : (fhist_Back.j1 kj6 true a0_0 a0_1 (rd t107 0) (rd t107 1) a0_4 t121 t124 t128 t132) = some (r1, r2, r3, r4, r5, r6, r7, r8, r9, r10) := by rw [if_neg (show ¬ (false = true) by decide)] at H; exact H
       clear H
       have H := H1
       clear H1
       have H' := Aside0.mk H
       clear H
       go_wp2
       go_meet
       case rel => exact ⟨_, (true), (by first | rfl | (simp; done) | (simp [*]; done)), H', ⟨by have := HJ6.out; first | omega | exact Nat.le_refl _⟩, ⟨by (repeat with_reducible refine Kd.R_q ?_); exact Kd.R_mono (Kd.R_far (p := ⟨gb127, 8, none⟩) (Kd.R_types HO123.out BK127.out (by decide)) (fun _ hk => hk.2) (.slice Ao61 t132.length co61)) (fun _ hk => hk.1)⟩, ⟨by (repeat with_reducible refine Kd.R_q ?_); exact Kd.R_mono (Kd.R_far (p := ⟨gb127, 8, none⟩) (Kd.R_types HO126.out BK127.out (by decide)) (fun _ hk => hk.2) (.slice Ao61 t132.length co61)) (fun _ hk => hk.1)⟩, ⟨by (repeat with_reducible refine Kd.R_q ?_); exact Kd.R_mono (Kd.R_far (p := ⟨gb127, 8, none⟩) (Kd.R_types HO131.out BK127.out (by decide)) (fun _ hk => hk.2) (.slice Ao61 t132.length co61)) (fun _ hk => hk.1.2)⟩, ⟨by (repeat with_reducible refine Kd.R_q ?_); exact Kd.R_mono (Kd.R_far (p := ⟨gb127, 8, none⟩) (Kd.R_types HO135.out BK127.out (by decide)) (fun _ hk => hk.2) (.slice Ao61 t132.length co61)) (fun _ hk => hk.1.2)⟩, ⟨by (repeat with_reducible refine blk_q ?_); refine blk_far ?_ NB101_127.out _; (repeat with_reducible refine blk_q ?_); exact BK101.out⟩, ⟨by (repeat with_reducible refine blk_q ?_); refine blk_far ?_ NB102_127.out _; (repeat with_reducible refine blk_q ?_); exact BK102.out⟩, ⟨by (repeat with_reducible refine blk_q ?_); refine blk_put (cs := #[.int .i64 a0_0, .int .u64 a0_1, .int .u64 (rd t107 0), .int .u64 (rd t107 1), .int .u64 a0_4, .slice Ao43 t121.length co43, .slice Ao42 t124.length co42, .slice Ao55 t128.length co55, .slice none 0 0]) ?_ 8 _ rfl; (repeat with_reducible refine blk_q ?_); exact BK127.out⟩, ⟨by repeat (first | (with_reducible first | exact HB.out | apply below_alloc | apply pw_below_drewN | apply below_drew1 | refine below_set ?_ GE101.out | refine below_set ?_ GE102.out | refine below_set ?_ GE127.out) | exact HB.out)⟩⟩
      case rest =>
       clear HC33
       try clear p2
       try clear c5
       try clear c6
       try clear c9
       try clear c51
       try clear c56
       try clear c57
       try clear c63
       try clear hcz58_0
       try clear hcz62_0
       try clear hfz58_0
       try clear hfz62_0
       obtain ⟨kq, x87_32, rfl, HA, HJ32, HO_128005, HO_128006, HO_128007, HO_128008, BK101, BK102, BK127, HB⟩ := hcut
       cases kq with
       | zero => exact absurd HA.out (by simp [fhist_Back.j1])
       | succ kj32 =>
        have H := HA.out
        clear HA
        simp only [fhist_Back.j1] at H
        by_cases c64 : x87_32 = true
        ·subst c64
         have H1 : (some (0, 0, 0, 0, 0, ([] : List (S86)), ([] : List (S86)), ([] : List Int), ([] : List Int), 28)) = some (r1, r2, r3, r4, r5, r6, r7, r8, r9, r10) := by rw [if_pos rfl] at H; exact H
         clear H
         have H := H1
         clear H1
         simp only [Option.some.injEq, Prod.mk.injEq] at H
         obtain ⟨rfl, rfl, rfl, rfl, rfl, rfl, rfl, rfl, rfl, rfl⟩ := H
         have hnb65 := NB102_101.out
         have hnc65 := NB101_102.out
         have hnb66 := NB102_127.out
         have hnc66 := NB127_102.out
         have hcz67_0 := blk_cell BK102.out
         have hfz67_0 := blk_frozen BK102.out
         go_wp2
         refine bodyPost_ret (results_ct rfl _ _ gb102 26 #[.int .i64 0, .int .u64 0, .int .u64 0, .int .u64 0, .int .u64 0, .slice none 0 0, .slice none 0 0, .slice none 0 0, .slice none 0 0] (0, 0) _ rfl (by (repeat with_reducible refine blk_q ?_); refine blk_put (cs := #[.int .i64 0, .int .u64 0, .int .u64 0, .int .u64 0, .int .u64 0, .slice none 0 0, .slice none 0 0, .slice none 0 0, .slice none 0 0]) ?_ 8 _ rfl; (repeat with_reducible refine blk_q ?_); refine blk_put (cs := #[.int .i64 0, .int .u64 0, .int .u64 0, .int .u64 0, .int .u64 0, .slice none 0 0, .slice none 0 0, .slice none 0 0, .slice none 0 0]) ?_ 7 _ rfl; (repeat with_reducible refine blk_q ?_); refine blk_put (cs := #[.int .i64 0, .int .u64 0, .int .u64 0, .int .u64 0, .int .u64 0, .slice none 0 0, .slice none 0 0, .slice none 0 0, .slice none 0 0]) ?_ 6 _ rfl; (repeat with_reducible refine blk_q ?_); refine blk_put (cs := #[.int .i64 0, .int .u64 0, .int .u64 0, .int .u64 0, .int .u64 0, .slice none 0 0, .slice none 0 0, .slice none 0 0, .slice none 0 0]) ?_ 5 _ rfl; (repeat with_reducible refine blk_q ?_); refine blk_put (cs := #[.int .i64 0, .int .u64 0, .int .u64 0, .int .u64 0, .int .u64 0, .slice none 0 0, .slice none 0 0, .slice none 0 0, .slice none 0 0]) ?_ 4 _ rfl; (repeat with_reducible refine blk_q ?_); refine blk_put (cs := #[.int .i64 0, .int .u64 0, .int .u64 0, .int .u64 0, .int .u64 0, .slice none 0 0, .slice none 0 0, .slice none 0 0, .slice none 0 0]) ?_ 3 _ rfl; (repeat with_reducible refine blk_q ?_); refine blk_put (cs := #[.int .i64 0, .int .u64 0, .int .u64 0, .int .u64 0, .int .u64 0, .slice none 0 0, .slice none 0 0, .slice none 0 0, .slice none 0 0]) ?_ 2 _ rfl; (repeat with_reducible refine blk_q ?_); refine blk_put (cs := #[.int .i64 0, .int .u64 0, .int .u64 0, .int .u64 0, .int .u64 0, .slice none 0 0, .slice none 0 0, .slice none 0 0, .slice none 0 0]) ?_ 1 _ rfl; (repeat with_reducible refine blk_q ?_); refine blk_put (cs := #[.int .i64 0, .int .u64 0, .int .u64 0, .int .u64 0, .int .u64 0, .slice none 0 0, .slice none 0 0, .slice none 0 0, .slice none 0 0]) ?_ 0 _ rfl; (repeat with_reducible refine blk_q ?_); exact BK102.out) Try.underlying26 rfl (by kernel_rfl)) rfl ?_
         exact ⟨_, _, _, _, by first | rfl | (simp [errW_none, errW_some] <;> rfl) | (simp [*, errW_none, errW_some] <;> rfl), by first | exact Kd.R_nil _ _ _ _ _ | exact Kd.N_nil _ _ _ _ _ | exact Kd.V_nil _ _ _ _ _ | exact Kd.Q_nil _ _ _ _ _ | exact Kd.S_nil _ _ _ _ _, by first | exact Kd.R_nil _ _ _ _ _ | exact Kd.N_nil _ _ _ _ _ | exact Kd.V_nil _ _ _ _ _ | exact Kd.Q_nil _ _ _ _ _ | exact Kd.S_nil _ _ _ _ _, by first | exact Kd.R_nil _ _ _ _ _ | exact Kd.N_nil _ _ _ _ _ | exact Kd.V_nil _ _ _ _ _ | exact Kd.Q_nil _ _ _ _ _ | exact Kd.S_nil _ _ _ _ _, by first | exact Kd.R_nil _ _ _ _ _ | exact Kd.N_nil _ _ _ _ _ | exact Kd.V_nil _ _ _ _ _ | exact Kd.Q_nil _ _ _ _ _ | exact Kd.S_nil _ _ _ _ _, by repeat (first | (with_reducible first | exact HB.out | apply below_alloc | apply pw_below_drewN | apply below_drew1 | refine below_set ?_ GE101.out | refine below_set ?_ GE102.out | refine below_set ?_ GE127.out) | exact HB.out)⟩
        replace c64 := Bool.eq_false_iff.mpr c64
        subst c64
        have H1 : ((hist_Check.f a0_0 a0_1 (rd t107 0) (rd t107 1) a0_4 t121 t124 t128 t132).bind fun t136 => (if t136 = 0 then (some (a0_0, a0_1, (rd t107 0), (rd t107 1), a0_4, t121, t124, t128, t132, 0)) else (some (0, 0, 0, 0, 0, ([] : List (S86)), ([] : List (S86)), ([] : List Int), ([] : List Int), t136)))) = some (r1, r2, r3, r4, r5, r6, r7, r8, r9, r10) := by rw [if_neg (show ¬ (false = true) by decide)] at H; exact H
        clear H
        have H := H1
        clear H1
        replace H := Option.bind_eq_some_iff.mp H
        obtain ⟨t136, A680, H⟩ := H
        replace H : (if t136 = 0 then (some (a0_0, a0_1, (rd t107 0), (rd t107 1), a0_4, t121, t124, t128, t132, 0)) else (some (0, 0, 0, 0, 0, ([] : List (S86)), ([] : List (S86)), ([] : List Int), ([] : List Int), t136))) = some (r1, r2, r3, r4, r5, r6, r7, r8, r9, r10) := H
        have A68 := Aside0.mk A680
        clear A680
        by_cases c69 : t136 = 0
        ·rw [if_pos c69] at H
         have c69b0 : (t136 == 0) = true := beq_iff_eq.mpr c69
         have c69b1 : (t136 != 0) = false := bne_eq_false_iff_eq.mpr c69
         clear c69
         simp only [Option.some.injEq, Prod.mk.injEq] at H
         obtain ⟨rfl, rfl, rfl, rfl, rfl, rfl, rfl, rfl, rfl, rfl⟩ := H
         have hnb70 := NB127_101.out
         have hnc70 := NB101_127.out
         have hnb71 := NB127_102.out
         have hnc71 := NB102_127.out
         have hcz72_0 := blk_cell BK127.out
         have hfz72_0 := blk_frozen BK127.out
         go_wp2_with (first | ((with_reducible refine gate_callee (f := 50) rfl ?_); refine goesL_ (some 90) rfl rfl Try.func50 (by kernel_rfl) rfl #[.agg #[.int .i64 a0_0, .int .u64 a0_1, .int .u64 (rd t107 0), .int .u64 (rd t107 1), .int .u64 a0_4, .slice Ao43 t121.length co43, .slice Ao42 t124.length co42, .slice Ao55 t128.length co55, .slice Ao61 t132.length co61]] rfl (by (try simp only [List.map_toArray, List.map_cons, List.map_nil]); first | done | rfl | (simp only [List.length_drop, List.length_take]; rfl)) ?_; (with_reducible refine (hist_Check.calls a0_0 a0_1 (rd t107 0) (rd t107 1) a0_4 _ _ t121 _ _ t124 _ _ t128 _ _ t132 t136 _ ?side1 ?side2 ?side3 ?side4 ?side5 ?side6 ?side7 ?side8 A68.out).mono ?_); (case side1 => exact Kd.C_u (Kd.R_reads' HO_128005.out).2.2); (case side2 => exact (Kd.R_reads' HO_128005.out).2.1); (case side3 => exact Kd.C_u (Kd.R_reads' HO_128006.out).2.2); (case side4 => exact (Kd.R_reads' HO_128006.out).2.1); (case side5 => exact Kd.C_u (Kd.R_reads' HO_128007.out).2.2); (case side6 => exact (Kd.R_reads' HO_128007.out).2.1); (case side7 => exact Kd.C_u (Kd.R_reads' HO_128008.out).2.2); (case side8 => exact (Kd.R_reads' HO_128008.out).2.1); rintro e w73 ⟨rfl, hb⟩; refine ⟨_, rfl, ?_⟩; replace HO_128005 := Aside0.mk (Kd.R_ub HO_128005.out hb); replace HO_128006 := Aside0.mk (Kd.R_ub HO_128006.out hb); replace HO_128007 := Aside0.mk (Kd.R_ub HO_128007.out hb); replace HO_128008 := Aside0.mk (Kd.R_ub HO_128008.out hb); replace BK101 := Aside0.mk (blk_ub BK101.out hb); replace BK102 := Aside0.mk (blk_ub BK102.out hb); replace BK127 := Aside0.mk (blk_ub BK127.out hb); replace HB := Aside0.mk (below_step (by repeat (first | (with_reducible first | exact HB.out | refine below_q ?_ | refine below_set ?_ GE101.out | refine below_set ?_ GE102.out | refine below_set ?_ GE127.out) | exact HB.out)) hb); (try clear hb); (try clear hb2); (try clear hk); (try clear hi); clear A68; have hcz74_0 := blk_cell BK127.out; have hfz74_0 := blk_frozen BK127.out; have hnb75 := NB102_101.out; have hnc75 := NB101_102.out; have hcz76_0 := blk_cell BK102.out; have hfz76_0 := blk_frozen BK102.out))
         refine bodyPost_ret (results_ct rfl _ _ gb102 26 #[.int .i64 a0_0, .int .u64 a0_1, .int .u64 (rd t107 0), .int .u64 (rd t107 1), .int .u64 a0_4, .slice Ao43 t121.length co43, .slice Ao42 t124.length co42, .slice Ao55 t128.length co55, .slice Ao61 t132.length co61] (0, 0) _ rfl (by (repeat with_reducible refine blk_q ?_); refine blk_put (cs := #[.int .i64 a0_0, .int .u64 a0_1, .int .u64 (rd t107 0), .int .u64 (rd t107 1), .int .u64 a0_4, .slice Ao43 t121.length co43, .slice Ao42 t124.length co42, .slice Ao55 t128.length co55, .slice none 0 0]) ?_ 8 _ rfl; (repeat with_reducible refine blk_q ?_); refine blk_put (cs := #[.int .i64 a0_0, .int .u64 a0_1, .int .u64 (rd t107 0), .int .u64 (rd t107 1), .int .u64 a0_4, .slice Ao43 t121.length co43, .slice Ao42 t124.length co42, .slice none 0 0, .slice none 0 0]) ?_ 7 _ rfl; (repeat with_reducible refine blk_q ?_); refine blk_put (cs := #[.int .i64 a0_0, .int .u64 a0_1, .int .u64 (rd t107 0), .int .u64 (rd t107 1), .int .u64 a0_4, .slice Ao43 t121.length co43, .slice none 0 0, .slice none 0 0, .slice none 0 0]) ?_ 6 _ rfl; (repeat with_reducible refine blk_q ?_); refine blk_put (cs := #[.int .i64 a0_0, .int .u64 a0_1, .int .u64 (rd t107 0), .int .u64 (rd t107 1), .int .u64 a0_4, .slice none 0 0, .slice none 0 0, .slice none 0 0, .slice none 0 0]) ?_ 5 _ rfl; (repeat with_reducible refine blk_q ?_); refine blk_put (cs := #[.int .i64 a0_0, .int .u64 a0_1, .int .u64 (rd t107 0), .int .u64 (rd t107 1), .int .u64 0, .slice none 0 0, .slice none 0 0, .slice none 0 0, .slice none 0 0]) ?_ 4 _ rfl; (repeat with_reducible refine blk_q ?_); refine blk_put (cs := #[.int .i64 a0_0, .int .u64 a0_1, .int .u64 (rd t107 0), .int .u64 0, .int .u64 0, .slice none 0 0, .slice none 0 0, .slice none 0 0, .slice none 0 0]) ?_ 3 _ rfl; (repeat with_reducible refine blk_q ?_); refine blk_put (cs := #[.int .i64 a0_0, .int .u64 a0_1, .int .u64 0, .int .u64 0, .int .u64 0, .slice none 0 0, .slice none 0 0, .slice none 0 0, .slice none 0 0]) ?_ 2 _ rfl; (repeat with_reducible refine blk_q ?_); refine blk_put (cs := #[.int .i64 a0_0, .int .u64 0, .int .u64 0, .int .u64 0, .int .u64 0, .slice none 0 0, .slice none 0 0, .slice none 0 0, .slice none 0 0]) ?_ 1 _ rfl; (repeat with_reducible refine blk_q ?_); refine blk_put (cs := #[.int .i64 0, .int .u64 0, .int .u64 0, .int .u64 0, .int .u64 0, .slice none 0 0, .slice none 0 0, .slice none 0 0, .slice none 0 0]) ?_ 0 _ rfl; (repeat with_reducible refine blk_q ?_); exact BK102.out) Try.underlying26 rfl (by kernel_rfl)) rfl ?_
         exact ⟨_, _, _, _, by first | rfl | (simp [errW_none, errW_some] <;> rfl) | (simp [*, errW_none, errW_some] <;> rfl), by (repeat with_reducible refine Kd.R_q ?_); exact Kd.R_mono (Kd.R_far (p := ⟨gb102, 8, none⟩) (Kd.R_far (p := ⟨gb102, 7, none⟩) (Kd.R_far (p := ⟨gb102, 6, none⟩) (Kd.R_far (p := ⟨gb102, 5, none⟩) (Kd.R_far (p := ⟨gb102, 4, none⟩) (Kd.R_far (p := ⟨gb102, 3, none⟩) (Kd.R_far (p := ⟨gb102, 2, none⟩) (Kd.R_far (p := ⟨gb102, 1, none⟩) (Kd.R_far (p := ⟨gb102, 0, none⟩) (Kd.R_types HO_128005.out BK102.out (by decide)) (fun _ hk => hk.2) (.int .i64 a0_0)) (fun _ hk => hk.2) (.int .u64 a0_1)) (fun _ hk => hk.2) (.int .u64 (rd t107 0))) (fun _ hk => hk.2) (.int .u64 (rd t107 1))) (fun _ hk => hk.2) (.int .u64 a0_4)) (fun _ hk => hk.2) (.slice Ao43 t121.length co43)) (fun _ hk => hk.2) (.slice Ao42 t124.length co42)) (fun _ hk => hk.2) (.slice Ao55 t128.length co55)) (fun _ hk => hk.2) (.slice Ao61 t132.length co61)) (fun _ hk => hk.1), by (repeat with_reducible refine Kd.R_q ?_); exact Kd.R_mono (Kd.R_far (p := ⟨gb102, 8, none⟩) (Kd.R_far (p := ⟨gb102, 7, none⟩) (Kd.R_far (p := ⟨gb102, 6, none⟩) (Kd.R_far (p := ⟨gb102, 5, none⟩) (Kd.R_far (p := ⟨gb102, 4, none⟩) (Kd.R_far (p := ⟨gb102, 3, none⟩) (Kd.R_far (p := ⟨gb102, 2, none⟩) (Kd.R_far (p := ⟨gb102, 1, none⟩) (Kd.R_far (p := ⟨gb102, 0, none⟩) (Kd.R_types HO_128006.out BK102.out (by decide)) (fun _ hk => hk.2) (.int .i64 a0_0)) (fun _ hk => hk.2) (.int .u64 a0_1)) (fun _ hk => hk.2) (.int .u64 (rd t107 0))) (fun _ hk => hk.2) (.int .u64 (rd t107 1))) (fun _ hk => hk.2) (.int .u64 a0_4)) (fun _ hk => hk.2) (.slice Ao43 t121.length co43)) (fun _ hk => hk.2) (.slice Ao42 t124.length co42)) (fun _ hk => hk.2) (.slice Ao55 t128.length co55)) (fun _ hk => hk.2) (.slice Ao61 t132.length co61)) (fun _ hk => hk.1), by (repeat with_reducible refine Kd.R_q ?_); exact Kd.R_mono (Kd.R_far (p := ⟨gb102, 8, none⟩) (Kd.R_far (p := ⟨gb102, 7, none⟩) (Kd.R_far (p := ⟨gb102, 6, none⟩) (Kd.R_far (p := ⟨gb102, 5, none⟩) (Kd.R_far (p := ⟨gb102, 4, none⟩) (Kd.R_far (p := ⟨gb102, 3, none⟩) (Kd.R_far (p := ⟨gb102, 2, none⟩) (Kd.R_far (p := ⟨gb102, 1, none⟩) (Kd.R_far (p := ⟨gb102, 0, none⟩) (Kd.R_types HO_128007.out BK102.out (by decide)) (fun _ hk => hk.2) (.int .i64 a0_0)) (fun _ hk => hk.2) (.int .u64 a0_1)) (fun _ hk => hk.2) (.int .u64 (rd t107 0))) (fun _ hk => hk.2) (.int .u64 (rd t107 1))) (fun _ hk => hk.2) (.int .u64 a0_4)) (fun _ hk => hk.2) (.slice Ao43 t121.length co43)) (fun _ hk => hk.2) (.slice Ao42 t124.length co42)) (fun _ hk => hk.2) (.slice Ao55 t128.length co55)) (fun _ hk => hk.2) (.slice Ao61 t132.length co61)) (fun _ hk => hk.1), by (repeat with_reducible refine Kd.R_q ?_); exact Kd.R_mono (Kd.R_far (p := ⟨gb102, 8, none⟩) (Kd.R_far (p := ⟨gb102, 7, none⟩) (Kd.R_far (p := ⟨gb102, 6, none⟩) (Kd.R_far (p := ⟨gb102, 5, none⟩) (Kd.R_far (p := ⟨gb102, 4, none⟩) (Kd.R_far (p := ⟨gb102, 3, none⟩) (Kd.R_far (p := ⟨gb102, 2, none⟩) (Kd.R_far (p := ⟨gb102, 1, none⟩) (Kd.R_far (p := ⟨gb102, 0, none⟩) (Kd.R_types HO_128008.out BK102.out (by decide)) (fun _ hk => hk.2) (.int .i64 a0_0)) (fun _ hk => hk.2) (.int .u64 a0_1)) (fun _ hk => hk.2) (.int .u64 (rd t107 0))) (fun _ hk => hk.2) (.int .u64 (rd t107 1))) (fun _ hk => hk.2) (.int .u64 a0_4)) (fun _ hk => hk.2) (.slice Ao43 t121.length co43)) (fun _ hk => hk.2) (.slice Ao42 t124.length co42)) (fun _ hk => hk.2) (.slice Ao55 t128.length co55)) (fun _ hk => hk.2) (.slice Ao61 t132.length co61)) (fun _ hk => hk.1), by repeat (first | (with_reducible first | exact HB.out | apply below_alloc | apply pw_below_drewN | apply below_drew1 | refine below_set ?_ GE101.out | refine below_set ?_ GE102.out | refine below_set ?_ GE127.out) | exact HB.out)⟩
        rw [if_neg c69] at H
        have c69b0 : (t136 == 0) = false := beq_eq_false_iff_ne.mpr c69
        have c69b1 : (t136 != 0) = true := bne_iff_ne.mpr c69
        simp only [Option.some.injEq, Prod.mk.injEq] at H
        obtain ⟨rfl, rfl, rfl, rfl, rfl, rfl, rfl, rfl, rfl, rfl⟩ := H
        have hnb77 := NB127_101.out
        have hnc77 := NB101_127.out
        have hnb78 := NB127_102.out
        have hnc78 := NB102_127.out
        have hcz79_0 := blk_cell BK127.out
        have hfz79_0 := blk_frozen BK127.out
        go_wp2_with (first | ((with_reducible refine gate_callee (f := 50) rfl ?_); refine goesL_ (some 90) rfl rfl Try.func50 (by kernel_rfl) rfl #[.agg #[.int .i64 a0_0, .int .u64 a0_1, .int .u64 (rd t107 0), .int .u64 (rd t107 1), .int .u64 a0_4, .slice Ao43 t121.length co43, .slice Ao42 t124.length co42, .slice Ao55 t128.length co55, .slice Ao61 t132.length co61]] rfl (by (try simp only [List.map_toArray, List.map_cons, List.map_nil]); first | done | rfl | (simp only [List.length_drop, List.length_take]; rfl)) ?_; (with_reducible refine (hist_Check.calls a0_0 a0_1 (rd t107 0) (rd t107 1) a0_4 _ _ t121 _ _ t124 _ _ t128 _ _ t132 t136 _ ?side1 ?side2 ?side3 ?side4 ?side5 ?side6 ?side7 ?side8 A68.out).mono ?_); (case side1 => exact Kd.C_u (Kd.R_reads' HO_128005.out).2.2); (case side2 => exact (Kd.R_reads' HO_128005.out).2.1); (case side3 => exact Kd.C_u (Kd.R_reads' HO_128006.out).2.2); (case side4 => exact (Kd.R_reads' HO_128006.out).2.1); (case side5 => exact Kd.C_u (Kd.R_reads' HO_128007.out).2.2); (case side6 => exact (Kd.R_reads' HO_128007.out).2.1); (case side7 => exact Kd.C_u (Kd.R_reads' HO_128008.out).2.2); (case side8 => exact (Kd.R_reads' HO_128008.out).2.1); rintro e w80 ⟨rfl, hb⟩; refine ⟨_, rfl, ?_⟩; replace HO_128005 := Aside0.mk (Kd.R_ub HO_128005.out hb); replace HO_128006 := Aside0.mk (Kd.R_ub HO_128006.out hb); replace HO_128007 := Aside0.mk (Kd.R_ub HO_128007.out hb); replace HO_128008 := Aside0.mk (Kd.R_ub HO_128008.out hb); replace BK101 := Aside0.mk (blk_ub BK101.out hb); replace BK102 := Aside0.mk (blk_ub BK102.out hb); replace BK127 := Aside0.mk (blk_ub BK127.out hb); replace HB := Aside0.mk (below_step (by repeat (first | (with_reducible first | exact HB.out | refine below_q ?_ | refine below_set ?_ GE101.out | refine below_set ?_ GE102.out | refine below_set ?_ GE127.out) | exact HB.out)) hb); (try clear hb); (try clear hb2); (try clear hk); (try clear hi); clear A68; have hnb81 := NB102_101.out; have hnc81 := NB101_102.out; have hcz82_0 := blk_cell BK102.out; have hfz82_0 := blk_frozen BK102.out))
        refine bodyPost_ret (results_ct rfl _ _ gb102 26 #[.int .i64 0, .int .u64 0, .int .u64 0, .int .u64 0, .int .u64 0, .slice none 0 0, .slice none 0 0, .slice none 0 0, .slice none 0 0] (0, 0) _ rfl (by (repeat with_reducible refine blk_q ?_); refine blk_put (cs := #[.int .i64 0, .int .u64 0, .int .u64 0, .int .u64 0, .int .u64 0, .slice none 0 0, .slice none 0 0, .slice none 0 0, .slice none 0 0]) ?_ 8 _ rfl; (repeat with_reducible refine blk_q ?_); refine blk_put (cs := #[.int .i64 0, .int .u64 0, .int .u64 0, .int .u64 0, .int .u64 0, .slice none 0 0, .slice none 0 0, .slice none 0 0, .slice none 0 0]) ?_ 7 _ rfl; (repeat with_reducible refine blk_q ?_); refine blk_put (cs := #[.int .i64 0, .int .u64 0, .int .u64 0, .int .u64 0, .int .u64 0, .slice none 0 0, .slice none 0 0, .slice none 0 0, .slice none 0 0]) ?_ 6 _ rfl; (repeat with_reducible refine blk_q ?_); refine blk_put (cs := #[.int .i64 0, .int .u64 0, .int .u64 0, .int .u64 0, .int .u64 0, .slice none 0 0, .slice none 0 0, .slice none 0 0, .slice none 0 0]) ?_ 5 _ rfl; (repeat with_reducible refine blk_q ?_); refine blk_put (cs := #[.int .i64 0, .int .u64 0, .int .u64 0, .int .u64 0, .int .u64 0, .slice none 0 0, .slice none 0 0, .slice none 0 0, .slice none 0 0]) ?_ 4 _ rfl; (repeat with_reducible refine blk_q ?_); refine blk_put (cs := #[.int .i64 0, .int .u64 0, .int .u64 0, .int .u64 0, .int .u64 0, .slice none 0 0, .slice none 0 0, .slice none 0 0, .slice none 0 0]) ?_ 3 _ rfl; (repeat with_reducible refine blk_q ?_); refine blk_put (cs := #[.int .i64 0, .int .u64 0, .int .u64 0, .int .u64 0, .int .u64 0, .slice none 0 0, .slice none 0 0, .slice none 0 0, .slice none 0 0]) ?_ 2 _ rfl; (repeat with_reducible refine blk_q ?_); refine blk_put (cs := #[.int .i64 0, .int .u64 0, .int .u64 0, .int .u64 0, .int .u64 0, .slice none 0 0, .slice none 0 0, .slice none 0 0, .slice none 0 0]) ?_ 1 _ rfl; (repeat with_reducible refine blk_q ?_); refine blk_put (cs := #[.int .i64 0, .int .u64 0, .int .u64 0, .int .u64 0, .int .u64 0, .slice none 0 0, .slice none 0 0, .slice none 0 0, .slice none 0 0]) ?_ 0 _ rfl; (repeat with_reducible refine blk_q ?_); exact BK102.out) Try.underlying26 rfl (by kernel_rfl)) rfl ?_
        exact ⟨_, _, _, _, by first | rfl | (simp [errW_none, errW_some] <;> rfl) | (simp [*, errW_none, errW_some] <;> rfl), by first | exact Kd.R_nil _ _ _ _ _ | exact Kd.N_nil _ _ _ _ _ | exact Kd.V_nil _ _ _ _ _ | exact Kd.Q_nil _ _ _ _ _ | exact Kd.S_nil _ _ _ _ _, by first | exact Kd.R_nil _ _ _ _ _ | exact Kd.N_nil _ _ _ _ _ | exact Kd.V_nil _ _ _ _ _ | exact Kd.Q_nil _ _ _ _ _ | exact Kd.S_nil _ _ _ _ _, by first | exact Kd.R_nil _ _ _ _ _ | exact Kd.N_nil _ _ _ _ _ | exact Kd.V_nil _ _ _ _ _ | exact Kd.Q_nil _ _ _ _ _ | exact Kd.S_nil _ _ _ _ _, by first | exact Kd.R_nil _ _ _ _ _ | exact Kd.N_nil _ _ _ _ _ | exact Kd.V_nil _ _ _ _ _ | exact Kd.Q_nil _ _ _ _ _ | exact Kd.S_nil _ _ _ _ _, by repeat (first | (with_reducible first | exact HB.out | apply below_alloc | apply pw_below_drewN | apply below_drew1 | refine below_set ?_ GE101.out | refine below_set ?_ GE102.out | refine below_set ?_ GE127.out) | exact HB.out)⟩
     rw [if_neg c28] at H
     exact absurd H (by simp)
    rw [if_neg c27] at H
    exact absurd H (by simp)
 rw [if_neg c3] at H
 have c3b0 : (t103 == 0) = false := beq_eq_false_iff_ne.mpr c3
 have c3b1 : (t103 != 0) = true := bne_iff_ne.mpr c3
 simp only [Option.some.injEq, Prod.mk.injEq] at H
 obtain ⟨rfl, rfl, rfl, rfl, rfl, rfl, rfl, rfl, rfl, rfl⟩ := H
 go_enter Try.func35, Try.ntmps35
 go_wp2_with (first | ((with_reducible refine gate_dst (N := 1) rfl ?_); refine box_event ?hg (N := 1) ?hd (cs := #[.int .i64 a0_0, .int .u64 a0_1, .int .u64 a0_2, .int .u64 a0_3, .int .u64 a0_4, .slice A0_5 l0_5.length c0_5, .slice A0_6 l0_6.length c0_6, .slice A0_7 l0_7.length c0_7, .slice A0_8 l0_8.length c0_8]) (t := 31) ?hr ?_; (case hd => rfl); (case hg => rfl); (case hr => first | (go_simp; done) | (go_simp; rfl)); intro gb101 hg w83 hbox hb; have BK101 := Aside0.mk (hbox); have GW101 := Aside0.mk ((by rw [hg]; exact (below_size (below_u HB.out)) : w.heap.size ≤ gb101)); have GE101 := Aside0.mk ((by rw [hg]; exact (below_size (below_u HB.out)) : w.heap.size ≤ gb101)); replace HB := Aside0.mk (below_step (below_u HB.out) hb); clear hb hbox hg) | ((with_reducible refine gate_dst (N := 2) rfl ?_); refine box_event ?hg (N := 2) ?hd (cs := #[.int .i64 0, .int .u64 0, .int .u64 0, .int .u64 0, .int .u64 0, .slice none 0 0, .slice none 0 0, .slice none 0 0, .slice none 0 0]) (t := 26) ?hr ?_; (case hd => rfl); (case hg => rfl); (case hr => first | (go_simp; done) | (go_simp; rfl)); intro gb102 hg w84 hbox hb; have BK102 := Aside0.mk (hbox); have GW102 := Aside0.mk ((by rw [hg]; exact (below_size (by repeat (first | (with_reducible first | exact HB.out | refine below_q ?_ | refine below_set ?_ GE101.out) | exact HB.out))) : w.heap.size ≤ gb102)); have GE102 := Aside0.mk ((by rw [hg]; exact (below_size (by repeat (first | (with_reducible first | exact HB.out | refine below_q ?_ | refine below_set ?_ GE101.out) | exact HB.out))) : w.heap.size ≤ gb102)); have NB101_102 := Aside0.mk ((by rw [hg]; exact Nat.ne_of_lt (blk_lt (g := gb101) (o := .cells #[.int .i64 a0_0, .int .u64 a0_1, .int .u64 a0_2, .int .u64 a0_3, .int .u64 a0_4, .slice A0_5 l0_5.length c0_5, .slice A0_6 l0_6.length c0_6, .slice A0_7 l0_7.length c0_7, .slice A0_8 l0_8.length c0_8] 31 (0, 0)) (blk_u BK101.out)) : gb101 ≠ gb102)); have NB102_101 := Aside0.mk ((by rw [hg]; exact Nat.ne_of_gt (blk_lt (g := gb101) (o := .cells #[.int .i64 a0_0, .int .u64 a0_1, .int .u64 a0_2, .int .u64 a0_3, .int .u64 a0_4, .slice A0_5 l0_5.length c0_5, .slice A0_6 l0_6.length c0_6, .slice A0_7 l0_7.length c0_7, .slice A0_8 l0_8.length c0_8] 31 (0, 0)) (blk_u BK101.out)) : gb102 ≠ gb101)); replace BK101 := Aside0.mk (blk_ub BK101.out hb); replace HB := Aside0.mk (below_step (by repeat (first | (with_reducible first | exact HB.out | refine below_q ?_ | refine below_set ?_ GE101.out) | exact HB.out)) hb); clear hb hbox hg; have hnb85 := NB101_102.out; have hnc85 := NB102_101.out; have hcz86_0 := blk_cell BK101.out; have hfz86_0 := blk_frozen BK101.out) | ((with_reducible refine gate_callee (f := 87) rfl ?_); refine goesL_ (some 14) rfl rfl Try.func87 (by kernel_rfl) rfl #[.agg #[.int .i64 a0_0, .int .u64 a0_1, .int .u64 a0_2, .int .u64 a0_3, .int .u64 a0_4, .slice A0_5 l0_5.length c0_5, .slice A0_6 l0_6.length c0_6, .slice A0_7 l0_7.length c0_7, .slice A0_8 l0_8.length c0_8]] rfl (by (try simp only [List.map_toArray, List.map_cons, List.map_nil]); first | done | rfl | (simp only [List.length_drop, List.length_take]; rfl)) ?_; (with_reducible refine (fhist_Check.calls a0_0 a0_1 a0_2 a0_3 a0_4 _ _ l0_5 _ _ l0_6 _ _ l0_7 _ _ l0_8 t103 _ ?side1 ?side2 ?side3 ?side4 ?side5 ?side6 ?side7 ?side8 A2.out).mono ?_); (case side1 => exact Kd.C_u (Kd.C_below HR0_5.out HB.out)); (case side2 => exact HC0_5.out); (case side3 => exact Kd.C_u (Kd.C_below HR0_6.out HB.out)); (case side4 => exact HC0_6.out); (case side5 => exact Kd.C_u (Kd.C_below HR0_7.out HB.out)); (case side6 => exact HC0_7.out); (case side7 => exact Kd.C_u (Kd.C_below HR0_8.out HB.out)); (case side8 => exact HC0_8.out); rintro e w87 ⟨rfl, hb⟩; refine ⟨_, rfl, ?_⟩; replace BK101 := Aside0.mk (blk_ub BK101.out hb); replace BK102 := Aside0.mk (blk_ub BK102.out hb); replace HB := Aside0.mk (below_step (by repeat (first | (with_reducible first | exact HB.out | refine below_q ?_ | refine below_set ?_ GE101.out | refine below_set ?_ GE102.out) | exact HB.out)) hb); (try clear hb); (try clear hb2); (try clear hk); (try clear hi); clear A2; have hcz88_0 := blk_cell BK102.out; have hfz88_0 := blk_frozen BK102.out))
 refine bodyPost_ret (results_ct rfl _ _ gb102 26 #[.int .i64 0, .int .u64 0, .int .u64 0, .int .u64 0, .int .u64 0, .slice none 0 0, .slice none 0 0, .slice none 0 0, .slice none 0 0] (0, 0) _ rfl (by (repeat with_reducible refine blk_q ?_); refine blk_put (cs := #[.int .i64 0, .int .u64 0, .int .u64 0, .int .u64 0, .int .u64 0, .slice none 0 0, .slice none 0 0, .slice none 0 0, .slice none 0 0]) ?_ 8 _ rfl; (repeat with_reducible refine blk_q ?_); refine blk_put (cs := #[.int .i64 0, .int .u64 0, .int .u64 0, .int .u64 0, .int .u64 0, .slice none 0 0, .slice none 0 0, .slice none 0 0, .slice none 0 0]) ?_ 7 _ rfl; (repeat with_reducible refine blk_q ?_); refine blk_put (cs := #[.int .i64 0, .int .u64 0, .int .u64 0, .int .u64 0, .int .u64 0, .slice none 0 0, .slice none 0 0, .slice none 0 0, .slice none 0 0]) ?_ 6 _ rfl; (repeat with_reducible refine blk_q ?_); refine blk_put (cs := #[.int .i64 0, .int .u64 0, .int .u64 0, .int .u64 0, .int .u64 0, .slice none 0 0, .slice none 0 0, .slice none 0 0, .slice none 0 0]) ?_ 5 _ rfl; (repeat with_reducible refine blk_q ?_); refine blk_put (cs := #[.int .i64 0, .int .u64 0, .int .u64 0, .int .u64 0, .int .u64 0, .slice none 0 0, .slice none 0 0, .slice none 0 0, .slice none 0 0]) ?_ 4 _ rfl; (repeat with_reducible refine blk_q ?_); refine blk_put (cs := #[.int .i64 0, .int .u64 0, .int .u64 0, .int .u64 0, .int .u64 0, .slice none 0 0, .slice none 0 0, .slice none 0 0, .slice none 0 0]) ?_ 3 _ rfl; (repeat with_reducible refine blk_q ?_); refine blk_put (cs := #[.int .i64 0, .int .u64 0, .int .u64 0, .int .u64 0, .int .u64 0, .slice none 0 0, .slice none 0 0, .slice none 0 0, .slice none 0 0]) ?_ 2 _ rfl; (repeat with_reducible refine blk_q ?_); refine blk_put (cs := #[.int .i64 0, .int .u64 0, .int .u64 0, .int .u64 0, .int .u64 0, .slice none 0 0, .slice none 0 0, .slice none 0 0, .slice none 0 0]) ?_ 1 _ rfl; (repeat with_reducible refine blk_q ?_); refine blk_put (cs := #[.int .i64 0, .int .u64 0, .int .u64 0, .int .u64 0, .int .u64 0, .slice none 0 0, .slice none 0 0, .slice none 0 0, .slice none 0 0]) ?_ 0 _ rfl; (repeat with_reducible refine blk_q ?_); exact BK102.out) Try.underlying26 rfl (by kernel_rfl)) rfl ?_
 exact ⟨_, _, _, _, by first | rfl | (simp [errW_none, errW_some] <;> rfl) | (simp [*, errW_none, errW_some] <;> rfl), by first | exact Kd.R_nil _ _ _ _ _ | exact Kd.N_nil _ _ _ _ _ | exact Kd.V_nil _ _ _ _ _ | exact Kd.Q_nil _ _ _ _ _ | exact Kd.S_nil _ _ _ _ _, by first | exact Kd.R_nil _ _ _ _ _ | exact Kd.N_nil _ _ _ _ _ | exact Kd.V_nil _ _ _ _ _ | exact Kd.Q_nil _ _ _ _ _ | exact Kd.S_nil _ _ _ _ _, by first | exact Kd.R_nil _ _ _ _ _ | exact Kd.N_nil _ _ _ _ _ | exact Kd.V_nil _ _ _ _ _ | exact Kd.Q_nil _ _ _ _ _ | exact Kd.S_nil _ _ _ _ _, by first | exact Kd.R_nil _ _ _ _ _ | exact Kd.N_nil _ _ _ _ _ | exact Kd.V_nil _ _ _ _ _ | exact Kd.Q_nil _ _ _ _ _ | exact Kd.S_nil _ _ _ _ _, by repeat (first | (with_reducible first | exact HB.out | apply below_alloc | apply pw_below_drewN | apply below_drew1 | refine below_set ?_ GE101.out | refine below_set ?_ GE102.out) | exact HB.out)⟩
end Go.Proofs.Ytfbjjbbhnmoolaa.P
namespace Go.Proofs.Ytfbjjbbhnmoolaa.P
open Go.RowKit Go.Shelf Go.Proofs.YtfbjjbbhnmoolaaW.PrintWords Go.Proofs.YtfbjjbbhnmoolaaW.PrintLast Go.Proofs.YtfbjjbbhnmoolaaW.PrintMore
theorem checkF_sp {h : Fh} (hc : checkF h = 0) : h.f5.length ≤ 1024 ∧ h.f6.length ≤ 1024 := by
  obtain ⟨-, a, b⟩ := checkF_zero hc
  obtain ⟨-, -, -, c5, -⟩ := sideF_bounds a
  obtain ⟨-, -, -, c6, -⟩ := sideF_bounds b
  exact ⟨(spCheck_zero c5).1, (spCheck_zero c6).1⟩
theorem clone_span_f {l : List Sp} (h : l.length < 8796093022208) : slices_Clone_span.f l = some l := if_pos h
theorem wholesR_of (l : List Int) : wholesR wholeI l = if allWhole l = true then (wholesOf l, true) else ([], false) := rfl
theorem diffsU_of (l : List Int) : diffsU l = if noneBig l = true then (diffsW 0 l, true) else ([], false) := rfl
theorem back_f (h : Fh) (hw : wfF h) (h7 : h.f7.length ≤ 4096) (h8 : h.f8.length ≤ 4096) (k : Nat) (hk : 10 < k) : fhist_Back.f k h.f0 h.f1 h.f2 h.f3 h.f4 h.f5 h.f6 h.f7 h.f8 = some (tupB (backR h)) := by
  obtain ⟨k, rfl⟩ : ∃ m, k = m + 1 + 1 := ⟨k - 2, by omega⟩
  have hw' := hw
  obtain ⟨w0, w1, w2, w3, w4, w5, w6, w7, w8, -⟩ := hw
  unfold fhist_Back.f backR
  rw [show fhist_Check.f h.f0 h.f1 h.f2 h.f3 h.f4 h.f5 h.f6 h.f7 h.f8 = some (checkF h) from if_pos hw', Option.bind_some]
  by_cases hc : checkF h = 0
  rotate_left
  · rw [if_neg hc, if_pos hc]; rfl
  rw [if_pos hc, if_neg (show ¬ checkF h ≠ 0 from fun q => q hc)]
  have hp2 : ∀ v ∈ [h.f2, h.f3], 0 ≤ v := fun v hv => by
    rcases List.mem_cons.1 hv with e | hv
    · rw [e]; exact w2.1
    · rcases List.mem_cons.1 hv with e | hv
      · rw [e]; exact w3.1
      · cases hv
  have hp7 : ∀ v ∈ h.f7, 0 ≤ v := fun v hv => (w7 v hv).1
  have hp8 : ∀ v ∈ h.f8, 0 ≤ v := fun v hv => (w8 v hv).1
  rw [show fhist_wholes.f [h.f2, h.f3] = some (wholesR wholeI [h.f2, h.f3]) from if_pos ⟨by simp, hp2⟩, show fhist_wholes.f h.f7 = some (wholesR wholeI h.f7) from if_pos ⟨h7, hp7⟩, show fhist_wholes.f h.f8 = some (wholesR wholeI h.f8) from if_pos ⟨h8, hp8⟩]
  simp only [Option.bind_some]
  have bad : ∀ (a b c : List Int) (x : Bool), x = true → fhist_Back.j0 (k + 1 + 1) a b c x h.f0 h.f1 h.f2 h.f3 h.f4 h.f5 h.f6 h.f7 h.f8 = some (tupB (emptyH, 10)) := fun a b c x hx => by
    rw [fhist_Back.j0, if_pos hx]; rfl
  cases e2 : allWhole [h.f2, h.f3] with
  | false =>
    have r2 : wholesR wholeI [h.f2, h.f3] = ([], false) := by rw [wholesR_of, e2]; rfl
    simp only [r2, Bool.false_eq_true, if_false, Bool.false_and, if_true]
    exact bad _ _ _ _ rfl
  | true =>
    have r2 : wholesR wholeI [h.f2, h.f3] = (wholesOf [h.f2, h.f3], true) := by rw [wholesR_of, e2]; rfl
    cases e7 : allWhole h.f7 with
    | false =>
      have r7 : wholesR wholeI h.f7 = ([], false) := by rw [wholesR_of, e7]; rfl
      simp only [r2, r7, Bool.false_eq_true, if_false, Bool.and_false, Bool.false_and, if_true]
      exact bad _ _ _ _ rfl
    | true =>
      have r7 : wholesR wholeI h.f7 = (wholesOf h.f7, true) := by rw [wholesR_of, e7]; rfl
      cases e8 : allWhole h.f8 with
      | false =>
        have r8 : wholesR wholeI h.f8 = ([], false) := by rw [wholesR_of, e8]; rfl
        simp only [r2, r7, r8, Bool.false_eq_true, if_false, Bool.and_false, if_true]
        exact bad _ _ _ _ rfl
      | true =>
        have r8 : wholesR wholeI h.f8 = (wholesOf h.f8, true) := by rw [wholesR_of, e8]; rfl
        simp only [r2, r7, r8, if_true, Bool.not_true, Bool.and_true, Bool.true_eq_false, if_false]
        rw [fhist_Back.j0, if_neg (by decide), if_pos (by simp [wholesOf]), if_pos (by simp [wholesOf])]
        rw [clone_span_f (l := h.f5) (by have := (checkF_sp hc).1; omega), clone_span_f (l := h.f6) (by have := (checkF_sp hc).2; omega)]
        have n7 := wholesOf_nonneg hp7
        have n8 := wholesOf_nonneg hp8
        rw [show fhist_differences.f (wholesOf h.f7) = some (diffsU (wholesOf h.f7)) from if_pos ⟨by simpa [wholesOf] using h7, n7⟩, show fhist_differences.f (wholesOf h.f8) = some (diffsU (wholesOf h.f8)) from if_pos ⟨by simpa [wholesOf] using h8, n8⟩]
        simp only [Option.bind_some]
        have big : ∀ (x : Bool) (a b : Int) (c d : List Sp) (e f : List Int) (g g' i : Int), x = true → fhist_Back.j1 (k + 1) x a b g g' i c d e f = some (tupB (emptyH, 28)) := fun x a b c d e f g g' i hx => by
          rw [fhist_Back.j1, if_pos hx]; rfl
        cases b7 : noneBig (wholesOf h.f7) with
        | false =>
          have u7 : diffsU (wholesOf h.f7) = ([], false) := by rw [diffsU_of, b7]; rfl
          simp only [u7, Bool.false_eq_true, if_false, Bool.false_and, if_true]
          exact big _ _ _ _ _ _ _ _ _ _ rfl
        | true =>
          have u7 : diffsU (wholesOf h.f7) = (diffsW 0 (wholesOf h.f7), true) := by rw [diffsU_of, b7]; rfl
          cases b8 : noneBig (wholesOf h.f8) with
          | false =>
            have u8 : diffsU (wholesOf h.f8) = ([], false) := by rw [diffsU_of, b8]; rfl
            simp only [u7, u8, if_true, Bool.and_false, Bool.not_false]
            exact big _ _ _ _ _ _ _ _ _ _ rfl
          | true =>
            have u8 : diffsU (wholesOf h.f8) = (diffsW 0 (wholesOf h.f8), true) := by rw [diffsU_of, b8]; rfl
            simp only [u7, u8, if_true, Bool.and_true, Bool.not_true, Bool.true_eq_false, if_false]
            have hb := backH_wf hw' h7 h8 b7 b8
            have r0 : rd (wholesOf [h.f2, h.f3]) 0 = (wholeI h.f2).1 := rfl
            have r1 : rd (wholesOf [h.f2, h.f3]) 1 = (wholeI h.f3).1 := rfl
            have hch : hist_Check.f h.f0 h.f1 (wholeI h.f2).1 (wholeI h.f3).1 h.f4 h.f5 h.f6 (diffsW 0 (wholesOf h.f7)) (diffsW 0 (wholesOf h.f8)) = some (checkR (backH h)) := by
              unfold hist_Check.f checkR
              rw [show hist_open.f h.f0 h.f1 (wholeI h.f2).1 (wholeI h.f3).1 h.f4 h.f5 h.f6 (diffsW 0 (wholesOf h.f7)) (diffsW 0 (wholesOf h.f8)) = some (openR (backH h)) from if_pos hb]
              rfl
            rw [fhist_Back.j1, if_neg (by decide), r0, r1, hch, Option.bind_some]
            by_cases hk : checkR (backH h) = 0
            · rw [if_pos hk, if_neg (show ¬ checkR (backH h) ≠ 0 from fun q => q hk)]; rfl
            · rw [if_neg hk, if_pos hk]; rfl
theorem back_c (a : Fh) (x : Hi) (e : Int) (hw : wfF a) (h7 : a.f7.length ≤ 4096) (h8 : a.f8.length ≤ 4096) (hx : backR a = (x, e)) (w : World) (u : Value) (hu : GI w u a) : Calls Try.prog 35 #[u] w fun r w' => ∃ D5x g5x D6x g6x D7x g7x D8x g8x, r = .returned (.tuple #[.agg #[.int .i64 x.f0, .int .u64 x.f1, .int .u64 x.f2, .int .u64 x.f3, .int .u64 x.f4, .slice D5x x.f5.length g5x, .slice D6x x.f6.length g6x, .slice D7x x.f7.length g7x, .slice D8x x.f8.length g8x], .int .i64 e]) ∧ HI w' (.agg #[.int .i64 x.f0, .int .u64 x.f1, .int .u64 x.f2, .int .u64 x.f3, .int .u64 x.f4, .slice D5x x.f5.length g5x, .slice D6x x.f6.length g6x, .slice D7x x.f7.length g7x, .slice D8x x.f8.length g8x]) x ∧ Below w.heap.size w w' := by
  obtain ⟨A5, c5, A6, c6, A7, c7, A8, c8, rfl, ⟨_, _, e5, h51, h52⟩, ⟨_, _, e6, h61, h62⟩, ⟨_, _, e7, h71, h72⟩, ⟨_, _, e8, h81, h82⟩⟩ := hu.open_
  cases e5; cases e6; cases e7; cases e8
  have he := back_f a hw h7 h8 11 (by decide)
  rw [hx] at he
  refine (fhist_Back.calls 11 a.f0 a.f1 a.f2 a.f3 a.f4 A5 c5 _ A6 c6 _ A7 c7 _ A8 c8 _ _ _ _ _ _ _ _ _ _ _ w h52 h51 h62 h61 h72 h71 h82 h81 he).mono ?_
  rintro r w1 ⟨v5, v6, v7, v8, rfl, i5, i6, i7, i8, hb⟩
  have hr : HI w1 (.agg #[.int .i64 x.f0, .int .u64 x.f1, .int .u64 x.f2, .int .u64 x.f3, .int .u64 x.f4, v5, v6, v7, v8]) x := ⟨v5, v6, v7, v8, rfl, .of_R i5, .of_R i6, .of_R i7, .of_R i8⟩
  obtain ⟨D5, g5, D6, g6, D7, g7, D8, g8, ev, -⟩ := hr.open_
  rw [ev] at hr
  refine ⟨D5, g5, D6, g6, D7, g7, D8, g8, ?_, hr, hb⟩
  rw [← ev]
end Go.Proofs.Ytfbjjbbhnmoolaa.P
namespace Go.Proofs.Ytfbjjbbhnmoolaa.P
open Go.RowKit Go.Shelf Go.Proofs.YtfbjjbbhnmoolaaW.PrintWords Go.Proofs.YtfbjjbbhnmoolaaW.PrintLast Go.Proofs.YtfbjjbbhnmoolaaW.PrintMore
def bey (l : List Int) (j : Nat) : Bool := ((l.take j).drop 2).any (fun v => decide ((wholeI v).1 > 9223372036854775807))
theorem bey_zero (l : List Int) : bey l 0 = false := by unfold bey; rw [List.take_zero, List.drop_nil]; rfl
theorem bey_succ {l : List Int} {j : Nat} (h : j < l.length) : bey l (j + 1) = (bey l j || (decide ((j : Int) > 1) && decide ((wholeI l[j]).1 > 9223372036854775807))) := by
  unfold bey
  rw [List.take_succ_eq_append_getElem h, List.drop_append, List.any_append]
  congr 1
  by_cases c : 1 < j
  · have e : 2 - (l.take j).length = 0 := by rw [List.length_take]; omega
    have d : decide ((j : Int) > 1) = true := decide_eq_true (by omega)
    rw [e, d, List.drop_zero, Bool.true_and]
    simp only [List.any_cons, List.any_nil, Bool.or_false]
  · have e : ([l[j]] : List Int).drop (2 - (l.take j).length) = [] := List.drop_eq_nil_of_le (by rw [List.length_take]; simp only [List.length_cons, List.length_nil]; omega)
    have d : decide ((j : Int) > 1) = false := decide_eq_false (by omega)
    rw [e, d, Bool.false_and]; rfl
theorem bey_any (d : List Int) : d.any (fun v => decide ((wholeI v).1 > 9223372036854775807)) = !(noneBig (wholesOf d)) := by
  induction d with
  | nil => rfl
  | cons x d ih =>
    have e : noneBig (wholesOf (x :: d)) = (decide ((wholeI x).1 ≤ 9223372036854775807) && noneBig (wholesOf d)) := rfl
    rw [List.any_cons, ih, e, Bool.not_and]
    congr 1
    by_cases c : (wholeI x).1 ≤ 9223372036854775807
    · rw [decide_eq_true c, decide_eq_false (by omega)]; rfl
    · rw [decide_eq_false c, decide_eq_true (by omega)]; rfl
theorem bey_all (p q : Int) (c d : List Int) : bey (([p, q] ++ c) ++ d) (([p, q] ++ c) ++ d).length = !(noneBig (wholesOf c) && noneBig (wholesOf d)) := by
  unfold bey
  rw [List.take_length]
  show (c ++ d).any _ = _
  rw [List.any_append, bey_any, bey_any, Bool.not_and]
theorem allWhole_no {l : List Int} {v : Int} (hv : v ∈ l) (hf : (wholeI v).2 = false) : allWhole l = false :=
  Bool.eq_false_iff.2 fun q => by have := List.all_eq_true.1 q v hv; rw [hf] at this; cases this
theorem allWhole_yes {l : List Int} (h : ∀ v ∈ l, (wholeI v).2 = true) : allWhole l = true := List.all_eq_true.2 h
theorem back_form {h : Fh} (hc : checkF h = 0) {v : Int} (hv : v ∈ ([h.f2, h.f3] ++ h.f7) ++ h.f8) (hf : (wholeI v).2 = false) : backR h = (emptyH, 10) := by
  unfold backR
  rw [if_neg (fun q => q hc), if_pos]
  rcases List.mem_append.1 hv with hv | hv
  · rcases List.mem_append.1 hv with hv | hv
    · rw [allWhole_no hv hf]; rfl
    · rw [allWhole_no hv hf, Bool.and_false]; rfl
  · rw [allWhole_no hv hf, Bool.and_false]
theorem back_ends {h : Fh} (hw : wfF h) (hc : checkF h = 0) (h7 : h.f7.length ≤ 4096) (h8 : h.f8.length ≤ 4096) (ha : ∀ v ∈ ([h.f2, h.f3] ++ h.f7) ++ h.f8, (wholeI v).2 = true) :
    (bey (([h.f2, h.f3] ++ h.f7) ++ h.f8) (([h.f2, h.f3] ++ h.f7) ++ h.f8).length = true → backR h = (emptyH, 28)) ∧
    (bey (([h.f2, h.f3] ++ h.f7) ++ h.f8) (([h.f2, h.f3] ++ h.f7) ++ h.f8).length = false → backR h = (emptyH, 22) ∨ (backR h = (backH h, 0) ∧ checkR (backH h) = 0 ∧ wfH (backH h) ∧ fromF (backH h) = h)) := by
  have a2 := allWhole_yes (l := [h.f2, h.f3]) fun v hv => ha v (List.mem_append_left _ (List.mem_append_left _ hv))
  have a7 := allWhole_yes (l := h.f7) fun v hv => ha v (List.mem_append_left _ (List.mem_append_right _ hv))
  have a8 := allWhole_yes (l := h.f8) fun v hv => ha v (List.mem_append_right _ hv)
  rw [bey_all]
  refine ⟨fun hb => ?_, fun hb => ?_⟩
  · have hb' : (noneBig (wholesOf h.f7) && noneBig (wholesOf h.f8)) = false := by rw [Bool.not_eq_true'] at hb; exact hb
    unfold backR
    rw [if_neg (fun q => q hc), if_neg (by rw [a2, a7, a8]; decide), if_pos hb']
  · have hb' : (noneBig (wholesOf h.f7) && noneBig (wholesOf h.f8)) = true := by rw [Bool.not_eq_false'] at hb; exact hb
    obtain ⟨b7, b8⟩ := (Bool.and_eq_true _ _).mp hb'
    have e : backR h = if checkR (backH h) ≠ 0 then (emptyH, checkR (backH h)) else (backH h, 0) := by
      unfold backR
      rw [if_neg (fun q => q hc), if_neg (by rw [a2, a7, a8]; decide), if_neg (by rw [hb']; decide)]
    rw [e]
    rcases back_check hw hc b7 b8 with k | k
    · exact .inr ⟨if_neg (fun q => q k), k, backH_wf hw h7 h8 b7 b8, from_back hw a2 a7 a8 b7 b8⟩
    · exact .inl (by rw [if_pos (by rw [k]; decide), k])
theorem refWhole_c (v : Int) (h : u64 v) (w : World) : Calls Try.prog 30 #[.int .u64 v] w fun e w' => e = .returned (.tuple #[.int .u64 (wholeI v).1, .int .i64 (if (wholeI v).2 = true then 1 else 0)]) ∧ Below w.heap.size w w' :=
  (tidepoleref10_Whole.calls 1200 v _ _ w (refWhole_eq v h 1200 (by decide))).mono fun e w1 ⟨he, hd⟩ => ⟨he, hd.below⟩
theorem numbers10_c (s z zc ct sm : Int) (a5 a6 a7 a8 b5 b6 b7 b8 : Option Addr) (m5 m6 m7 m8 c5 c6 c7 c8 n5 n6 n7 n8 d5 d6 d7 d8 : Nat) (w : World) :
    Calls Try.prog 38 #[.agg #[.int .i64 s, .int .u64 z, .int .u64 zc, .int .u64 ct, .int .u64 sm, .slice a5 m5 c5, .slice a6 m6 c6, .slice a7 m7 c7, .slice a8 m8 c8], .agg #[.int .i64 s, .int .u64 z, .int .u64 zc, .int .u64 ct, .int .u64 sm, .slice b5 n5 d5, .slice b6 n6 d6, .slice b7 n7 d7, .slice b8 n8 d8]] w fun e w' => e = .returned (.bool true) ∧ Below w.heap.size w w' := by
  have hu := Try.underlying31
  go_enter Try.func38, Try.ntmps38
  go_wp2
  go_ret
  exact ⟨rfl, below_alloc (below_alloc (Below.refl _ _) _) _⟩
end Go.Proofs.Ytfbjjbbhnmoolaa.P
namespace Go.Proofs.Ytfbjjbbhnmoolaa.P
open Go.RowKit Go.Shelf Go.Proofs.YtfbjjbbhnmoolaaW.PrintWords Go.Proofs.YtfbjjbbhnmoolaaW.PrintLast Go.Proofs.YtfbjjbbhnmoolaaW.PrintMore
def wfI10 (h : Hi) : Prop := i64 h.f0 ∧ u64 h.f1 ∧ u64 h.f2 ∧ u64 h.f3 ∧ u64 h.f4 ∧ wfSps h.f5 ∧ wfSps h.f6 ∧ i64s h.f7 ∧ i64s h.f8
instance (h : Hi) : Decidable (wfI10 h) := by unfold wfI10; exact inferInstance
theorem agg_slices {s z zc ct sm : Value} {a5 a6 a7 a8 v5 v6 v7 v8 : Value} (e : Value.agg #[s, z, zc, ct, sm, a5, a6, a7, a8] = .agg #[s, z, zc, ct, sm, v5, v6, v7, v8]) : a5 = v5 ∧ a6 = v6 ∧ a7 = v7 ∧ a8 = v8 := by
  have := Value.agg.inj e
  simp only [Array.mk.injEq, List.cons.injEq, true_and, and_true] at this
  exact this
theorem from10_c (a : Hi) (x : Fh) (e : Int) (p5 p6 : List Sp) (p7 p8 : List Int) (hw : wfH a) (hx : fromR a = (x, e)) (h5 : x.f5 = p5) (h6 : x.f6 = p6) (h7 : x.f7 = p7) (h8 : x.f8 = p8) (w : World) (u : Value) (hu : HI w u a) : Calls Try.prog 11 #[u] w fun r w' => ∃ D5x g5x D6x g6x D7x g7x D8x g8x, r = .returned (.tuple #[.agg #[.int .i64 x.f0, .int .u64 x.f1, .int .u64 x.f2, .int .u64 x.f3, .int .u64 x.f4, .slice D5x x.f5.length g5x, .slice D6x x.f6.length g6x, .slice D7x x.f7.length g7x, .slice D8x x.f8.length g8x], .int .i64 e]) ∧ SI kSp w' (.slice D5x x.f5.length g5x) p5 ∧ SI kSp w' (.slice D6x x.f6.length g6x) p6 ∧ SI (Kd.int .u64) w' (.slice D7x x.f7.length g7x) p7 ∧ SI (Kd.int .u64) w' (.slice D8x x.f8.length g8x) p8 ∧ GI w' (.agg #[.int .i64 x.f0, .int .u64 x.f1, .int .u64 x.f2, .int .u64 x.f3, .int .u64 x.f4, .slice D5x x.f5.length g5x, .slice D6x x.f6.length g6x, .slice D7x x.f7.length g7x, .slice D8x x.f8.length g8x]) x ∧ Below w.heap.size w w' := by
  subst h5; subst h6; subst h7; subst h8
  refine (from_c a x e hw hx w u hu).mono ?_
  rintro r w1 ⟨D5, g5, D6, g6, D7, g7, D8, g8, rfl, hi, hb⟩
  have hi' := hi
  obtain ⟨v5, v6, v7, v8, ev, k5, k6, k7, k8⟩ := hi'
  obtain ⟨rfl, rfl, rfl, rfl⟩ := agg_slices ev
  exact ⟨D5, g5, D6, g6, D7, g7, D8, g8, rfl, k5, k6, k7, k8, hi, hb⟩
end Go.Proofs.Ytfbjjbbhnmoolaa.P
namespace Go.Proofs.Ytfbjjbbhnmoolaa.P
open Go.RowKit Go.Shelf Go.Proofs.YtfbjjbbhnmoolaaW.PrintWords Go.Proofs.YtfbjjbbhnmoolaaW.PrintLast Go.Proofs.YtfbjjbbhnmoolaaW.PrintMore
theorem from10_back (b : Hi) (a : Fh) (hw : wfH b) (hc : checkR b = 0) (hf : fromF b = a) : ∀ (w : World) (u : Value), HI w u b → Calls Try.prog 11 #[u] w fun r w' => ∃ D5x g5x D6x g6x D7x g7x D8x g8x, r = .returned (.tuple #[.agg #[.int .i64 a.f0, .int .u64 a.f1, .int .u64 a.f2, .int .u64 a.f3, .int .u64 a.f4, .slice D5x a.f5.length g5x, .slice D6x a.f6.length g6x, .slice D7x a.f7.length g7x, .slice D8x a.f8.length g8x], .int .i64 0]) ∧ SI kSp w' (.slice D5x a.f5.length g5x) a.f5 ∧ SI kSp w' (.slice D6x a.f6.length g6x) a.f6 ∧ SI (Kd.int .u64) w' (.slice D7x a.f7.length g7x) a.f7 ∧ SI (Kd.int .u64) w' (.slice D8x a.f8.length g8x) a.f8 ∧ Below w.heap.size w w' := by
  intro w u hu
  have hr : fromR b = (a, 0) := by unfold fromR; rw [if_neg (fun q => q hc), hf]
  exact (from10_c b a 0 _ _ _ _ hw hr rfl rfl rfl rfl w u hu).mono fun r w1 ⟨D5, g5, D6, g6, D7, g7, D8, g8, e, k5, k6, k7, k8, _, hb⟩ => ⟨D5, g5, D6, g6, D7, g7, D8, g8, e, k5, k6, k7, k8, hb⟩
theorem back10_any (a : Fh) (x : Hi) (e : Int) (hw : wfF a) (h7 : a.f7.length ≤ 4096) (h8 : a.f8.length ≤ 4096) (hx : backR a = (x, e)) : ∀ (w : World) (u : Value), GI w u a → Calls Try.prog 35 #[u] w fun r w' => ∃ D5x g5x D6x g6x D7x g7x D8x g8x, r = .returned (.tuple #[.agg #[.int .i64 x.f0, .int .u64 x.f1, .int .u64 x.f2, .int .u64 x.f3, .int .u64 x.f4, .slice D5x x.f5.length g5x, .slice D6x x.f6.length g6x, .slice D7x x.f7.length g7x, .slice D8x x.f8.length g8x], .int .i64 e]) ∧ HI w' (.agg #[.int .i64 x.f0, .int .u64 x.f1, .int .u64 x.f2, .int .u64 x.f3, .int .u64 x.f4, .slice D5x x.f5.length g5x, .slice D6x x.f6.length g6x, .slice D7x x.f7.length g7x, .slice D8x x.f8.length g8x]) x ∧ Below w.heap.size w w' := fun w u hu => back_c a x e hw h7 h8 hx w u hu
set_option maxHeartbeats 32000000 in
set_option maxRecDepth 100000 in
theorem fhistBack_no (a : Fh) (hW : wfF a) (n5 : a.f5.length ≤ 400) (n6 : a.f6.length ≤ 400) (n7 : a.f7.length ≤ 300) (n8 : a.f8.length ≤ 300) (hr : checkF a ≠ 0) (cs : ∀ (w : World) (v : Value), GI w v a → Calls Try.prog 34 #[v] w fun e w' => e = .returned (.bool true) ∧ Below w.heap.size w w') (w : World) (u : Value) (hua : GI w u a) : Calls Try.prog 7 #[u] w fun e w' => e = .returned (.bool true) ∧ Below w.heap.size w w' := by
  have hud := Try.underlying26
  have huf := Try.underlying31
  have b1 := back10_any a emptyH (checkF a) hW (by omega) (by omega) (by unfold backR; rw [if_pos hr])
  have cr := ref10_c a (by omega) (by omega)
  have cq := refCheckF_c a hW
  generalize checkF a = r at *
  have d1 : (r != 0) = true := bne_iff_ne.2 hr
  have d2 : (r == r) = true := beq_self_eq_true _
  have CS := Aside0.mk cs
  have B1 := Aside0.mk (show ∀ (w : World) (u : Value), GI w u a → Calls Try.prog 35 #[u] w fun q w' => ∃ D5x g5x D6x g6x D7x g7x D8x g8x, q = .returned (.tuple #[.agg #[.int .i64 0, .int .u64 0, .int .u64 0, .int .u64 0, .int .u64 0, .slice D5x 0 g5x, .slice D6x 0 g6x, .slice D7x 0 g7x, .slice D8x 0 g8x], .int .i64 r]) ∧ Below w.heap.size w w' from fun w u hu => (b1 w u hu).mono fun q w1 ⟨D5, g5, D6, g6, D7, g7, D8, g8, e, _, hb⟩ => ⟨D5, g5, D6, g6, D7, g7, D8, g8, e, hb⟩)
  have CR := Aside0.mk cr
  have CQ := Aside0.mk cq
  clear cs b1 cr cq hr hW n5 n6 n7 n8
  obtain ⟨A5, c5, A6, c6, A7, c7, A8, c8, e_, i5, i6, i7, i8⟩ := hua.open_
  subst e_
  have B := Aside0.mk (below_alloc (Below.refl w.heap.size w) (.cells #[.int .i64 a.f0, .int .u64 a.f1, .int .u64 a.f2, .int .u64 a.f3, .int .u64 a.f4, .slice A5 a.f5.length c5, .slice A6 a.f6.length c6, .slice A7 a.f7.length c7, .slice A8 a.f8.length c8] 31))
  have X := Aside0.mk (Blk.new w #[.int .i64 a.f0, .int .u64 a.f1, .int .u64 a.f2, .int .u64 a.f3, .int .u64 a.f4, .slice A5 a.f5.length c5, .slice A6 a.f6.length c6, .slice A7 a.f7.length c7, .slice A8 a.f8.length c8] 31)
  have hx := fun i => X.out.cell i
  have HA := Aside0.mk (hua.below B.out)
  have H5 := Aside0.mk (i5.below B.out)
  have H6 := Aside0.mk (i6.below B.out)
  have H7 := Aside0.mk (i7.below B.out)
  have H8 := Aside0.mk (i8.below B.out)
  clear hua i5 i6 i7 i8
  go_enter Try.func7, Try.ntmps7
  go_wp2_with (first | (go_at_call 34; (with_reducible refine (CS.out _ _ HA.out).mono ?_); rintro e W1 ⟨rfl, hb⟩; replace B := Aside0.mk (below_then B.out B.out.size hb); replace HA := Aside0.mk (HA.out.below hb); replace H5 := Aside0.mk (H5.out.below hb); replace H6 := Aside0.mk (H6.out.below hb); replace H7 := Aside0.mk (H7.out.below hb); replace H8 := Aside0.mk (H8.out.below hb); replace X := Aside0.mk (X.out.below hb); replace hx := fun i => X.out.cell i; clear  hb) | (go_at_call 35; (with_reducible refine (B1.out _ _ HA.out).mono ?_); rintro e W2 ⟨D5x, g5x, D6x, g6x, D7x, g7x, D8x, g8x, rfl, hb⟩; replace B := Aside0.mk (below_then B.out B.out.size hb); replace HA := Aside0.mk (HA.out.below hb); replace H5 := Aside0.mk (H5.out.below hb); replace H6 := Aside0.mk (H6.out.below hb); replace H7 := Aside0.mk (H7.out.below hb); replace H8 := Aside0.mk (H8.out.below hb); replace X := Aside0.mk (X.out.below hb); replace hx := fun i => X.out.cell i; have hxa := fun i => (X.out.alloc (.cells #[.int .i64 0, .int .u64 0, .int .u64 0, .int .u64 0, .int .u64 0, .slice D5x 0 g5x, .slice D6x 0 g6x, .slice D7x 0 g7x, .slice D8x 0 g8x] 26)).cell i; clear  hb))
  (try clear hxa)
  have hal := below_alloc (Below.refl W2.heap.size W2) (.cells #[.int .i64 0, .int .u64 0, .int .u64 0, .int .u64 0, .int .u64 0, .slice D5x 0 g5x, .slice D6x 0 g6x, .slice D7x 0 g7x, .slice D8x 0 g8x] 26)
  replace B := Aside0.mk (below_then B.out B.out.size hal)
  replace HA := Aside0.mk (HA.out.below hal)
  replace H5 := Aside0.mk (H5.out.below hal)
  replace H6 := Aside0.mk (H6.out.below hal)
  replace H7 := Aside0.mk (H7.out.below hal)
  replace H8 := Aside0.mk (H8.out.below hal)
  replace X := Aside0.mk (X.out.alloc (.cells #[.int .i64 0, .int .u64 0, .int .u64 0, .int .u64 0, .int .u64 0, .slice D5x 0 g5x, .slice D6x 0 g6x, .slice D7x 0 g7x, .slice D8x 0 g8x] 26)); replace hx := fun i => X.out.cell i
  have T := Aside0.mk (Blk.new W2 #[.int .i64 0, .int .u64 0, .int .u64 0, .int .u64 0, .int .u64 0, .slice D5x 0 g5x, .slice D6x 0 g6x, .slice D7x 0 g7x, .slice D8x 0 g8x] 26); have ht := fun i => T.out.cell i; clear hal
  go_wp2_with (first | (go_at_call 37; (with_reducible refine (CR.out _ _ HA.out).mono ?_); rintro e W3 ⟨rv, rfl, hr, hb⟩; replace B := Aside0.mk (below_then B.out B.out.size hb); replace HA := Aside0.mk (HA.out.below hb); replace H5 := Aside0.mk (H5.out.below hb); replace H6 := Aside0.mk (H6.out.below hb); replace H7 := Aside0.mk (H7.out.below hb); replace H8 := Aside0.mk (H8.out.below hb); replace X := Aside0.mk (X.out.below hb); replace hx := fun i => X.out.cell i; replace T := Aside0.mk (T.out.below hb); replace ht := fun i => T.out.cell i; have RV := Aside0.mk hr; clear hr hb) | (go_at_call 36; (with_reducible refine (CQ.out _ _ RV.out).mono ?_); rintro e W4 ⟨rfl, hb⟩; replace B := Aside0.mk (below_then B.out B.out.size hb); replace HA := Aside0.mk (HA.out.below hb); replace H5 := Aside0.mk (H5.out.below hb); replace H6 := Aside0.mk (H6.out.below hb); replace H7 := Aside0.mk (H7.out.below hb); replace H8 := Aside0.mk (H8.out.below hb); replace RV := Aside0.mk (RV.out.below hb); replace X := Aside0.mk (X.out.below hb); replace hx := fun i => X.out.cell i; replace T := Aside0.mk (T.out.below hb); replace ht := fun i => T.out.cell i; clear  hb) | (go_at_call 33; (with_reducible refine (awake10_c _).mono ?_); rintro e W5 ⟨rfl, hb⟩; replace B := Aside0.mk (below_then B.out B.out.size hb); replace HA := Aside0.mk (HA.out.below hb); replace H5 := Aside0.mk (H5.out.below hb); replace H6 := Aside0.mk (H6.out.below hb); replace H7 := Aside0.mk (H7.out.below hb); replace H8 := Aside0.mk (H8.out.below hb); replace RV := Aside0.mk (RV.out.below hb); replace X := Aside0.mk (X.out.below hb); replace hx := fun i => X.out.cell i; replace T := Aside0.mk (T.out.below hb); replace ht := fun i => T.out.cell i; clear  hb))
  go_ret
  exact ⟨rfl, B.out⟩
set_option maxHeartbeats 64000000 in
set_option maxRecDepth 100000 in
theorem fhistBack_yes (a : Fh) (hW : wfF a) (n5 : a.f5.length ≤ 400) (n6 : a.f6.length ≤ 400) (n7 : a.f7.length ≤ 300) (n8 : a.f8.length ≤ 300) (hr : checkF a = 0) (cs : ∀ (w : World) (v : Value), GI w v a → Calls Try.prog 34 #[v] w fun e w' => e = .returned (.bool true) ∧ Below w.heap.size w w') (w : World) (u : Value) (hua : GI w u a) : Calls Try.prog 7 #[u] w fun e w' => e = .returned (.bool true) ∧ Below w.heap.size w w' := by
  have hud := Try.underlying26
  have huf := Try.underlying31
  obtain ⟨x, e, hx⟩ : ∃ x e, backR a = (x, e) := ⟨_, _, rfl⟩
  have P1 := Aside0.mk (show ∀ v ∈ ([a.f2, a.f3] ++ a.f7) ++ a.f8, (wholeI v).2 = false → e = 10 from fun v hv hf => by
    have := back_form hr hv hf
    rw [hx] at this
    exact (Prod.mk.inj this).2)
  have P2 := Aside0.mk (show (∀ v ∈ ([a.f2, a.f3] ++ a.f7) ++ a.f8, (wholeI v).2 = true) → (bey (([a.f2, a.f3] ++ a.f7) ++ a.f8) (([a.f2, a.f3] ++ a.f7) ++ a.f8).length = true → e = 28) ∧ (bey (([a.f2, a.f3] ++ a.f7) ++ a.f8) (([a.f2, a.f3] ++ a.f7) ++ a.f8).length = false → (e = 22 ∧ x.f3 = 0) ∨ (e = 0 ∧ checkR x = 0 ∧ wfH x ∧ fromF x = a)) from fun ha => by
    obtain ⟨q1, q2⟩ := back_ends hW hr (by omega) (by omega) ha
    rw [hx] at q1 q2
    refine ⟨fun hb => (Prod.mk.inj (q1 hb)).2, fun hb => ?_⟩
    rcases q2 hb with k | ⟨k, k1, k2, k3⟩
    · obtain ⟨rfl, rfl⟩ := Prod.mk.inj k
      exact .inl ⟨rfl, rfl⟩
    · obtain ⟨rfl, rfl⟩ := Prod.mk.inj k
      exact .inr ⟨rfl, k1, k2, k3⟩)
  have b1 := back10_any a x e hW (by omega) (by omega) hx
  have cr := ref10_c a (by omega) (by omega)
  have cq := refCheckF_c a hW
  rw [hr] at cq
  have HU := Aside0.mk (show ∀ v ∈ ([a.f2, a.f3] ++ a.f7) ++ a.f8, u64 v from fun v hv => by
    rcases List.mem_append.1 hv with hv | hv
    · rcases List.mem_append.1 hv with hv | hv
      · rcases List.mem_cons.1 hv with e | hv
        · rw [e]; exact hW.2.2.1
        · rcases List.mem_cons.1 hv with e | hv
          · rw [e]; exact hW.2.2.2.1
          · cases hv
      · exact hW.2.2.2.2.2.2.2.1 v hv
    · exact hW.2.2.2.2.2.2.2.2.1 v hv)
  have M7 := Aside0.mk (same10b_c a.f7 (by omega))
  have M8 := Aside0.mk (same10b_c a.f8 (by omega))
  have L5 := Aside0.mk (alike10_c a.f5 (by omega))
  have L6 := Aside0.mk (alike10_c a.f6 (by omega))
  have CS := Aside0.mk cs
  have B1 := Aside0.mk b1
  have CR := Aside0.mk cr
  have CQ := Aside0.mk cq
  have LN := Aside0.mk (And.intro n7 n8)
  clear cs b1 cr cq hr hx hW n5 n6 n7 n8
  obtain ⟨A5, c5, A6, c6, A7, c7, A8, c8, e_, i5, i6, i7, i8⟩ := hua.open_
  subst e_
  have B := Aside0.mk (below_alloc (Below.refl w.heap.size w) (.cells #[.int .i64 a.f0, .int .u64 a.f1, .int .u64 a.f2, .int .u64 a.f3, .int .u64 a.f4, .slice A5 a.f5.length c5, .slice A6 a.f6.length c6, .slice A7 a.f7.length c7, .slice A8 a.f8.length c8] 31))
  have X := Aside0.mk (Blk.new w #[.int .i64 a.f0, .int .u64 a.f1, .int .u64 a.f2, .int .u64 a.f3, .int .u64 a.f4, .slice A5 a.f5.length c5, .slice A6 a.f6.length c6, .slice A7 a.f7.length c7, .slice A8 a.f8.length c8] 31)
  have hx := fun i => X.out.cell i
  have HA := Aside0.mk (hua.below B.out)
  have H5 := Aside0.mk (i5.below B.out)
  have H6 := Aside0.mk (i6.below B.out)
  have H7 := Aside0.mk (i7.below B.out)
  have H8 := Aside0.mk (i8.below B.out)
  clear hua i5 i6 i7 i8
  go_enter Try.func7, Try.ntmps7
  go_wp2_with (first | (go_at_call 34; (with_reducible refine (CS.out _ _ HA.out).mono ?_); rintro e W1 ⟨rfl, hb⟩; replace B := Aside0.mk (below_then B.out B.out.size hb); replace HA := Aside0.mk (HA.out.below hb); replace H5 := Aside0.mk (H5.out.below hb); replace H6 := Aside0.mk (H6.out.below hb); replace H7 := Aside0.mk (H7.out.below hb); replace H8 := Aside0.mk (H8.out.below hb); replace X := Aside0.mk (X.out.below hb); replace hx := fun i => X.out.cell i; clear  hb) | (go_at_call 35; (with_reducible refine (B1.out _ _ HA.out).mono ?_); rintro e W2 ⟨D5x, g5x, D6x, g6x, D7x, g7x, D8x, g8x, rfl, hh, hb⟩; replace B := Aside0.mk (below_then B.out B.out.size hb); replace HA := Aside0.mk (HA.out.below hb); replace H5 := Aside0.mk (H5.out.below hb); replace H6 := Aside0.mk (H6.out.below hb); replace H7 := Aside0.mk (H7.out.below hb); replace H8 := Aside0.mk (H8.out.below hb); replace X := Aside0.mk (X.out.below hb); replace hx := fun i => X.out.cell i; have HB := Aside0.mk hh; have hxa := fun i => (X.out.alloc (.cells #[.int .i64 x.f0, .int .u64 x.f1, .int .u64 x.f2, .int .u64 x.f3, .int .u64 x.f4, .slice D5x x.f5.length g5x, .slice D6x x.f6.length g6x, .slice D7x x.f7.length g7x, .slice D8x x.f8.length g8x] 26)).cell i; clear hh hb))
  (try clear hxa)
  have hal := below_alloc (Below.refl W2.heap.size W2) (.cells #[.int .i64 x.f0, .int .u64 x.f1, .int .u64 x.f2, .int .u64 x.f3, .int .u64 x.f4, .slice D5x x.f5.length g5x, .slice D6x x.f6.length g6x, .slice D7x x.f7.length g7x, .slice D8x x.f8.length g8x] 26)
  replace B := Aside0.mk (below_then B.out B.out.size hal)
  replace HA := Aside0.mk (HA.out.below hal)
  replace H5 := Aside0.mk (H5.out.below hal)
  replace H6 := Aside0.mk (H6.out.below hal)
  replace H7 := Aside0.mk (H7.out.below hal)
  replace H8 := Aside0.mk (H8.out.below hal)
  replace HB := Aside0.mk (HB.out.below hal)
  replace X := Aside0.mk (X.out.alloc (.cells #[.int .i64 x.f0, .int .u64 x.f1, .int .u64 x.f2, .int .u64 x.f3, .int .u64 x.f4, .slice D5x x.f5.length g5x, .slice D6x x.f6.length g6x, .slice D7x x.f7.length g7x, .slice D8x x.f8.length g8x] 26)); replace hx := fun i => X.out.cell i
  have T := Aside0.mk (Blk.new W2 #[.int .i64 x.f0, .int .u64 x.f1, .int .u64 x.f2, .int .u64 x.f3, .int .u64 x.f4, .slice D5x x.f5.length g5x, .slice D6x x.f6.length g6x, .slice D7x x.f7.length g7x, .slice D8x x.f8.length g8x] 26); have ht := fun i => T.out.cell i; clear hal
  go_wp2_with (first | (go_at_call 37; (with_reducible refine (CR.out _ _ HA.out).mono ?_); rintro e W3 ⟨rv, rfl, hr, hb⟩; replace B := Aside0.mk (below_then B.out B.out.size hb); replace HA := Aside0.mk (HA.out.below hb); replace H5 := Aside0.mk (H5.out.below hb); replace H6 := Aside0.mk (H6.out.below hb); replace H7 := Aside0.mk (H7.out.below hb); replace H8 := Aside0.mk (H8.out.below hb); replace HB := Aside0.mk (HB.out.below hb); replace X := Aside0.mk (X.out.below hb); replace hx := fun i => X.out.cell i; replace T := Aside0.mk (T.out.below hb); replace ht := fun i => T.out.cell i; have RV := Aside0.mk hr; clear hr hb) | (go_at_call 36; (with_reducible refine (CQ.out _ _ RV.out).mono ?_); rintro e W4 ⟨rfl, hb⟩; replace B := Aside0.mk (below_then B.out B.out.size hb); replace HA := Aside0.mk (HA.out.below hb); replace H5 := Aside0.mk (H5.out.below hb); replace H6 := Aside0.mk (H6.out.below hb); replace H7 := Aside0.mk (H7.out.below hb); replace H8 := Aside0.mk (H8.out.below hb); replace HB := Aside0.mk (HB.out.below hb); replace RV := Aside0.mk (RV.out.below hb); replace X := Aside0.mk (X.out.below hb); replace hx := fun i => X.out.cell i; replace T := Aside0.mk (T.out.below hb); replace ht := fun i => T.out.cell i; clear  hb))
  go_region_held3 (fun W => (∀ i, W.cell? ⟨w.heap.size, i, none⟩ = (#[.int .i64 a.f0, .int .u64 a.f1, .int .u64 a.f2, .int .u64 a.f3, .int .u64 a.f4, .slice A5 a.f5.length c5, .slice A6 a.f6.length c6, .slice A7 a.f7.length c7, .slice A8 a.f8.length c8] : Array Value)[i]?) ∧ (∀ i, W.cell? ⟨W2.heap.size, i, none⟩ = (#[.int .i64 x.f0, .int .u64 x.f1, .int .u64 x.f2, .int .u64 x.f3, .int .u64 x.f4, .slice D5x x.f5.length g5x, .slice D6x x.f6.length g6x, .slice D7x x.f7.length g7x, .slice D8x x.f8.length g8x] : Array Value)[i]?)) (first | (with_reducible exact ⟨fun i => X.out.cell i, fun i => T.out.cell i⟩) | (with_reducible exact ⟨fun i => (X.out.below HB1.out).cell i, fun i => (T.out.below HB1.out).cell i⟩) | (exact ⟨fun i => (X.out.below (below_drew (Below.refl _ _))).cell i, fun i => (T.out.below (below_drew (Below.refl _ _))).cell i⟩) | (exact ⟨fun i => (X.out.below (below_drew (below_alloc (Below.refl _ _) _))).cell i, fun i => (T.out.below (below_drew (below_alloc (Below.refl _ _) _))).cell i⟩)) (first | (refine Kd.R_append_rows_step (Kd.int .u64) (w0 := W4) W4.heap.size (by rfl) (.tmp 37) (.tmp 39) 29 22 (.int .u64 0) 8 rfl Try.underlying29 info22 rfl (by decide) (by omega) (.slice (some ⟨W4.heap.size, 0, none⟩) 2 2) [a.f2, a.f3] a.f7 _ _ _ (fun _ => True) (fun _ => False) rfl rfl ?aO ?aR (fun _ _ h => h) (fun _ h => h.elim) (fun _ _ => trivial) ?aB ?aS ?aL ?_; (case aO => exact Kd.R_of_own (enc := fun x => .int .u64 x) (World.ownsRow_lit (size := 1) (base := W4.heap.size) W4 #[.int .u64 a.f2, .int .u64 a.f3] 2 (Nat.le_refl _) (by unfold maxLen; omega) rfl) (fun _ _ => trivial)); (case aR => (obtain ⟨_, _, e', _, hr'⟩ := H7.out.below (below_drew (below_alloc (Below.refl _ _) _)); cases e'; exact hr')); (case aB => exact below_drew (below_alloc (Below.refl _ _) _)); (case aS => simp); (case aL => (have := LN.out; simp; omega)); intro v1 w1 ho hb hg hat; have HO1 := Aside0.mk ho; have HB1 := Aside0.mk hb; clear ho hb hg hat) | (refine Kd.R_append_rows_step (Kd.int .u64) (w0 := W4) W4.heap.size (by rfl) (.tmp 40) (.tmp 42) 29 22 (.int .u64 0) 8 rfl Try.underlying29 info22 rfl (by decide) (by omega) _ ([a.f2, a.f3] ++ a.f7) a.f8 _ _ _ (fun _ => True) (fun _ => False) rfl rfl ?aO ?aR (fun _ _ h => h) (fun _ h => h.elim) (fun _ _ => trivial) ?aB ?aS ?aL ?_; (case aO => exact HO1.out); (case aR => (obtain ⟨_, _, e', _, hr'⟩ := H8.out.below HB1.out; cases e'; exact hr')); (case aB => exact HB1.out); (case aS => exact HB1.out.size); (case aL => (have := LN.out; simp only [List.length_append, List.length_cons, List.length_nil]; omega)); intro v2 w2 ho hb hg hat; obtain ⟨l, el⟩ : ∃ l_, l_ = ([a.f2, a.f3] ++ a.f7) ++ a.f8 := ⟨_, rfl⟩; rw [← el] at ho; have EL := Aside0.mk el; clear el; have L := Aside0.mk (SI.of_R ho); have hl' := L.out; obtain ⟨LA, Lc, eL, hLc, hLr⟩ := hl'; subst eL; have HR := Aside0.mk hLr; clear hLc hLr; replace B := Aside0.mk (below_then B.out B.out.size hb); replace HA := Aside0.mk (HA.out.below hb); replace H5 := Aside0.mk (H5.out.below hb); replace H6 := Aside0.mk (H6.out.below hb); replace H7 := Aside0.mk (H7.out.below hb); replace H8 := Aside0.mk (H8.out.below hb); replace HB := Aside0.mk (HB.out.below hb); replace X := Aside0.mk (X.out.below hb); replace hx := fun i => X.out.cell i; replace T := Aside0.mk (T.out.below hb); replace ht := fun i => T.out.cell i; clear ho hb hg hat HO1 HB1))
  have NL := Aside0.mk (show l.length ≤ 4096 by have := LN.out; rw [EL.out]; simp only [List.length_append, List.length_cons, List.length_nil]; omega)
  rw [← EL.out] at P1 P2 HU
  clear LN EL CR CQ CS B1
  go_wp2
  go_loopg [6, 45] l.length (fun gg v6 v45 wr => ∃ j : Nat, v6 = .bool (bey l j) ∧ v45 = .int .i64 (j : Int) ∧ Aside0 (j + gg = l.length) ∧ Aside0 (∀ (i : Nat) (h : i < l.length), i < j → (wholeI l[i]).2 = true) ∧ Aside0 (Below w2.heap.size w2 wr))
  case atStart => exact ⟨0, by rw [bey_zero], rfl, ⟨by simp⟩, ⟨fun i h q => absurd q (Nat.not_lt_zero _)⟩, ⟨Below.refl _ _⟩⟩
  case round =>
    obtain ⟨j, rfl, rfl, HJ, HQ, HL⟩ := hrel
    have hb := HL.out
    replace B := Aside0.mk (below_then B.out B.out.size hb)
    replace HA := Aside0.mk (HA.out.below hb)
    replace H5 := Aside0.mk (H5.out.below hb)
    replace H6 := Aside0.mk (H6.out.below hb)
    replace H7 := Aside0.mk (H7.out.below hb)
    replace H8 := Aside0.mk (H8.out.below hb)
    replace HB := Aside0.mk (HB.out.below hb)
    replace HR := Aside0.mk (Kd.C_below HR.out hb)
    replace X := Aside0.mk (X.out.below hb)
    replace hx := fun i => X.out.cell i
    replace T := Aside0.mk (T.out.below hb)
    replace ht := fun i => T.out.cell i
    clear hb
    by_cases hlt : j < l.length
    · obtain ⟨ko, rfl⟩ : ∃ ko, gk = ko + 1 := ⟨gk - 1, by have := HJ.out; omega⟩
      obtain ⟨ad, ea, hcell⟩ := Kd.at_int HR.out (j : Int) (by omega) (by omega)
      subst ea
      rw [Int.toNat_natCast, rd_at hlt] at hcell
      have cw := refWhole_c l[j] (HU.out _ (List.getElem_mem hlt))
      have hs := bey_succ hlt
      have HP := Aside0.mk (P1.out _ (List.getElem_mem hlt))
      have HS := Aside0.mk (fun (q : (wholeI l[j]).2 = true) (i : Nat) (h : i < l.length) (hi : i < j + 1) => if hij : i = j then (by subst hij; exact q) else HQ.out i h (by omega))
      have p1 : (0 : Int) ≤ (j : Int) := by omega
      have p2 : (j : Int) < (l.length : Int) := by omega
      have p3 : decide ((j : Int) < (l.length : Int)) = true := decide_eq_true p2
      have p4 : wrap64 ((j : Int) + 1) = ((j + 1 : Nat) : Int) := by have := NL.out; rw [wrap_succ (by omega)]
      generalize hv : l[j] = v at *
      clear hv hlt HQ
      by_cases hwn : (wholeI v).2 = true
      · rw [if_pos hwn] at cw
        have HS' := Aside0.mk (HS.out hwn)
        have CW := Aside0.mk cw
        generalize (wholeI v).1 = n at *
        clear cw hwn HP HS
        generalize k1 : decide ((j : Int) > 1) = b1 at *
        have k1' : decide (1 < (j : Int)) = b1 := k1
        generalize k2 : decide (n > 9223372036854775807) = b2 at *
        have k2' : decide (9223372036854775807 < n) = b2 := k2
        generalize bey l j = b0 at *
        cases b0 <;> cases b1 <;> cases b2
        all_goals go_wp2_with (first | (go_at_call 30; (with_reducible refine (CW.out _).mono ?_); rintro e W21 ⟨rfl, hb⟩; replace B := Aside0.mk (below_then B.out B.out.size hb); replace HA := Aside0.mk (HA.out.below hb); replace H5 := Aside0.mk (H5.out.below hb); replace H6 := Aside0.mk (H6.out.below hb); replace H7 := Aside0.mk (H7.out.below hb); replace H8 := Aside0.mk (H8.out.below hb); replace HB := Aside0.mk (HB.out.below hb); replace X := Aside0.mk (X.out.below hb); replace hx := fun i => X.out.cell i; replace T := Aside0.mk (T.out.below hb); replace ht := fun i => T.out.cell i; replace HL := Aside0.mk (below_then HL.out HL.out.size hb); replace HR := Aside0.mk (Kd.C_below HR.out hb); clear  hb))
        all_goals go_roundg ko
        all_goals first | (case measure => have := HJ.out; omega) | skip
        all_goals exact ⟨j + 1, by rw [hs]; rfl, by go_num, ⟨by have := HJ.out; omega⟩, HS', HL⟩
      · have hf : (wholeI v).2 = false := by simpa using hwn
        rw [if_neg hwn] at cw
        have he := HP.out hf
        have d : (e == 10) = true := by rw [he]; rfl
        have CW := Aside0.mk cw
        generalize (wholeI v).1 = n at *
        clear cw hwn hf HP HS hs he
        go_wp2_with (first | (go_at_call 30; (with_reducible refine (CW.out _).mono ?_); rintro e W21 ⟨rfl, hb⟩; replace B := Aside0.mk (below_then B.out B.out.size hb); replace HA := Aside0.mk (HA.out.below hb); replace H5 := Aside0.mk (H5.out.below hb); replace H6 := Aside0.mk (H6.out.below hb); replace H7 := Aside0.mk (H7.out.below hb); replace H8 := Aside0.mk (H8.out.below hb); replace HB := Aside0.mk (HB.out.below hb); replace X := Aside0.mk (X.out.below hb); replace hx := fun i => X.out.cell i; replace T := Aside0.mk (T.out.below hb); replace ht := fun i => T.out.cell i; replace HL := Aside0.mk (below_then HL.out HL.out.size hb); replace HR := Aside0.mk (Kd.C_below HR.out hb); clear  hb) | (go_at_call 33; (with_reducible refine (awake10_c _).mono ?_); rintro e W22 ⟨rfl, hb⟩; replace B := Aside0.mk (below_then B.out B.out.size hb); replace HA := Aside0.mk (HA.out.below hb); replace H5 := Aside0.mk (H5.out.below hb); replace H6 := Aside0.mk (H6.out.below hb); replace H7 := Aside0.mk (H7.out.below hb); replace H8 := Aside0.mk (H8.out.below hb); replace HB := Aside0.mk (HB.out.below hb); replace X := Aside0.mk (X.out.below hb); replace hx := fun i => X.out.cell i; replace T := Aside0.mk (T.out.below hb); replace ht := fun i => T.out.cell i; clear  hb))
        go_ret
        exact ⟨rfl, B.out⟩
    · have p3 : decide ((j : Int) < (l.length : Int)) = false := decide_eq_false (by omega)
      have ej : j = l.length := by have := HJ.out; omega
      subst ej
      have ha : ∀ v ∈ l, (wholeI v).2 = true := fun v hv => by
        obtain ⟨i, hi, rfl⟩ := List.getElem_of_mem hv
        exact HQ.out i hi hi
      obtain ⟨q1, q2⟩ := P2.out ha
      clear ha P1 P2 HQ HU hlt
      cases hQ : bey l l.length with
      | true =>
        have d : (e == 28) = true := by rw [q1 hQ]; rfl
        clear q1 q2 hQ
        go_wp2_with (first | (go_at_call 33; (with_reducible refine (awake10_c _).mono ?_); rintro e W31 ⟨rfl, hb⟩; replace B := Aside0.mk (below_then B.out B.out.size hb); replace HA := Aside0.mk (HA.out.below hb); replace H5 := Aside0.mk (H5.out.below hb); replace H6 := Aside0.mk (H6.out.below hb); replace H7 := Aside0.mk (H7.out.below hb); replace H8 := Aside0.mk (H8.out.below hb); replace HB := Aside0.mk (HB.out.below hb); replace X := Aside0.mk (X.out.below hb); replace hx := fun i => X.out.cell i; replace T := Aside0.mk (T.out.below hb); replace ht := fun i => T.out.cell i; clear  hb))
        go_ret
        exact ⟨rfl, B.out⟩
      | false =>
        rcases q2 hQ with ⟨k1, k2⟩ | ⟨k1, k2, k3, k4⟩
        · have d1 : (e != 0) = true := by rw [k1]; rfl
          have d2 : (e == 22) = true := by rw [k1]; rfl
          have d3 : (x.f3 == 0) = true := by rw [k2]; rfl
          clear q1 q2 hQ k1 k2
          go_wp2_with (first | (go_at_call 33; (with_reducible refine (awake10_c _).mono ?_); rintro e W31 ⟨rfl, hb⟩; replace B := Aside0.mk (below_then B.out B.out.size hb); replace HA := Aside0.mk (HA.out.below hb); replace H5 := Aside0.mk (H5.out.below hb); replace H6 := Aside0.mk (H6.out.below hb); replace H7 := Aside0.mk (H7.out.below hb); replace H8 := Aside0.mk (H8.out.below hb); replace HB := Aside0.mk (HB.out.below hb); replace X := Aside0.mk (X.out.below hb); replace hx := fun i => X.out.cell i; replace T := Aside0.mk (T.out.below hb); replace ht := fun i => T.out.cell i; clear  hb))
          go_ret
          exact ⟨rfl, B.out⟩
        · have N1 := Aside0.mk (from10_back x a k3 k2 k4)
          have d1 : (e != 0) = false := by rw [k1]; rfl
          clear q1 q2 hQ k1 k2 k3 k4
          go_wp2_with (first | (go_at_call 11; (with_reducible refine (N1.out _ _ HB.out).mono ?_); rintro e W41 ⟨D5y, g5y, D6y, g6y, D7y, g7y, D8y, g8y, rfl, k5, k6, k7, k8, hb⟩; replace B := Aside0.mk (below_then B.out B.out.size hb); replace HA := Aside0.mk (HA.out.below hb); replace H5 := Aside0.mk (H5.out.below hb); replace H6 := Aside0.mk (H6.out.below hb); replace H7 := Aside0.mk (H7.out.below hb); replace H8 := Aside0.mk (H8.out.below hb); replace HB := Aside0.mk (HB.out.below hb); replace X := Aside0.mk (X.out.below hb); replace hx := fun i => X.out.cell i; replace T := Aside0.mk (T.out.below hb); replace ht := fun i => T.out.cell i; have Y5 := Aside0.mk k5; have Y6 := Aside0.mk k6; have Y7 := Aside0.mk k7; have Y8 := Aside0.mk k8; have hxa := fun i => (X.out.alloc (.cells #[.int .i64 a.f0, .int .u64 a.f1, .int .u64 a.f2, .int .u64 a.f3, .int .u64 a.f4, .slice D5y a.f5.length g5y, .slice D6y a.f6.length g6y, .slice D7y a.f7.length g7y, .slice D8y a.f8.length g8y] 31)).cell i; have hta := fun i => (T.out.alloc (.cells #[.int .i64 a.f0, .int .u64 a.f1, .int .u64 a.f2, .int .u64 a.f3, .int .u64 a.f4, .slice D5y a.f5.length g5y, .slice D6y a.f6.length g6y, .slice D7y a.f7.length g7y, .slice D8y a.f8.length g8y] 31)).cell i; clear k5 k6 k7 k8 hb))
          (try clear hxa hta)
          have hal := below_alloc (Below.refl W41.heap.size W41) (.cells #[.int .i64 a.f0, .int .u64 a.f1, .int .u64 a.f2, .int .u64 a.f3, .int .u64 a.f4, .slice D5y a.f5.length g5y, .slice D6y a.f6.length g6y, .slice D7y a.f7.length g7y, .slice D8y a.f8.length g8y] 31)
          replace B := Aside0.mk (below_then B.out B.out.size hal)
          replace HA := Aside0.mk (HA.out.below hal)
          replace H5 := Aside0.mk (H5.out.below hal)
          replace H6 := Aside0.mk (H6.out.below hal)
          replace H7 := Aside0.mk (H7.out.below hal)
          replace H8 := Aside0.mk (H8.out.below hal)
          replace HB := Aside0.mk (HB.out.below hal)
          replace Y5 := Aside0.mk (Y5.out.below hal)
          replace Y6 := Aside0.mk (Y6.out.below hal)
          replace Y7 := Aside0.mk (Y7.out.below hal)
          replace Y8 := Aside0.mk (Y8.out.below hal)
          replace X := Aside0.mk (X.out.alloc (.cells #[.int .i64 a.f0, .int .u64 a.f1, .int .u64 a.f2, .int .u64 a.f3, .int .u64 a.f4, .slice D5y a.f5.length g5y, .slice D6y a.f6.length g6y, .slice D7y a.f7.length g7y, .slice D8y a.f8.length g8y] 31)); replace hx := fun i => X.out.cell i
          replace T := Aside0.mk (T.out.alloc (.cells #[.int .i64 a.f0, .int .u64 a.f1, .int .u64 a.f2, .int .u64 a.f3, .int .u64 a.f4, .slice D5y a.f5.length g5y, .slice D6y a.f6.length g6y, .slice D7y a.f7.length g7y, .slice D8y a.f8.length g8y] 31)); replace ht := fun i => T.out.cell i
          have P := Aside0.mk (Blk.new W41 #[.int .i64 a.f0, .int .u64 a.f1, .int .u64 a.f2, .int .u64 a.f3, .int .u64 a.f4, .slice D5y a.f5.length g5y, .slice D6y a.f6.length g6y, .slice D7y a.f7.length g7y, .slice D8y a.f8.length g8y] 31); have hp := fun i => P.out.cell i; clear hal
          go_wp2_with (first | (go_at_call 38; (with_reducible refine (numbers10_c _ _ _ _ _ _ _ _ _ _ _ _ _ _ _ _ _ _ _ _ _ _ _ _ _ _ _ _ _ _).mono ?_); rintro e W42 ⟨rfl, hb⟩; replace B := Aside0.mk (below_then B.out B.out.size hb); replace HA := Aside0.mk (HA.out.below hb); replace H5 := Aside0.mk (H5.out.below hb); replace H6 := Aside0.mk (H6.out.below hb); replace H7 := Aside0.mk (H7.out.below hb); replace H8 := Aside0.mk (H8.out.below hb); replace HB := Aside0.mk (HB.out.below hb); replace Y5 := Aside0.mk (Y5.out.below hb); replace Y6 := Aside0.mk (Y6.out.below hb); replace Y7 := Aside0.mk (Y7.out.below hb); replace Y8 := Aside0.mk (Y8.out.below hb); replace X := Aside0.mk (X.out.below hb); replace hx := fun i => X.out.cell i; replace T := Aside0.mk (T.out.below hb); replace ht := fun i => T.out.cell i; replace P := Aside0.mk (P.out.below hb); replace hp := fun i => P.out.cell i; clear  hb) | (go_at_call 39; (with_reducible refine (M7.out _ _ _ Y7.out H7.out).mono ?_); rintro e W43 ⟨rfl, hb⟩; replace B := Aside0.mk (below_then B.out B.out.size hb); replace HA := Aside0.mk (HA.out.below hb); replace H5 := Aside0.mk (H5.out.below hb); replace H6 := Aside0.mk (H6.out.below hb); replace H7 := Aside0.mk (H7.out.below hb); replace H8 := Aside0.mk (H8.out.below hb); replace HB := Aside0.mk (HB.out.below hb); replace Y5 := Aside0.mk (Y5.out.below hb); replace Y6 := Aside0.mk (Y6.out.below hb); replace Y7 := Aside0.mk (Y7.out.below hb); replace Y8 := Aside0.mk (Y8.out.below hb); replace X := Aside0.mk (X.out.below hb); replace hx := fun i => X.out.cell i; replace T := Aside0.mk (T.out.below hb); replace ht := fun i => T.out.cell i; replace P := Aside0.mk (P.out.below hb); replace hp := fun i => P.out.cell i; clear  hb) | (go_at_call 39; (with_reducible refine (M8.out _ _ _ Y8.out H8.out).mono ?_); rintro e W44 ⟨rfl, hb⟩; replace B := Aside0.mk (below_then B.out B.out.size hb); replace HA := Aside0.mk (HA.out.below hb); replace H5 := Aside0.mk (H5.out.below hb); replace H6 := Aside0.mk (H6.out.below hb); replace H7 := Aside0.mk (H7.out.below hb); replace H8 := Aside0.mk (H8.out.below hb); replace HB := Aside0.mk (HB.out.below hb); replace Y5 := Aside0.mk (Y5.out.below hb); replace Y6 := Aside0.mk (Y6.out.below hb); replace Y7 := Aside0.mk (Y7.out.below hb); replace Y8 := Aside0.mk (Y8.out.below hb); replace X := Aside0.mk (X.out.below hb); replace hx := fun i => X.out.cell i; replace T := Aside0.mk (T.out.below hb); replace ht := fun i => T.out.cell i; replace P := Aside0.mk (P.out.below hb); replace hp := fun i => P.out.cell i; clear  hb) | (go_at_call 40; (with_reducible refine (L5.out _ _ _ Y5.out H5.out).mono ?_); rintro e W45 ⟨rfl, hb⟩; replace B := Aside0.mk (below_then B.out B.out.size hb); replace HA := Aside0.mk (HA.out.below hb); replace H5 := Aside0.mk (H5.out.below hb); replace H6 := Aside0.mk (H6.out.below hb); replace H7 := Aside0.mk (H7.out.below hb); replace H8 := Aside0.mk (H8.out.below hb); replace HB := Aside0.mk (HB.out.below hb); replace Y5 := Aside0.mk (Y5.out.below hb); replace Y6 := Aside0.mk (Y6.out.below hb); replace Y7 := Aside0.mk (Y7.out.below hb); replace Y8 := Aside0.mk (Y8.out.below hb); replace X := Aside0.mk (X.out.below hb); replace hx := fun i => X.out.cell i; replace T := Aside0.mk (T.out.below hb); replace ht := fun i => T.out.cell i; replace P := Aside0.mk (P.out.below hb); replace hp := fun i => P.out.cell i; clear  hb) | (go_at_call 40; (with_reducible refine (L6.out _ _ _ Y6.out H6.out).mono ?_); rintro e W46 ⟨rfl, hb⟩; replace B := Aside0.mk (below_then B.out B.out.size hb); replace HA := Aside0.mk (HA.out.below hb); replace H5 := Aside0.mk (H5.out.below hb); replace H6 := Aside0.mk (H6.out.below hb); replace H7 := Aside0.mk (H7.out.below hb); replace H8 := Aside0.mk (H8.out.below hb); replace HB := Aside0.mk (HB.out.below hb); replace Y5 := Aside0.mk (Y5.out.below hb); replace Y6 := Aside0.mk (Y6.out.below hb); replace Y7 := Aside0.mk (Y7.out.below hb); replace Y8 := Aside0.mk (Y8.out.below hb); replace X := Aside0.mk (X.out.below hb); replace hx := fun i => X.out.cell i; replace T := Aside0.mk (T.out.below hb); replace ht := fun i => T.out.cell i; replace P := Aside0.mk (P.out.below hb); replace hp := fun i => P.out.cell i; clear  hb) | (go_at_call 33; (with_reducible refine (awake10_c _).mono ?_); rintro e W47 ⟨rfl, hb⟩; replace B := Aside0.mk (below_then B.out B.out.size hb); replace HA := Aside0.mk (HA.out.below hb); replace H5 := Aside0.mk (H5.out.below hb); replace H6 := Aside0.mk (H6.out.below hb); replace H7 := Aside0.mk (H7.out.below hb); replace H8 := Aside0.mk (H8.out.below hb); replace HB := Aside0.mk (HB.out.below hb); replace Y5 := Aside0.mk (Y5.out.below hb); replace Y6 := Aside0.mk (Y6.out.below hb); replace Y7 := Aside0.mk (Y7.out.below hb); replace Y8 := Aside0.mk (Y8.out.below hb); replace X := Aside0.mk (X.out.below hb); replace hx := fun i => X.out.cell i; replace T := Aside0.mk (T.out.below hb); replace ht := fun i => T.out.cell i; replace P := Aside0.mk (P.out.below hb); replace hp := fun i => P.out.cell i; clear  hb))
          go_ret
          exact ⟨rfl, B.out⟩
theorem fhistBack_c (a : Fh) (hw : wfG a) (w : World) (u : Value) (hua : GI w u a) : Calls Try.prog 7 #[u] w fun e w' => e = .returned (.bool true) ∧ Below w.heap.size w w' := by
  obtain ⟨b, hb, cs⟩ := small10_c a hw.2.2.2.2.2.1 hw.2.2.2.2.2.2.1
  cases b with
  | false =>
    have huf := Try.underlying31
    have CS := Aside0.mk cs
    clear cs hb
    obtain ⟨A5, c5, A6, c6, A7, c7, A8, c8, e_, i5, i6, i7, i8⟩ := hua.open_
    subst e_
    have B := Aside0.mk (below_alloc (Below.refl w.heap.size w) (.cells #[.int .i64 a.f0, .int .u64 a.f1, .int .u64 a.f2, .int .u64 a.f3, .int .u64 a.f4, .slice A5 a.f5.length c5, .slice A6 a.f6.length c6, .slice A7 a.f7.length c7, .slice A8 a.f8.length c8] 31))
    have X := Aside0.mk (Blk.new w #[.int .i64 a.f0, .int .u64 a.f1, .int .u64 a.f2, .int .u64 a.f3, .int .u64 a.f4, .slice A5 a.f5.length c5, .slice A6 a.f6.length c6, .slice A7 a.f7.length c7, .slice A8 a.f8.length c8] 31)
    have hx := fun i => X.out.cell i
    have HA := Aside0.mk (hua.below B.out)
    have H5 := Aside0.mk (i5.below B.out)
    have H6 := Aside0.mk (i6.below B.out)
    have H7 := Aside0.mk (i7.below B.out)
    have H8 := Aside0.mk (i8.below B.out)
    clear hua i5 i6 i7 i8
    go_enter Try.func7, Try.ntmps7
    go_wp2_with (first | (go_at_call 34; (with_reducible refine (CS.out _ _ HA.out).mono ?_); rintro e W1 ⟨rfl, hb⟩; replace B := Aside0.mk (below_then B.out B.out.size hb); replace HA := Aside0.mk (HA.out.below hb); replace H5 := Aside0.mk (H5.out.below hb); replace H6 := Aside0.mk (H6.out.below hb); replace H7 := Aside0.mk (H7.out.below hb); replace H8 := Aside0.mk (H8.out.below hb); replace X := Aside0.mk (X.out.below hb); replace hx := fun i => X.out.cell i; clear  hb) | (go_at_call 33; (with_reducible refine (awake10_c _).mono ?_); rintro e W2 ⟨rfl, hb⟩; replace B := Aside0.mk (below_then B.out B.out.size hb); replace HA := Aside0.mk (HA.out.below hb); replace H5 := Aside0.mk (H5.out.below hb); replace H6 := Aside0.mk (H6.out.below hb); replace H7 := Aside0.mk (H7.out.below hb); replace H8 := Aside0.mk (H8.out.below hb); replace X := Aside0.mk (X.out.below hb); replace hx := fun i => X.out.cell i; clear  hb))
    go_ret
    exact ⟨rfl, B.out⟩
  | true =>
    obtain ⟨n5, n6, n7, n8⟩ := hb rfl
    by_cases hr : checkF a = 0
    · exact fhistBack_yes a (wfF_of hw n7 n8) n5 n6 n7 n8 hr cs w u hua
    · exact fhistBack_no a (wfF_of hw n7 n8) n5 n6 n7 n8 hr cs w u hua
def tidepolelaw10_FhistBack.f (s0 z0 zc0 ct0 sm0 : Int) (l0_5 l0_6 : List Sp) (l0_7 l0_8 : List Int) : Option Bool := if wfG ⟨s0, z0, zc0, ct0, sm0, l0_5, l0_6, l0_7, l0_8⟩ then some true else none
theorem tidepolelaw10_FhistBack.calls (s0 : Int) (z0 : Int) (zc0 : Int) (ct0 : Int) (sm0 : Int) (A0_5 : Option Addr) (c0_5 : Nat) (l0_5 : List Sp) (A0_6 : Option Addr) (c0_6 : Nat) (l0_6 : List Sp) (A0_7 : Option Addr) (c0_7 : Nat) (l0_7 : List Int) (A0_8 : Option Addr) (c0_8 : Nat) (l0_8 : List Int) (r : Bool) (w : World) (hr0_5 : Kd.C kSp w A0_5 l0_5.length l0_5) (hc0_5 : l0_5.length ≤ c0_5) (hr0_6 : Kd.C kSp w A0_6 l0_6.length l0_6) (hc0_6 : l0_6.length ≤ c0_6) (hr0_7 : Kd.C (Kd.int .u64) w A0_7 l0_7.length l0_7) (hc0_7 : l0_7.length ≤ c0_7) (hr0_8 : Kd.C (Kd.int .u64) w A0_8 l0_8.length l0_8) (hc0_8 : l0_8.length ≤ c0_8) (h : tidepolelaw10_FhistBack.f s0 z0 zc0 ct0 sm0 l0_5 l0_6 l0_7 l0_8 = some r) :
    Calls Try.prog 7 #[.agg #[.int .i64 s0, .int .u64 z0, .int .u64 zc0, .int .u64 ct0, .int .u64 sm0, .slice A0_5 l0_5.length c0_5, .slice A0_6 l0_6.length c0_6, .slice A0_7 l0_7.length c0_7, .slice A0_8 l0_8.length c0_8]] w fun e w' => e = .returned (.bool r) ∧ Below w.heap.size w w' := by
  obtain ⟨q0, rfl⟩ := of_ite_some h
  exact fhistBack_c _ q0 w _ (GI.mk (h := ⟨s0, z0, zc0, ct0, sm0, l0_5, l0_6, l0_7, l0_8⟩) (.of hr0_5 hc0_5) (.of hr0_6 hc0_6) (.of hr0_7 hc0_7) (.of hr0_8 hc0_8))
end Go.Proofs.Ytfbjjbbhnmoolaa.P
namespace Go.Proofs.Ytfbjjbbhnmoolaa.P
def headSigns : List Char := List.map Char.ofNat [104, 97, 114, 110, 101, 115, 115, 32, 51, 53, 53, 101, 97, 48, 49, 98, 48, 56, 55, 98, 98, 56, 101, 101, 97, 56, 56, 52, 97, 48, 50, 102, 52, 101, 54, 51, 100, 51, 51, 48, 48, 52, 99, 100, 101, 100, 50, 57, 51, 49, 54, 54, 54, 57, 52, 54, 57, 54, 99, 55, 53, 97, 100, 57, 52, 101, 99, 54, 50, 99, 101, 99, 32, 99, 117, 116, 32, 97, 116, 32, 116, 105, 100, 101, 112, 111, 108, 101, 47, 116, 105, 100, 101, 112, 111, 108, 101, 108, 97, 119, 49, 49, 46, 82, 101, 115, 101, 116, 66, 111, 116, 104, 32, 116, 105, 100, 101, 112, 111, 108, 101, 47, 116, 105, 100, 101, 112, 111, 108, 101, 108, 97, 119, 48, 57, 46, 72, 105, 115, 116, 87, 97, 108, 107, 115, 32, 116, 105, 100, 101, 112, 111, 108, 101, 47, 116, 105, 100, 101, 112, 111, 108, 101, 108, 97, 119, 50, 57, 46, 82, 97, 110, 107, 81, 117, 97, 110, 116, 105, 108, 101, 115, 32, 116, 105, 100, 101, 112, 111, 108, 101, 47, 116, 105, 100, 101, 112, 111, 108, 101, 108, 97, 119, 49, 48, 46, 70, 104, 105, 115, 116, 70, 108, 111, 97, 116, 115, 32, 116, 105, 100, 101, 112, 111, 108, 101, 47, 116, 105, 100, 101, 112, 111, 108, 101, 108, 97, 119, 49, 48, 46, 70, 104, 105, 115, 116, 66, 97, 99, 107, 32, 116, 105, 100, 101, 112, 111, 108, 101, 47, 116, 105, 100, 101, 112, 111, 108, 101, 108, 97, 119, 49, 48, 46, 70, 104, 105, 115, 116, 70, 114, 111, 109]
theorem head_is : Try.prog.initOrder = String.ofList headSigns := by kernel_rfl
theorem head_signs : Try.prog.initOrder.toList = headSigns := by rw [head_is]; exact String.toList_ofList
theorem head_first : (behindMainWord (wordsSigns headSigns)).head? = some "cut".toList := by kernel_rfl
theorem head_words : ∃ r, behindMainWord (wordsSigns headSigns) = "cut".toList :: r := by have h := head_first; cases h2 : behindMainWord (wordsSigns headSigns) with | nil => rw [h2] at h; cases h | cons c r => rw [h2] at h; injection h with h; exact ⟨r, by rw [h]⟩
theorem strip_cut (r : List (List Char)) : stripLifts liftWords ("cut".toList :: r) = ([], "cut".toList :: r) := by kernel_rfl
theorem head_lifts : Try.prog.headLifts = [] := by obtain ⟨r, hr⟩ := head_words; unfold Program.headLifts; rw [head_signs, hr, strip_cut]; kernel_rfl
theorem head_doorFits : Try.prog.doorFits [] = true := by kernel_rfl
theorem head_laysLater : Try.prog.laysLater = false := by kernel_rfl
theorem head_bearsReflect : Try.prog.bearsReflect = false := by kernel_rfl
theorem mayEnter_of {P : Program} {L : List Char} {r : List (List Char)} (h1 : P.initOrder.toList = L) (h2 : behindMainWord (wordsSigns L) = "cut".toList :: r) (h3 : P.doorFits [] = true) (h4 : P.laysLater = false) (h5 : P.bearsReflect = false) : P.mayEnter = true := by unfold Program.mayEnter; rw [h1, h2]; simp only [strip_cut, h3, h4, h5]; kernel_rfl
theorem head_mayEnter : Try.prog.mayEnter = true := by obtain ⟨r, hr⟩ := head_words; exact mayEnter_of head_signs hr head_doorFits head_laysLater head_bearsReflect
theorem head_liftsFinal : Try.prog.liftsFinal = false := by obtain ⟨r, hr⟩ := head_words; unfold Program.liftsFinal; rw [head_signs, head_lifts, hr]; kernel_rfl
theorem make_of {P : Program} {L : List Char} {r : List (List Char)} (h1 : P.initOrder.toList = L) (h2 : behindMainWord (wordsSigns L) = "cut".toList :: r) : P.make = some .cut := by unfold Program.make; rw [h1, h2]; kernel_rfl
theorem head_make : Try.prog.make = some .cut := by obtain ⟨r, hr⟩ := head_words; exact make_of head_signs hr
theorem head_laidOut : laidOutB Try.prog = true := by kernel_rfl
theorem head_mapsRowed : mapsRowed Try.prog = true := by kernel_rfl
theorem head_stops : (Try.prog.stops == []) = true := by kernel_rfl
theorem head_stopKnobs : (Try.prog.stopKnobs == []) = true := by kernel_rfl
theorem head_plainKeys : Try.prog.plainKeys = true := by kernel_rfl
theorem head_stopsHeard : Try.prog.stopsHeard = true := by kernel_rfl
end Go.Proofs.Ytfbjjbbhnmoolaa.P
namespace Go.Proofs.Ytfbjjbbhnmoolaa.Pure
open Go.RowKit Go.Proofs.Ytfbjjbbhnmoolaa.P Go.Proofs.YtfbjjbbhnmoolaaW.PrintWords
theorem FhistBack : ∀ (x0 : S31), wf31 x0 → tidepolelaw10_FhistBack.f x0.f0 x0.f1 x0.f2 x0.f3 x0.f4 x0.f5 x0.f6 x0.f7 x0.f8 = some true := fun _ h0 => if_pos (wfG_of h0)
end Go.Proofs.Ytfbjjbbhnmoolaa.Pure
namespace Go.Proofs.Ytfbjjbbhnmoolaa.fhistBack
open Go.ChangeShapes Go.WideShapes Go.ChangeAt Go.RowKit Go.Proofs.Ytfbjjbbhnmoolaa.P Go.Proofs.YtfbjjbbhnmoolaaW.PrintWords
theorem own : ownKnob Try.prog.godebug = none := by kernel_rfl
theorem laidOut : laidOutB Try.prog = true := by kernel_rfl
set_option maxRecDepth 100000 in
set_option maxHeartbeats 4000000 in
theorem lifted (os : Os) (started : os.Started) (H : Type) (enc : TypeId × Value → H) :
    ReturnsInHanded {} Try.checked os 7 .any (Rows.fhistBackSpec.pre6 enc Try.prog Try.f7 Rows.fhistBackRow.domain false) (Rows.fhistBackSpec.post enc Try.prog Try.f7 false true false false) := by
  refine returnsInHanded_of_change_sized (C := Try.checked) own started (by kernel_rfl) Try.func7
    (ChangeSpec.witness6 (enc := enc) (C := Try.checked) false ⟨#[], #[.agg #[.int .i64 0, .int .u64 0, .int .u64 0, .int .u64 0, .int .u64 0, .slice none 0 0, .slice none 0 0, .slice none 0 0, .slice none 0 0]], []⟩ 8 (by kernel_rfl) (by kernel_rfl) (by kernel_rfl) (by kernel_rfl)) ?_
  intro W base args ds gs before hval0 hW hcnd hsz0 _
  have hval : ∀ (j : Nat) t v, Try.f7.params[j]? = some t → args[j]? = some v → Value.okWide Try.prog W .any base t v := hval0
  have hW' := hW
  obtain ⟨p, q, hA0, hV, rfl, hfz, hnd⟩ := hW
  have hA : DataW.TrodAll enc Try.prog W 0 (fun _ => true) true Try.f7.params.toList args.toList ds p := hA0
  rw [Try.params7] at hA hval
  obtain ⟨v0, vs0, d0, ds0, p0, q0, hargs, rfl, rfl, h0, r0⟩ := trodAll_cons hA
  obtain ⟨rfl, rfl, rfl⟩ := trodAll_nil r0
  obtain rfl : args = #[v0] := by cases args; simp_all
  obtain ⟨rfl, rfl⟩ := trodVars_none hV
  have k0 := h0
  have lt0 : ∀ x ∈ p0, x.block < W.heap.size := by obtain ⟨m, hm⟩ := k0; exact DataW.trod_lt m _ _ _ hm
  obtain ⟨fu0, hf0⟩ := h0
  obtain ⟨x0, hK0, w0⟩ := opens31 enc W 0 _ true fu0 _ _ hf0
  obtain ⟨cs0, rfl, _⟩ := okWide_struct Try.underlying31 (hval 0 31 v0 rfl rfl)
  obtain ⟨A0_5, c0_5, A0_6, c0_6, A0_7, c0_7, A0_8, c0_8, he0, h0_5_l, hC0_5, h0_6_l, hC0_6, h0_7_l, hC0_7, h0_8_l, hC0_8⟩ := k31_open hK0
  obtain rfl : cs0 = #[.int .i64 x0.f0, .int .u64 x0.f1, .int .u64 x0.f2, .int .u64 x0.f3, .int .u64 x0.f4, .slice A0_5 x0.f5.length c0_5, .slice A0_6 x0.f6.length c0_6, .slice A0_7 x0.f7.length c0_7, .slice A0_8 x0.f8.length c0_8] := by
    have he : cs0.toList = _ := he0
    exact Array.toList_inj.1 he
  clear hA0 hval0 hsz0
  obtain hk := Pure.FhistBack x0 w0
  refine (P.tidepolelaw10_FhistBack.calls x0.f0 x0.f1 x0.f2 x0.f3 x0.f4 A0_5 c0_5 x0.f5 A0_6 c0_6 x0.f6 A0_7 c0_7 x0.f7 A0_8 c0_8 x0.f8 true W hC0_5 h0_5_l hC0_6 h0_6_l hC0_7 h0_7_l hC0_8 h0_8_l hk).mono fun e W' ⟨he, bel⟩ => ?_
  subst he
  exact ⟨_, rfl, _, _, _, [], _, [], hW', trodAll_mk1 (shut_bool Try.underlying4 _), (trodAll_cons_mk (Below.trod laidOut (by kernel_rfl) (of_decide_eq_true (by kernel_rfl)) k0 bel lt0) trodAll_mk0), rfl, bel.frame _, fun h => by cases h⟩
theorem cf0 : (Rows.fhistBackRow.wf (OpenSpec.ofChange Rows.fhistBackSpec)) = true := by kernel_rfl
theorem cf1 : (laidOutB Try.prog) = true := P.head_laidOut
theorem cf2 : (mapsRowed Try.prog) = true := P.head_mapsRowed
theorem cf3 : (Try.f7.params.all (Try.prog.readableRec ·)) = true := by kernel_rfl
theorem cf4 : (namedTie Try.prog Rows.fhistBackRow.named Rows.fhistBackSpec.vars) = true := by kernel_rfl
theorem cf5 : ((Rows.fhistBackRow.stops == [])) = true := by kernel_rfl
theorem cf6 : ((Try.prog.stops == [])) = true := P.head_stops
theorem cf7 : ((Rows.fhistBackRow.knobs == [])) = true := by kernel_rfl
theorem cf8 : ((Try.prog.stopKnobs == [])) = true := P.head_stopKnobs
theorem cf9 : ((Rows.fhistBackRow.inPlace == Try.prog.inPlace 7)) = true := by kernel_rfl
theorem cf10 : ((Rows.fhistBackRow.unfollowed == Try.prog.unfollowed 7)) = true := by kernel_rfl
theorem cf11 : ((Rows.fhistBackRow.recurses == Try.prog.recurses 7)) = true := by kernel_rfl
theorem cf12 : ((Rows.fhistBackRow.named == Try.prog.varsNamed 7)) = true := by kernel_rfl
theorem cf13 : ((Rows.fhistBackRow.maps == (Try.f7.params.toList ++ Rows.fhistBackSpec.plain.varTypes Try.prog).any (Try.prog.mapsRec ·))) = true := by kernel_rfl
theorem cf14 : ((Rows.fhistBackRow.ifaces == (Try.f7.params.toList ++ Rows.fhistBackSpec.plain.varTypes Try.prog).any (Try.prog.ifacesRec ·))) = true := by kernel_rfl
theorem cf15 : ((Rows.fhistBackRow.mapsOut == Try.prog.mapsAmong Try.f7.resultTypes.toList)) = true := by kernel_rfl
theorem cf16 : ((Rows.fhistBackRow.loops == (Try.f7.params.toList ++ Rows.fhistBackSpec.plain.varTypes Try.prog).any (Try.prog.loopsFrom ·))) = true := by kernel_rfl
theorem cf17 : ((Rows.fhistBackRow.wideKeys == (Try.f7.params.toList ++ Rows.fhistBackSpec.plain.varTypes Try.prog ++ Try.f7.resultTypes.toList).any (Try.prog.wideKeysFrom ·))) = true := by kernel_rfl
theorem cf18 : (Rows.fhistBackSpec.vars.all (Try.prog.varReadable ·)) = true := by kernel_rfl
theorem cf19 : (Try.f7.resultTypes.all (fun t => Try.prog.readableRec t && decide (t < Try.prog.types.size))) = true := by kernel_rfl
theorem cf20 : ((Rows.fhistBackRow.ifacesOut == Try.f7.resultTypes.toList.any (Try.prog.ifacesRec ·))) = true := by kernel_rfl
theorem cf21 : ((Rows.fhistBackRow.loopsOut == Try.f7.resultTypes.toList.any (Try.prog.loopsFrom ·))) = true := by kernel_rfl
theorem cf22 : ((Rows.fhistBackRow.plainKeys == Try.prog.plainKeys)) = true := by rw [P.head_plainKeys]; kernel_rfl
theorem cf23 : (Rows.fhistBackRow.shortTexts.isNone) = true := by kernel_rfl
theorem cf24 : (Try.prog.stopsHeard) = true := P.head_stopsHeard
theorem cf25 : (Try.prog.mayEnter) = true := P.head_mayEnter
theorem cf26 : ((Rows.fhistBackRow.lifted == Try.prog.liftsFinal)) = true := by rw [P.head_liftsFinal]; kernel_rfl
theorem cf27 : ((Try.prog.make == some Rows.fhistBackRow.make)) = true := by rw [P.head_make]; kernel_rfl
theorem cf28 : ((Rows.fhistBackRow.kinds == (if Rows.fhistBackRow.domain.isEmpty then [] else Try.f7.params.toList.map fun t => match Try.prog.underlying t with | some (.int k) => some k | _ => none))) = true := by kernel_rfl
theorem cf29 : ((Rows.fhistBackRow.pinned == Rows.fhistBackRow.pinnedBy)) = true := by kernel_rfl
theorem cf30 : ((Rows.fhistBackRow.veiled == (Try.f7.params.toList ++ Rows.fhistBackSpec.plain.varTypes Try.prog ++ Try.f7.resultTypes.toList).any (Try.prog.veiledRec ·))) = true := by kernel_rfl
theorem cf31 : (Rows.fhistBackRow.veiledFits Try.prog Try.f7.params.toList (Try.f7.params.toList ++ Rows.fhistBackSpec.plain.varTypes Try.prog ++ Try.f7.resultTypes.toList)) = true := by kernel_rfl
theorem band_mk {a b : Bool} (h : a = true) (k : b = true) : (a && b) = true := by rw [h, k]; rfl
theorem closed : joinedFacts Try.prog 7 Try.f7 Rows.fhistBackSpec Rows.fhistBackRow = true := by unfold joinedFacts; exact (band_mk (band_mk (band_mk (band_mk (band_mk (band_mk (band_mk (band_mk (band_mk (band_mk (band_mk (band_mk (band_mk (band_mk (band_mk (band_mk (band_mk (band_mk (band_mk (band_mk (band_mk (band_mk (band_mk (band_mk (band_mk (band_mk (band_mk (band_mk (band_mk (band_mk (band_mk cf0 cf1) cf2) cf3) cf4) cf5) cf6) cf7) cf8) cf9) cf10) cf11) cf12) cf13) cf14) cf15) cf16) cf17) cf18) cf19) cf20) cf21) cf22) cf23) cf24) cf25) cf26) cf27) (by kernel_rfl)) cf29) cf30) cf31)
theorem over : Rows.fhistBackRow.holds Try.pinned (OpenSpec.ofChange Rows.fhistBackSpec) :=
  OpenClaim.holds_of_wide 7 Try.f7 rfl rfl rfl rfl rfl rfl rfl ⟨rfl, rfl, rfl, rfl, rfl⟩ rfl rfl rfl rfl rfl (by kernel_rfl) Try.func7 closed
    (of_decide_eq_true (by kernel_rfl)) (by unfold Func.isWrapper; first | (rw [if_pos (by decide +kernel)]; kernel_rfl) | (rw [if_neg (by decide +kernel)]; exact ⟨rfl, rfl⟩))
    (fun os started H enc _ => lifted os started H enc)
theorem proved : Rows.FhistBackSaid := over
#print axioms proved
end Go.Proofs.Ytfbjjbbhnmoolaa.fhistBack
namespace Go.Proofs.Ytfbjjbbhnmoolaa
theorem fhistBack_holds : Rows.FhistBackSaid := fhistBack.proved
end Go.Proofs.Ytfbjjbbhnmoolaa
