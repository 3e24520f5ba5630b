/- LabelsMatches: the part that this text bears of the proof that the statement answers true for every input. No condition. -/
import Derived.Test.YtbfiacnmielajaaProg
import Derived.Below
import Derived.Deep.Draws
import Derived.Deep.AppendLies
import Derived.Maps.AppendAt
import Derived.OwnWalk
import Derived.Laws.BytesArg
import Derived.Laws.MakeOwn
import Derived.Laws.OwnMore
import Derived.Deep.OwnRows
import Derived.Tactics
import Derived.Lib.ConvBytes
import Derived.Laws.Slices
import Derived.WalkKit
import Derived.KernelRfl
import Derived.RowKit3
import Derived.Deep.LoopGhost
import Derived.Deep.QuietTactic
import Derived.BigQuiet
import Derived.WideLaws
import Derived.Deep.DeepCutAuto
import Derived.Deep.CutBlock
import Derived.Deep.RegionHeld3
import Derived.Laws.Rows
import Derived.Lib.AppendStr
import Derived.ArgAppend
import Derived.Laws.IdiomCopy
import Derived.OrdersHeld
import Derived.Laws.BitsLemmas
import Derived.RowKit
import Derived.Laws.Strings
import Derived.Laws.Cover1
import Derived.Shelf.Lays
import Derived.Shelf.Strings.Builder1
import Derived.Shelf.Strings.OnBuilder
import Derived.DataReads
import Derived.RegionTactic
import Derived.ChangeKeysEq
import Derived.ChangeAlike
import Derived.BigRegion
import Derived.StillTailTactics
import Derived.Shelf.Strings.Search3
import Derived.Shelf.Small.Strs
import Derived.Deep.Slices
import Derived.ChangeArms
import Derived.ProofKit
import Derived.JoinedOf
import Derived.OpenShut
import Derived.ShutString
import Derived.ChangeOld
import Derived.SizedLaws
import Derived.Shelf.Vars
import Derived.Test.YtbfiacnmielajaaQLabelsMatchesWWords
import Derived.Test.YtbfiacnmielajaaQLabelsMatchesWLast
import Derived.Test.YtbfiacnmielajaaQLabelsMatchesWTab
import Derived.Test.YtbfiacnmielajaaQLabelsMatchesWFour
import Derived.Test.YtbfiacnmielajaaQLabelsMatchesWQPut
import Derived.Test.YtbfiacnmielajaaQLabelsMatchesWApart
import Derived.Test.YtbfiacnmielajaaQLabelsMatchesWArr
import Derived.Test.YtbfiacnmielajaaQLabelsMatchesWZeros
import Derived.Test.YtbfiacnmielajaaQLabelsMatchesWFoot
import Derived.Test.YtbfiacnmielajaaQLabelsMatchesWKept
import Derived.Test.YtbfiacnmielajaaQLabelsMatchesWShare
import Derived.Test.YtbfiacnmielajaaQLabelsMatchesWN
import Derived.Test.YtbfiacnmielajaaQLabelsMatchesWFootNe
import Derived.Test.YtbfiacnmielajaaQLabelsMatchesWAt
import Derived.Test.YtbfiacnmielajaaQLabelsMatchesWEqStruct
import Derived.Test.YtbfiacnmielajaaQLabelsMatchesWRepsOne
import Derived.Test.YtbfiacnmielajaaQLabelsMatchesWInv
import Derived.Test.YtbfiacnmielajaaQLabelsMatchesWInvWords
import Derived.Test.YtbfiacnmielajaaQLabelsMatchesWGuard
import Derived.Test.YtbfiacnmielajaaQLabelsMatchesWNEv
import Derived.Test.YtbfiacnmielajaaQLabelsMatchesWMore
import Derived.Test.YtbfiacnmielajaaRows
import Derived.Test.YtbfiacnmielajaaQLabelsMatches0
namespace Go.Proofs.Ytbfiacnmielajaa.P
open Go.RowKit Go.Proofs.YtbfiacnmielajaaW.PrintWords Go.Proofs.YtbfiacnmielajaaW.PrintLast Go.Proofs.YtbfiacnmielajaaW.PrintMore
attribute [local go_sem] max2_int min2_int max_two min_two max_three min_three max_four min_four
set_option linter.unusedVariables false
set_option linter.unusedSimpArgs false
theorem R_okM {W : World} {base : Nat} {ok ok' : Nat → Prop} {v : Value} {l : List S42} (h : Kd.R k42 42 W base ok v l) (hk : ∀ k, v.ownBlock = some k → ok' k) : Kd.R k42 42 W base ok' v l :=
  ⟨hk, h.2.imp_ (fun x cs hx => by rw [k42_openM hx]; exact k42_mkM _ _ _ x)⟩
def allL : Nat → List S42 → ByteArray → Bool → Option (List S42 × ByteArray × Bool)
  | 0, _, _, _ => none
  | d + 1, o, s, bad =>
    if bad = true then some (o, s, bad) else if hp1 s 125 = true then some (o, s, bad) else
    (if o.length = 0 then some (s, bad) else labels_reader_take.f s bad ⟨#[44]⟩).bind fun t =>
    (labels_reader_name.f (t.1.size + 2) t.1 t.2).bind fun n =>
    (labels_reader_sign.f n.2.1 n.2.2).bind fun g =>
    (labels_reader_value.f g.2.1 g.2.2).bind fun v =>
    allL d (o ++ [⟨g.1, n.1, v.1⟩]) v.2.1 (if 16 < o.length + 1 then true else v.2.2)
def labels_reader_all.f (s0_0 : ByteArray) (s0_1 : Bool) : Option (List S42 × ByteArray × Bool) :=
  (labels_reader_take.f s0_0 s0_1 ⟨#[123]⟩).bind fun t => (allL 18 [] t.1 t.2).bind fun v =>
    (labels_reader_take.f v.2.1 v.2.2 ⟨#[125]⟩).bind fun u => some (v.1, u.1, u.2 || !(u.1.toList == []))
set_option maxHeartbeats 16000000 in
set_option maxRecDepth 100000 in
theorem labels_reader_all.calls (g : Nat) (s0_0 : ByteArray) (s0_1 : Bool) (r1 : List S42) (r2 : ByteArray) (r3 : Bool) (w0 w : World) (hI : IsS67 w0 w g s0_0 s0_1) (hB : Below w0.heap.size w0 w) (h : labels_reader_all.f s0_0 s0_1 = some (r1, r2, r3)) :
    Calls Try.prog 33 #[.pointer (some ⟨g, 0, none⟩)] w fun e w' => ∃ v0_ : Value, e = .returned (v0_) ∧ Kd.R k42 42 w' w.heap.size (fun _ => True) v0_ r1 ∧ IsS67 w0 w' g r2 r3 ∧ Below w0.heap.size w0 w' ∧ KeepBut w w' g none := by
  unfold labels_reader_all.f at h
  replace h := Option.bind_eq_some_iff.mp h
  obtain ⟨⟨t1, t2⟩, ht, h⟩ := h
  replace h := Option.bind_eq_some_iff.mp h
  obtain ⟨⟨v1, v2, v3⟩, hv, h⟩ := h
  replace h := Option.bind_eq_some_iff.mp h
  obtain ⟨⟨q1, q2⟩, hq, h⟩ := h
  simp only [Option.some.injEq, Prod.mk.injEq] at h
  obtain ⟨rfl, rfl, h3⟩ := h
  dsimp only at hv hq
  have H3 := Aside0.mk h3
  have HT := Aside0.mk ht
  have HV := Aside0.mk hv
  have HQ := Aside0.mk hq
  have HI0 := Aside0.mk hI
  have HB := Aside0.mk hB
  have HK := Aside0.mk (KeepBut.refl w g none)
  have HG := Aside0.mk hI.lt
  have HW0 := Aside0.mk hB.size
  have hu := Try.underlying42
  clear hI hB ht hv hq h3
  go_enter Try.func33, Try.ntmps33
  go_wp2_with (go_at_call 45; ((with_reducible refine (labels_reader_take.calls g s0_0 s0_1 ⟨#[123]⟩ t1 t2 w0 _ HI0.out HB.out HT.out).mono ?_); rintro e w1 ⟨rfl, hI, hB, hK⟩; (try (replace HO := Aside0.mk (Kd.R_keep HO.out hK (fun k (hk : w.heap.size ≤ k) => by have := HG.out; omega)))); replace HI0 := Aside0.mk hI; replace HB := Aside0.mk hB; replace HK := Aside0.mk (HK.out.trans hK (.inl rfl)); clear hI hB hK; (try clear hc0 hc1 hf0 hf1); have hc0 := cellS67_0 HI0.out.1; have hc1 := cellS67_1 HI0.out.1; have hf0 := blk_frozen HI0.out.1 0; have hf1 := blk_frozen HI0.out.1 1))
  go_loopg [3] 18 (fun gg z3 wr => ∃ (s : ByteArray) (bad : Bool) (o : List S42), Aside0 (o.length + gg = 18) ∧ Aside0 (allL gg o s bad = some (v1, v2, v3)) ∧ Aside0 (IsS67 w0 wr g s bad) ∧ Aside0 (Below w0.heap.size w0 wr) ∧ Aside0 (KeepBut w wr g none) ∧ Aside0 (Kd.R k42 42 wr w.heap.size (fun k => w.heap.size ≤ k) z3 o))
  case atStart => exact ⟨t1, t2, [], ⟨rfl⟩, HV, HI0, HB, HK, ⟨Kd.R_nil _ _ _ _ _⟩⟩
  case round =>
    clear HV HI0 HB HK HT
    obtain ⟨s, bad, o, HL, HV, HI0, HB, HK, HO⟩ := hrel
    have hc0 := cellS67_0 HI0.out.1
    have hc1 := cellS67_1 HI0.out.1
    have hf0 := blk_frozen HI0.out.1 0
    have hf1 := blk_frozen HI0.out.1 1
    have HW : Aside0 (w.heap.size ≤ wr.heap.size) := ⟨HK.out.1⟩
    obtain ⟨A3, c3, rfl, -⟩ := Kd.R_reads HO.out
    cases gk with
    | zero => exact absurd HV.out (by simp [allL])
    | succ d =>
      have h := HV.out
      simp only [allL] at h
      clear HV
      by_cases c0 : bad = true
      · rw [if_pos c0] at h
        subst c0
        simp only [Option.some.injEq, Prod.mk.injEq] at h
        obtain ⟨rfl, rfl, rfl⟩ := h
        by_cases e2 : q2 = true
        · subst e2
          go_wp2_with (first | (go_at_call 45; ((with_reducible refine (labels_reader_take.calls g s true ⟨#[125]⟩ q1 true w0 _ HI0.out HB.out HQ.out).mono ?_); rintro e w1 ⟨rfl, hI, hB, hK⟩; (try (replace HO := Aside0.mk (Kd.R_keep HO.out hK (fun k (hk : w.heap.size ≤ k) => by have := HG.out; omega)))); replace HI0 := Aside0.mk hI; replace HB := Aside0.mk hB; replace HK := Aside0.mk (HK.out.trans hK (.inl rfl)); clear hI hB hK; (try clear hc0 hc1 hf0 hf1); have hc0 := cellS67_0 HI0.out.1; have hc1 := cellS67_1 HI0.out.1; have hf0 := blk_frozen HI0.out.1 0; have hf1 := blk_frozen HI0.out.1 1)))
          go_ret
          refine ⟨_, rfl, Kd.R_mono (Kd.R_keep HO.out ((KeepBut.refl _ _ _).set_ 1 _) (fun k (hk : w.heap.size ≤ k) => by have := HG.out; omega)) (fun _ _ => trivial), ?_, below_set HB.out (IsS67.ge HI0.out), HK.out.set_ 1 _⟩
          have := HI0.out.set_1 true
          rwa [← H3.out]
        · replace e2 := Bool.eq_false_iff.2 e2
          subst e2
          cases hb_ : (q1.toList == []) with
          | true =>
            rw [hb_] at H3
            have hl_ : q1.toList = [] := by simpa using hb_
            have hl2_ : (!q1.toList.isEmpty) = false := by rw [hl_]; rfl
            clear hb_
            go_wp2_with (first | (go_at_call 45; ((with_reducible refine (labels_reader_take.calls g s true ⟨#[125]⟩ q1 false w0 _ HI0.out HB.out HQ.out).mono ?_); rintro e w1 ⟨rfl, hI, hB, hK⟩; (try (replace HO := Aside0.mk (Kd.R_keep HO.out hK (fun k (hk : w.heap.size ≤ k) => by have := HG.out; omega)))); replace HI0 := Aside0.mk hI; replace HB := Aside0.mk hB; replace HK := Aside0.mk (HK.out.trans hK (.inl rfl)); clear hI hB hK; (try clear hc0 hc1 hf0 hf1); have hc0 := cellS67_0 HI0.out.1; have hc1 := cellS67_1 HI0.out.1; have hf0 := blk_frozen HI0.out.1 0; have hf1 := blk_frozen HI0.out.1 1)))
            go_ret
            refine ⟨_, rfl, Kd.R_mono (Kd.R_keep HO.out ((KeepBut.refl _ _ _).set_ 1 _) (fun k (hk : w.heap.size ≤ k) => by have := HG.out; omega)) (fun _ _ => trivial), ?_, below_set HB.out (IsS67.ge HI0.out), HK.out.set_ 1 _⟩
            have := HI0.out.set_1 false
            rwa [← H3.out]
          | false =>
            rw [hb_] at H3
            have hl_ : ¬ q1.toList = [] := by simpa using hb_
            have hl2_ : (!q1.toList.isEmpty) = true := by simp [List.isEmpty_iff, hl_]
            clear hb_
            go_wp2_with (first | (go_at_call 45; ((with_reducible refine (labels_reader_take.calls g s true ⟨#[125]⟩ q1 false w0 _ HI0.out HB.out HQ.out).mono ?_); rintro e w1 ⟨rfl, hI, hB, hK⟩; (try (replace HO := Aside0.mk (Kd.R_keep HO.out hK (fun k (hk : w.heap.size ≤ k) => by have := HG.out; omega)))); replace HI0 := Aside0.mk hI; replace HB := Aside0.mk hB; replace HK := Aside0.mk (HK.out.trans hK (.inl rfl)); clear hI hB hK; (try clear hc0 hc1 hf0 hf1); have hc0 := cellS67_0 HI0.out.1; have hc1 := cellS67_1 HI0.out.1; have hf0 := blk_frozen HI0.out.1 0; have hf1 := blk_frozen HI0.out.1 1)))
            go_ret
            refine ⟨_, rfl, Kd.R_mono (Kd.R_keep HO.out ((KeepBut.refl _ _ _).set_ 1 _) (fun k (hk : w.heap.size ≤ k) => by have := HG.out; omega)) (fun _ _ => trivial), ?_, below_set HB.out (IsS67.ge HI0.out), HK.out.set_ 1 _⟩
            have := HI0.out.set_1 true
            rwa [← H3.out]
      rw [if_neg c0] at h
      replace c0 := Bool.eq_false_iff.2 c0
      subst c0
      by_cases c1 : hp1 s 125 = true
      · rw [if_pos c1] at h
        simp only [Option.some.injEq, Prod.mk.injEq] at h
        obtain ⟨rfl, rfl, rfl⟩ := h
        have P125 : Aside0 (strings_HasPrefix.f s ⟨#[125]⟩ = some true) := ⟨by rw [hasPrefix1]; exact congrArg some c1⟩
        clear c1
        by_cases e2 : q2 = true
        · subst e2
          go_wp2_with (first | (go_at_call 46; (with_reducible refine (strings_HasPrefix.calls s ⟨#[125]⟩ true _ P125.out).mono ?_); rintro e w' ⟨rfl, ⟨nd, rfl⟩⟩; have n0 := Aside0.mk (IsS67.drewN HI0.out nd); have n1 := Aside0.mk (keep_drewN HK.out nd); have n2 := Aside0.mk (pw_below_drewN HB.out nd); have n3 := Aside0.mk (Kd.R_keep HO.out (keep_drewN (KeepBut.refl wr g none) nd) (fun k (hk : w.heap.size ≤ k) => by have := HG.out; omega)); clear HI0 HK HB HO HW hc0 hc1 hf0 hf1; generalize World.drewN wr nd = WA at n0 n1 n2 n3 ⊢; have HI0 := n0; have HK := n1; have HB := n2; have HO := n3; clear n0 n1 n2 n3; (try clear hc0 hc1 hf0 hf1); have hc0 := cellS67_0 HI0.out.1; have hc1 := cellS67_1 HI0.out.1; have hf0 := blk_frozen HI0.out.1 0; have hf1 := blk_frozen HI0.out.1 1) | (go_at_call 45; ((with_reducible refine (labels_reader_take.calls g s false ⟨#[125]⟩ q1 true w0 _ HI0.out HB.out HQ.out).mono ?_); rintro e w1 ⟨rfl, hI, hB, hK⟩; (try (replace HO := Aside0.mk (Kd.R_keep HO.out hK (fun k (hk : w.heap.size ≤ k) => by have := HG.out; omega)))); replace HI0 := Aside0.mk hI; replace HB := Aside0.mk hB; replace HK := Aside0.mk (HK.out.trans hK (.inl rfl)); clear hI hB hK; (try clear hc0 hc1 hf0 hf1); have hc0 := cellS67_0 HI0.out.1; have hc1 := cellS67_1 HI0.out.1; have hf0 := blk_frozen HI0.out.1 0; have hf1 := blk_frozen HI0.out.1 1)))
          go_ret
          refine ⟨_, rfl, Kd.R_mono (Kd.R_keep HO.out ((KeepBut.refl _ _ _).set_ 1 _) (fun k (hk : w.heap.size ≤ k) => by have := HG.out; omega)) (fun _ _ => trivial), ?_, below_set HB.out (IsS67.ge HI0.out), HK.out.set_ 1 _⟩
          have := HI0.out.set_1 true
          rwa [← H3.out]
        · replace e2 := Bool.eq_false_iff.2 e2
          subst e2
          cases hb_ : (q1.toList == []) with
          | true =>
            rw [hb_] at H3
            have hl_ : q1.toList = [] := by simpa using hb_
            have hl2_ : (!q1.toList.isEmpty) = false := by rw [hl_]; rfl
            clear hb_
            go_wp2_with (first | (go_at_call 46; (with_reducible refine (strings_HasPrefix.calls s ⟨#[125]⟩ true _ P125.out).mono ?_); rintro e w' ⟨rfl, ⟨nd, rfl⟩⟩; have n0 := Aside0.mk (IsS67.drewN HI0.out nd); have n1 := Aside0.mk (keep_drewN HK.out nd); have n2 := Aside0.mk (pw_below_drewN HB.out nd); have n3 := Aside0.mk (Kd.R_keep HO.out (keep_drewN (KeepBut.refl wr g none) nd) (fun k (hk : w.heap.size ≤ k) => by have := HG.out; omega)); clear HI0 HK HB HO HW hc0 hc1 hf0 hf1; generalize World.drewN wr nd = WA at n0 n1 n2 n3 ⊢; have HI0 := n0; have HK := n1; have HB := n2; have HO := n3; clear n0 n1 n2 n3; (try clear hc0 hc1 hf0 hf1); have hc0 := cellS67_0 HI0.out.1; have hc1 := cellS67_1 HI0.out.1; have hf0 := blk_frozen HI0.out.1 0; have hf1 := blk_frozen HI0.out.1 1) | (go_at_call 45; ((with_reducible refine (labels_reader_take.calls g s false ⟨#[125]⟩ q1 false w0 _ HI0.out HB.out HQ.out).mono ?_); rintro e w1 ⟨rfl, hI, hB, hK⟩; (try (replace HO := Aside0.mk (Kd.R_keep HO.out hK (fun k (hk : w.heap.size ≤ k) => by have := HG.out; omega)))); replace HI0 := Aside0.mk hI; replace HB := Aside0.mk hB; replace HK := Aside0.mk (HK.out.trans hK (.inl rfl)); clear hI hB hK; (try clear hc0 hc1 hf0 hf1); have hc0 := cellS67_0 HI0.out.1; have hc1 := cellS67_1 HI0.out.1; have hf0 := blk_frozen HI0.out.1 0; have hf1 := blk_frozen HI0.out.1 1)))
            go_ret
            refine ⟨_, rfl, Kd.R_mono (Kd.R_keep HO.out ((KeepBut.refl _ _ _).set_ 1 _) (fun k (hk : w.heap.size ≤ k) => by have := HG.out; omega)) (fun _ _ => trivial), ?_, below_set HB.out (IsS67.ge HI0.out), HK.out.set_ 1 _⟩
            have := HI0.out.set_1 false
            rwa [← H3.out]
          | false =>
            rw [hb_] at H3
            have hl_ : ¬ q1.toList = [] := by simpa using hb_
            have hl2_ : (!q1.toList.isEmpty) = true := by simp [List.isEmpty_iff, hl_]
            clear hb_
            go_wp2_with (first | (go_at_call 46; (with_reducible refine (strings_HasPrefix.calls s ⟨#[125]⟩ true _ P125.out).mono ?_); rintro e w' ⟨rfl, ⟨nd, rfl⟩⟩; have n0 := Aside0.mk (IsS67.drewN HI0.out nd); have n1 := Aside0.mk (keep_drewN HK.out nd); have n2 := Aside0.mk (pw_below_drewN HB.out nd); have n3 := Aside0.mk (Kd.R_keep HO.out (keep_drewN (KeepBut.refl wr g none) nd) (fun k (hk : w.heap.size ≤ k) => by have := HG.out; omega)); clear HI0 HK HB HO HW hc0 hc1 hf0 hf1; generalize World.drewN wr nd = WA at n0 n1 n2 n3 ⊢; have HI0 := n0; have HK := n1; have HB := n2; have HO := n3; clear n0 n1 n2 n3; (try clear hc0 hc1 hf0 hf1); have hc0 := cellS67_0 HI0.out.1; have hc1 := cellS67_1 HI0.out.1; have hf0 := blk_frozen HI0.out.1 0; have hf1 := blk_frozen HI0.out.1 1) | (go_at_call 45; ((with_reducible refine (labels_reader_take.calls g s false ⟨#[125]⟩ q1 false w0 _ HI0.out HB.out HQ.out).mono ?_); rintro e w1 ⟨rfl, hI, hB, hK⟩; (try (replace HO := Aside0.mk (Kd.R_keep HO.out hK (fun k (hk : w.heap.size ≤ k) => by have := HG.out; omega)))); replace HI0 := Aside0.mk hI; replace HB := Aside0.mk hB; replace HK := Aside0.mk (HK.out.trans hK (.inl rfl)); clear hI hB hK; (try clear hc0 hc1 hf0 hf1); have hc0 := cellS67_0 HI0.out.1; have hc1 := cellS67_1 HI0.out.1; have hf0 := blk_frozen HI0.out.1 0; have hf1 := blk_frozen HI0.out.1 1)))
            go_ret
            refine ⟨_, rfl, Kd.R_mono (Kd.R_keep HO.out ((KeepBut.refl _ _ _).set_ 1 _) (fun k (hk : w.heap.size ≤ k) => by have := HG.out; omega)) (fun _ _ => trivial), ?_, below_set HB.out (IsS67.ge HI0.out), HK.out.set_ 1 _⟩
            have := HI0.out.set_1 true
            rwa [← H3.out]
      rw [if_neg c1] at h
      replace h := Option.bind_eq_some_iff.mp h
      obtain ⟨⟨t1, t2⟩, htk, h⟩ := h
      replace h := Option.bind_eq_some_iff.mp h
      obtain ⟨⟨n1, n2, n3⟩, hn, h⟩ := h
      replace h := Option.bind_eq_some_iff.mp h
      obtain ⟨⟨g1, g2, g3⟩, hs, h⟩ := h
      replace h := Option.bind_eq_some_iff.mp h
      obtain ⟨⟨x1, x2, x3⟩, hx, h⟩ := h
      dsimp only at hn hs hx h
      have HN := Aside0.mk hn
      have HS := Aside0.mk hs
      have HX := Aside0.mk hx
      have HV := Aside0.mk h
      clear hn hs hx h
      by_cases ce : o.length = 0
      · rw [if_pos ce] at htk
        simp only [Option.some.injEq, Prod.mk.injEq] at htk
        obtain ⟨rfl, rfl⟩ := htk
        have z1 : decide ((0 : Int) < (o.length : Int)) = false := decide_eq_false (by omega)
        have z2 : decide (0 < o.length) = false := decide_eq_false (by omega)
        clear ce
        have c1' := Bool.eq_false_iff.2 c1
        have P125 : Aside0 (strings_HasPrefix.f s ⟨#[125]⟩ = some false) := ⟨by rw [hasPrefix1]; exact congrArg some c1'⟩
        clear c1 c1'
        have HE : Aside0 ((o ++ [(⟨g1, n1, x1⟩ : S42)]).length = o.length + 1) := ⟨by simp⟩
        by_cases c16 : 16 < o.length + 1
        · rw [if_pos c16] at HV
          have y1 : decide (16 < o.length + 1) = true := decide_eq_true c16
          have y2 : decide ((16 : Int) < (o.length : Int) + 1) = true := decide_eq_true (by omega)
          clear c16
          go_wp2_with (first | (go_at_call 46; (with_reducible refine (strings_HasPrefix.calls s ⟨#[125]⟩ false _ P125.out).mono ?_); rintro e w' ⟨rfl, ⟨nd, rfl⟩⟩; have n0 := Aside0.mk (IsS67.drewN HI0.out nd); have n1 := Aside0.mk (keep_drewN HK.out nd); have n2 := Aside0.mk (pw_below_drewN HB.out nd); have n3 := Aside0.mk (Kd.R_keep HO.out (keep_drewN (KeepBut.refl wr g none) nd) (fun k (hk : w.heap.size ≤ k) => by have := HG.out; omega)); clear HI0 HK HB HO HW hc0 hc1 hf0 hf1; generalize World.drewN wr nd = WA at n0 n1 n2 n3 ⊢; have HI0 := n0; have HK := n1; have HB := n2; have HO := n3; clear n0 n1 n2 n3; (try clear hc0 hc1 hf0 hf1); have hc0 := cellS67_0 HI0.out.1; have hc1 := cellS67_1 HI0.out.1; have hf0 := blk_frozen HI0.out.1 0; have hf1 := blk_frozen HI0.out.1 1) | (go_at_call 47; ((with_reducible refine (labels_reader_name.calls (s.size + 2) g s false n1 n2 n3 w0 _ HI0.out HB.out HN.out).mono ?_); rintro e WN ⟨rfl, hI, hB, hK⟩; (try (replace HO := Aside0.mk (Kd.R_keep HO.out hK (fun k (hk : w.heap.size ≤ k) => by have := HG.out; omega)))); replace HI0 := Aside0.mk hI; replace HB := Aside0.mk hB; replace HK := Aside0.mk (HK.out.trans hK (.inl rfl)); clear hI hB hK; (try clear hc0 hc1 hf0 hf1); have hc0 := cellS67_0 HI0.out.1; have hc1 := cellS67_1 HI0.out.1; have hf0 := blk_frozen HI0.out.1 0; have hf1 := blk_frozen HI0.out.1 1; have hne : Aside0 (WN.heap.size ≠ g) := ⟨by have := HI0.out.lt; omega⟩; have hwn : Aside0 (w.heap.size ≤ WN.heap.size) := ⟨HK.out.1⟩; have hgn := Aside0.mk HI0.out.lt; replace HO := Aside0.mk (R_okM (ok' := fun k => w.heap.size ≤ k ∧ k < WN.heap.size) HO.out (fun k hk => ⟨HO.out.1 k hk, Kd.R_lt HO.out k hk⟩)))) | (go_at_call 48; ((with_reducible refine (labels_reader_sign.calls g n2 n3 g1 g2 g3 w0 _ (HI0.out.alloc (.cells #[.int .i64 0, .string n1, .string (⟨#[]⟩ : ByteArray)] 42)) (below_alloc HB.out (.cells #[.int .i64 0, .string n1, .string (⟨#[]⟩ : ByteArray)] 42)) HS.out).mono ?_); rintro e WS ⟨rfl, hI, hB, hK⟩; have BX := Aside0.mk (hK.blk (show (WN.alloc (.cells #[.int .i64 0, .string n1, .string (⟨#[]⟩ : ByteArray)] 42)).heap[WN.heap.size]? = some (.cells #[.int .i64 0, .string n1, .string (⟨#[]⟩ : ByteArray)] 42 (0, 0)) from by simpa using heap_alloc_new WN _) hne.out (by simp)); replace HO := Aside0.mk (Kd.R_keep (Kd.R_alloc HO.out (.cells #[.int .i64 0, .string n1, .string (⟨#[]⟩ : ByteArray)] 42)) hK (fun k (hk : w.heap.size ≤ k ∧ k < WN.heap.size) => by have := HG.out; omega)); replace HK := Aside0.mk ((keep_alloc HK.out (.cells #[.int .i64 0, .string n1, .string (⟨#[]⟩ : ByteArray)] 42)).trans hK (.inl rfl)); replace HI0 := Aside0.mk hI; replace HB := Aside0.mk hB; clear hI hB hK; (try clear hc0 hc1 hf0 hf1); have hc0 := cellS67_0 HI0.out.1; have hc1 := cellS67_1 HI0.out.1; have hf0 := blk_frozen HI0.out.1 0; have hf1 := blk_frozen HI0.out.1 1; have hb0 := blk_cell BX.out 0; have hb1 := blk_cell BX.out 1; have hb2 := blk_cell BX.out 2; have hbf0 := blk_frozen BX.out 0; have hbf2 := blk_frozen BX.out 2)) | (go_at_call 49; ((with_reducible refine (labels_reader_value.calls g g2 g3 x1 x2 x3 w0 _ (HI0.out.far (p := ⟨WN.heap.size, 0, none⟩) (Ne.symm hne.out) (.int .i64 g1)) (below_set (j := 0) (v := .int .i64 g1) HB.out (Nat.le_trans HW0.out hwn.out)) HX.out).mono ?_); rintro e WV ⟨rfl, hI, hB, hK⟩; replace BX : Aside0 (WV.heap[WN.heap.size]? = some (.cells #[.int .i64 g1, .string n1, .string (⟨#[]⟩ : ByteArray)] 42 (0, 0))) := ⟨hK.blk (by simpa using blk_set BX.out 0 (.int .i64 g1)) hne.out (by simp)⟩; replace HO := Aside0.mk (Kd.R_keep (Kd.R_keep HO.out ((KeepBut.refl WS WN.heap.size none).set_ 0 (.int .i64 g1)) (fun k (hk : w.heap.size ≤ k ∧ k < WN.heap.size) => by omega)) hK (fun k (hk : w.heap.size ≤ k ∧ k < WN.heap.size) => by have := HG.out; omega)); replace HK := Aside0.mk ((keep_far HK.out (p := ⟨WN.heap.size, 0, none⟩) hwn.out (.int .i64 g1)).trans hK (.inl rfl)); replace HI0 := Aside0.mk hI; replace HB := Aside0.mk hB; clear hI hB hK hb0 hb1 hb2 hbf0 hbf2; (try clear hc0 hc1 hf0 hf1); have hc0 := cellS67_0 HI0.out.1; have hc1 := cellS67_1 HI0.out.1; have hf0 := blk_frozen HI0.out.1 0; have hf1 := blk_frozen HI0.out.1 1; have hb0 := blk_cell BX.out 0; have hb1 := blk_cell BX.out 1; have hb2 := blk_cell BX.out 2; have hbf2 := blk_frozen BX.out 2)) | ((with_reducible refine gate_builtin (b := .append) (xs := #[.tmp 34, .tmp 36]) rfl ?_); at_builtin; (refine Kd.R_append k42 (w0 := (WV.setCell ⟨WN.heap.size, 2, none⟩ (.string x1))) w.heap.size rfl (.tmp 34) (.tmp 36) 37 42 (.agg #[.int .i64 0, .string ⟨#[]⟩, .string ⟨#[]⟩]) 40 rfl Try.underlying37 info42 rfl (by decide) (by omega) (.slice A3 o.length c3) o ⟨g1, n1, x1⟩ [.int .i64 g1, .string n1, .string x1] (fun k => w.heap.size ≤ k) (fun _ => False) rfl (by first | rfl | (go_simp; done) | (simp [World.setCell]; done)) ?aP (fun _ hk => hk.elim) ?aF ?aO ?aB ?aS ?aL ?_; (case aP => exact k42_mkM _ _ _ _); (case aB => exact Below.refl _ _); (case aF => exact (fun k hk => Nat.le_trans (keep_size (w := w) (g := g) (row := none) (keep_far HK.out (p := ⟨WN.heap.size, 2, none⟩) hwn.out _)) hk)); (case aO => exact R_okM (Kd.R_keep HO.out ((KeepBut.refl WV WN.heap.size none).set_ 2 _) (fun k (hk : w.heap.size ≤ k ∧ k < WN.heap.size) => by omega)) (fun k hk => (HO.out.1 k hk).1)); (case aS => exact keep_size (w := w) (g := g) (row := none) (keep_far HK.out (p := ⟨WN.heap.size, 2, none⟩) hwn.out _)); (case aL => have := HL.out; omega); intro z4 w5 ho hb hg hat; have HI1 := Aside0.mk (IsS67.grown (HI0.out.far (p := ⟨WN.heap.size, 2, none⟩) (Ne.symm hne.out) (.string x1)) hg (fun e => by have := (HO.out.1 _ e.symm).1; have := HG.out; omega)); replace HK := Aside0.mk (KeepBut.trans (keep_far HK.out (p := ⟨WN.heap.size, 2, none⟩) hwn.out (.string x1)) (KeepBut.of_grown hg g) (by cases hq_ : (Value.slice A3 o.length c3).ownBlock with | none => exact .inl rfl | some q_ => exact .inr ⟨q_, rfl, (HO.out.1 _ hq_).1⟩)); replace HB := Aside0.mk ((below_set (j := 2) (v := .string x1) HB.out (Nat.le_trans HW0.out hwn.out)).trans (hb.mono HW0.out)); replace HO := Aside0.mk ho; replace HI0 := HI1; obtain ⟨A_, c_, rfl, -⟩ := Kd.R_reads ho; clear ho hb hg hat HI1 hb0 hb1 hb2 hbf2; (try clear hc0 hc1 hf0 hf1); have hc0 := cellS67_0 HI0.out.1; have hc1 := cellS67_1 HI0.out.1; have hf0 := blk_frozen HI0.out.1 0; have hf1 := blk_frozen HI0.out.1 1)))
          go_roundg d
          case measure => omega
          case rel =>
            have ho := HO.out
            rw [HE.out] at ho
            exact ⟨x2, true, _, ⟨by have := HL.out; rw [HE.out]; omega⟩, HV, ⟨HI0.out.set_1 true⟩, ⟨below_set HB.out (IsS67.ge HI0.out)⟩, ⟨HK.out.set_ 1 _⟩, ⟨Kd.R_keep ho ((KeepBut.refl _ _ _).set_ 1 _) (fun k (hk : w.heap.size ≤ k) => by have := HG.out; omega)⟩⟩
        · rw [if_neg c16] at HV
          have y1 : decide (16 < o.length + 1) = false := decide_eq_false c16
          have y2 : decide ((16 : Int) < (o.length : Int) + 1) = false := decide_eq_false (by omega)
          clear c16
          go_wp2_with (first | (go_at_call 46; (with_reducible refine (strings_HasPrefix.calls s ⟨#[125]⟩ false _ P125.out).mono ?_); rintro e w' ⟨rfl, ⟨nd, rfl⟩⟩; have n0 := Aside0.mk (IsS67.drewN HI0.out nd); have n1 := Aside0.mk (keep_drewN HK.out nd); have n2 := Aside0.mk (pw_below_drewN HB.out nd); have n3 := Aside0.mk (Kd.R_keep HO.out (keep_drewN (KeepBut.refl wr g none) nd) (fun k (hk : w.heap.size ≤ k) => by have := HG.out; omega)); clear HI0 HK HB HO HW hc0 hc1 hf0 hf1; generalize World.drewN wr nd = WA at n0 n1 n2 n3 ⊢; have HI0 := n0; have HK := n1; have HB := n2; have HO := n3; clear n0 n1 n2 n3; (try clear hc0 hc1 hf0 hf1); have hc0 := cellS67_0 HI0.out.1; have hc1 := cellS67_1 HI0.out.1; have hf0 := blk_frozen HI0.out.1 0; have hf1 := blk_frozen HI0.out.1 1) | (go_at_call 47; ((with_reducible refine (labels_reader_name.calls (s.size + 2) g s false n1 n2 n3 w0 _ HI0.out HB.out HN.out).mono ?_); rintro e WN ⟨rfl, hI, hB, hK⟩; (try (replace HO := Aside0.mk (Kd.R_keep HO.out hK (fun k (hk : w.heap.size ≤ k) => by have := HG.out; omega)))); replace HI0 := Aside0.mk hI; replace HB := Aside0.mk hB; replace HK := Aside0.mk (HK.out.trans hK (.inl rfl)); clear hI hB hK; (try clear hc0 hc1 hf0 hf1); have hc0 := cellS67_0 HI0.out.1; have hc1 := cellS67_1 HI0.out.1; have hf0 := blk_frozen HI0.out.1 0; have hf1 := blk_frozen HI0.out.1 1; have hne : Aside0 (WN.heap.size ≠ g) := ⟨by have := HI0.out.lt; omega⟩; have hwn : Aside0 (w.heap.size ≤ WN.heap.size) := ⟨HK.out.1⟩; have hgn := Aside0.mk HI0.out.lt; replace HO := Aside0.mk (R_okM (ok' := fun k => w.heap.size ≤ k ∧ k < WN.heap.size) HO.out (fun k hk => ⟨HO.out.1 k hk, Kd.R_lt HO.out k hk⟩)))) | (go_at_call 48; ((with_reducible refine (labels_reader_sign.calls g n2 n3 g1 g2 g3 w0 _ (HI0.out.alloc (.cells #[.int .i64 0, .string n1, .string (⟨#[]⟩ : ByteArray)] 42)) (below_alloc HB.out (.cells #[.int .i64 0, .string n1, .string (⟨#[]⟩ : ByteArray)] 42)) HS.out).mono ?_); rintro e WS ⟨rfl, hI, hB, hK⟩; have BX := Aside0.mk (hK.blk (show (WN.alloc (.cells #[.int .i64 0, .string n1, .string (⟨#[]⟩ : ByteArray)] 42)).heap[WN.heap.size]? = some (.cells #[.int .i64 0, .string n1, .string (⟨#[]⟩ : ByteArray)] 42 (0, 0)) from by simpa using heap_alloc_new WN _) hne.out (by simp)); replace HO := Aside0.mk (Kd.R_keep (Kd.R_alloc HO.out (.cells #[.int .i64 0, .string n1, .string (⟨#[]⟩ : ByteArray)] 42)) hK (fun k (hk : w.heap.size ≤ k ∧ k < WN.heap.size) => by have := HG.out; omega)); replace HK := Aside0.mk ((keep_alloc HK.out (.cells #[.int .i64 0, .string n1, .string (⟨#[]⟩ : ByteArray)] 42)).trans hK (.inl rfl)); replace HI0 := Aside0.mk hI; replace HB := Aside0.mk hB; clear hI hB hK; (try clear hc0 hc1 hf0 hf1); have hc0 := cellS67_0 HI0.out.1; have hc1 := cellS67_1 HI0.out.1; have hf0 := blk_frozen HI0.out.1 0; have hf1 := blk_frozen HI0.out.1 1; have hb0 := blk_cell BX.out 0; have hb1 := blk_cell BX.out 1; have hb2 := blk_cell BX.out 2; have hbf0 := blk_frozen BX.out 0; have hbf2 := blk_frozen BX.out 2)) | (go_at_call 49; ((with_reducible refine (labels_reader_value.calls g g2 g3 x1 x2 x3 w0 _ (HI0.out.far (p := ⟨WN.heap.size, 0, none⟩) (Ne.symm hne.out) (.int .i64 g1)) (below_set (j := 0) (v := .int .i64 g1) HB.out (Nat.le_trans HW0.out hwn.out)) HX.out).mono ?_); rintro e WV ⟨rfl, hI, hB, hK⟩; replace BX : Aside0 (WV.heap[WN.heap.size]? = some (.cells #[.int .i64 g1, .string n1, .string (⟨#[]⟩ : ByteArray)] 42 (0, 0))) := ⟨hK.blk (by simpa using blk_set BX.out 0 (.int .i64 g1)) hne.out (by simp)⟩; replace HO := Aside0.mk (Kd.R_keep (Kd.R_keep HO.out ((KeepBut.refl WS WN.heap.size none).set_ 0 (.int .i64 g1)) (fun k (hk : w.heap.size ≤ k ∧ k < WN.heap.size) => by omega)) hK (fun k (hk : w.heap.size ≤ k ∧ k < WN.heap.size) => by have := HG.out; omega)); replace HK := Aside0.mk ((keep_far HK.out (p := ⟨WN.heap.size, 0, none⟩) hwn.out (.int .i64 g1)).trans hK (.inl rfl)); replace HI0 := Aside0.mk hI; replace HB := Aside0.mk hB; clear hI hB hK hb0 hb1 hb2 hbf0 hbf2; (try clear hc0 hc1 hf0 hf1); have hc0 := cellS67_0 HI0.out.1; have hc1 := cellS67_1 HI0.out.1; have hf0 := blk_frozen HI0.out.1 0; have hf1 := blk_frozen HI0.out.1 1; have hb0 := blk_cell BX.out 0; have hb1 := blk_cell BX.out 1; have hb2 := blk_cell BX.out 2; have hbf2 := blk_frozen BX.out 2)) | ((with_reducible refine gate_builtin (b := .append) (xs := #[.tmp 34, .tmp 36]) rfl ?_); at_builtin; (refine Kd.R_append k42 (w0 := (WV.setCell ⟨WN.heap.size, 2, none⟩ (.string x1))) w.heap.size rfl (.tmp 34) (.tmp 36) 37 42 (.agg #[.int .i64 0, .string ⟨#[]⟩, .string ⟨#[]⟩]) 40 rfl Try.underlying37 info42 rfl (by decide) (by omega) (.slice A3 o.length c3) o ⟨g1, n1, x1⟩ [.int .i64 g1, .string n1, .string x1] (fun k => w.heap.size ≤ k) (fun _ => False) rfl (by first | rfl | (go_simp; done) | (simp [World.setCell]; done)) ?aP (fun _ hk => hk.elim) ?aF ?aO ?aB ?aS ?aL ?_; (case aP => exact k42_mkM _ _ _ _); (case aB => exact Below.refl _ _); (case aF => exact (fun k hk => Nat.le_trans (keep_size (w := w) (g := g) (row := none) (keep_far HK.out (p := ⟨WN.heap.size, 2, none⟩) hwn.out _)) hk)); (case aO => exact R_okM (Kd.R_keep HO.out ((KeepBut.refl WV WN.heap.size none).set_ 2 _) (fun k (hk : w.heap.size ≤ k ∧ k < WN.heap.size) => by omega)) (fun k hk => (HO.out.1 k hk).1)); (case aS => exact keep_size (w := w) (g := g) (row := none) (keep_far HK.out (p := ⟨WN.heap.size, 2, none⟩) hwn.out _)); (case aL => have := HL.out; omega); intro z4 w5 ho hb hg hat; have HI1 := Aside0.mk (IsS67.grown (HI0.out.far (p := ⟨WN.heap.size, 2, none⟩) (Ne.symm hne.out) (.string x1)) hg (fun e => by have := (HO.out.1 _ e.symm).1; have := HG.out; omega)); replace HK := Aside0.mk (KeepBut.trans (keep_far HK.out (p := ⟨WN.heap.size, 2, none⟩) hwn.out (.string x1)) (KeepBut.of_grown hg g) (by cases hq_ : (Value.slice A3 o.length c3).ownBlock with | none => exact .inl rfl | some q_ => exact .inr ⟨q_, rfl, (HO.out.1 _ hq_).1⟩)); replace HB := Aside0.mk ((below_set (j := 2) (v := .string x1) HB.out (Nat.le_trans HW0.out hwn.out)).trans (hb.mono HW0.out)); replace HO := Aside0.mk ho; replace HI0 := HI1; obtain ⟨A_, c_, rfl, -⟩ := Kd.R_reads ho; clear ho hb hg hat HI1 hb0 hb1 hb2 hbf2; (try clear hc0 hc1 hf0 hf1); have hc0 := cellS67_0 HI0.out.1; have hc1 := cellS67_1 HI0.out.1; have hf0 := blk_frozen HI0.out.1 0; have hf1 := blk_frozen HI0.out.1 1)))
          go_roundg d
          case measure => omega
          case rel =>
            have ho := HO.out
            rw [HE.out] at ho
            exact ⟨x2, x3, _, ⟨by have := HL.out; rw [HE.out]; omega⟩, HV, HI0, HB, HK, ⟨ho⟩⟩
      · rw [if_neg ce] at htk
        have HTK := Aside0.mk htk
        clear htk
        have z1 : decide ((0 : Int) < (o.length : Int)) = true := decide_eq_true (by omega)
        have z2 : decide (0 < o.length) = true := decide_eq_true (by omega)
        clear ce
        have c1' := Bool.eq_false_iff.2 c1
        have P125 : Aside0 (strings_HasPrefix.f s ⟨#[125]⟩ = some false) := ⟨by rw [hasPrefix1]; exact congrArg some c1'⟩
        clear c1 c1'
        have HE : Aside0 ((o ++ [(⟨g1, n1, x1⟩ : S42)]).length = o.length + 1) := ⟨by simp⟩
        by_cases c16 : 16 < o.length + 1
        · rw [if_pos c16] at HV
          have y1 : decide (16 < o.length + 1) = true := decide_eq_true c16
          have y2 : decide ((16 : Int) < (o.length : Int) + 1) = true := decide_eq_true (by omega)
          clear c16
          go_wp2_with (first | (go_at_call 46; (with_reducible refine (strings_HasPrefix.calls s ⟨#[125]⟩ false _ P125.out).mono ?_); rintro e w' ⟨rfl, ⟨nd, rfl⟩⟩; have n0 := Aside0.mk (IsS67.drewN HI0.out nd); have n1 := Aside0.mk (keep_drewN HK.out nd); have n2 := Aside0.mk (pw_below_drewN HB.out nd); have n3 := Aside0.mk (Kd.R_keep HO.out (keep_drewN (KeepBut.refl wr g none) nd) (fun k (hk : w.heap.size ≤ k) => by have := HG.out; omega)); clear HI0 HK HB HO HW hc0 hc1 hf0 hf1; generalize World.drewN wr nd = WA at n0 n1 n2 n3 ⊢; have HI0 := n0; have HK := n1; have HB := n2; have HO := n3; clear n0 n1 n2 n3; (try clear hc0 hc1 hf0 hf1); have hc0 := cellS67_0 HI0.out.1; have hc1 := cellS67_1 HI0.out.1; have hf0 := blk_frozen HI0.out.1 0; have hf1 := blk_frozen HI0.out.1 1) | (go_at_call 45; ((with_reducible refine (labels_reader_take.calls g s false ⟨#[44]⟩ t1 t2 w0 _ HI0.out HB.out HTK.out).mono ?_); rintro e w1 ⟨rfl, hI, hB, hK⟩; (try (replace HO := Aside0.mk (Kd.R_keep HO.out hK (fun k (hk : w.heap.size ≤ k) => by have := HG.out; omega)))); replace HI0 := Aside0.mk hI; replace HB := Aside0.mk hB; replace HK := Aside0.mk (HK.out.trans hK (.inl rfl)); clear hI hB hK; (try clear hc0 hc1 hf0 hf1); have hc0 := cellS67_0 HI0.out.1; have hc1 := cellS67_1 HI0.out.1; have hf0 := blk_frozen HI0.out.1 0; have hf1 := blk_frozen HI0.out.1 1)) | (go_at_call 47; ((with_reducible refine (labels_reader_name.calls (t1.size + 2) g t1 t2 n1 n2 n3 w0 _ HI0.out HB.out HN.out).mono ?_); rintro e WN ⟨rfl, hI, hB, hK⟩; (try (replace HO := Aside0.mk (Kd.R_keep HO.out hK (fun k (hk : w.heap.size ≤ k) => by have := HG.out; omega)))); replace HI0 := Aside0.mk hI; replace HB := Aside0.mk hB; replace HK := Aside0.mk (HK.out.trans hK (.inl rfl)); clear hI hB hK; (try clear hc0 hc1 hf0 hf1); have hc0 := cellS67_0 HI0.out.1; have hc1 := cellS67_1 HI0.out.1; have hf0 := blk_frozen HI0.out.1 0; have hf1 := blk_frozen HI0.out.1 1; have hne : Aside0 (WN.heap.size ≠ g) := ⟨by have := HI0.out.lt; omega⟩; have hwn : Aside0 (w.heap.size ≤ WN.heap.size) := ⟨HK.out.1⟩; have hgn := Aside0.mk HI0.out.lt; replace HO := Aside0.mk (R_okM (ok' := fun k => w.heap.size ≤ k ∧ k < WN.heap.size) HO.out (fun k hk => ⟨HO.out.1 k hk, Kd.R_lt HO.out k hk⟩)))) | (go_at_call 48; ((with_reducible refine (labels_reader_sign.calls g n2 n3 g1 g2 g3 w0 _ (HI0.out.alloc (.cells #[.int .i64 0, .string n1, .string (⟨#[]⟩ : ByteArray)] 42)) (below_alloc HB.out (.cells #[.int .i64 0, .string n1, .string (⟨#[]⟩ : ByteArray)] 42)) HS.out).mono ?_); rintro e WS ⟨rfl, hI, hB, hK⟩; have BX := Aside0.mk (hK.blk (show (WN.alloc (.cells #[.int .i64 0, .string n1, .string (⟨#[]⟩ : ByteArray)] 42)).heap[WN.heap.size]? = some (.cells #[.int .i64 0, .string n1, .string (⟨#[]⟩ : ByteArray)] 42 (0, 0)) from by simpa using heap_alloc_new WN _) hne.out (by simp)); replace HO := Aside0.mk (Kd.R_keep (Kd.R_alloc HO.out (.cells #[.int .i64 0, .string n1, .string (⟨#[]⟩ : ByteArray)] 42)) hK (fun k (hk : w.heap.size ≤ k ∧ k < WN.heap.size) => by have := HG.out; omega)); replace HK := Aside0.mk ((keep_alloc HK.out (.cells #[.int .i64 0, .string n1, .string (⟨#[]⟩ : ByteArray)] 42)).trans hK (.inl rfl)); replace HI0 := Aside0.mk hI; replace HB := Aside0.mk hB; clear hI hB hK; (try clear hc0 hc1 hf0 hf1); have hc0 := cellS67_0 HI0.out.1; have hc1 := cellS67_1 HI0.out.1; have hf0 := blk_frozen HI0.out.1 0; have hf1 := blk_frozen HI0.out.1 1; have hb0 := blk_cell BX.out 0; have hb1 := blk_cell BX.out 1; have hb2 := blk_cell BX.out 2; have hbf0 := blk_frozen BX.out 0; have hbf2 := blk_frozen BX.out 2)) | (go_at_call 49; ((with_reducible refine (labels_reader_value.calls g g2 g3 x1 x2 x3 w0 _ (HI0.out.far (p := ⟨WN.heap.size, 0, none⟩) (Ne.symm hne.out) (.int .i64 g1)) (below_set (j := 0) (v := .int .i64 g1) HB.out (Nat.le_trans HW0.out hwn.out)) HX.out).mono ?_); rintro e WV ⟨rfl, hI, hB, hK⟩; replace BX : Aside0 (WV.heap[WN.heap.size]? = some (.cells #[.int .i64 g1, .string n1, .string (⟨#[]⟩ : ByteArray)] 42 (0, 0))) := ⟨hK.blk (by simpa using blk_set BX.out 0 (.int .i64 g1)) hne.out (by simp)⟩; replace HO := Aside0.mk (Kd.R_keep (Kd.R_keep HO.out ((KeepBut.refl WS WN.heap.size none).set_ 0 (.int .i64 g1)) (fun k (hk : w.heap.size ≤ k ∧ k < WN.heap.size) => by omega)) hK (fun k (hk : w.heap.size ≤ k ∧ k < WN.heap.size) => by have := HG.out; omega)); replace HK := Aside0.mk ((keep_far HK.out (p := ⟨WN.heap.size, 0, none⟩) hwn.out (.int .i64 g1)).trans hK (.inl rfl)); replace HI0 := Aside0.mk hI; replace HB := Aside0.mk hB; clear hI hB hK hb0 hb1 hb2 hbf0 hbf2; (try clear hc0 hc1 hf0 hf1); have hc0 := cellS67_0 HI0.out.1; have hc1 := cellS67_1 HI0.out.1; have hf0 := blk_frozen HI0.out.1 0; have hf1 := blk_frozen HI0.out.1 1; have hb0 := blk_cell BX.out 0; have hb1 := blk_cell BX.out 1; have hb2 := blk_cell BX.out 2; have hbf2 := blk_frozen BX.out 2)) | ((with_reducible refine gate_builtin (b := .append) (xs := #[.tmp 34, .tmp 36]) rfl ?_); at_builtin; (refine Kd.R_append k42 (w0 := (WV.setCell ⟨WN.heap.size, 2, none⟩ (.string x1))) w.heap.size rfl (.tmp 34) (.tmp 36) 37 42 (.agg #[.int .i64 0, .string ⟨#[]⟩, .string ⟨#[]⟩]) 40 rfl Try.underlying37 info42 rfl (by decide) (by omega) (.slice A3 o.length c3) o ⟨g1, n1, x1⟩ [.int .i64 g1, .string n1, .string x1] (fun k => w.heap.size ≤ k) (fun _ => False) rfl (by first | rfl | (go_simp; done) | (simp [World.setCell]; done)) ?aP (fun _ hk => hk.elim) ?aF ?aO ?aB ?aS ?aL ?_; (case aP => exact k42_mkM _ _ _ _); (case aB => exact Below.refl _ _); (case aF => exact (fun k hk => Nat.le_trans (keep_size (w := w) (g := g) (row := none) (keep_far HK.out (p := ⟨WN.heap.size, 2, none⟩) hwn.out _)) hk)); (case aO => exact R_okM (Kd.R_keep HO.out ((KeepBut.refl WV WN.heap.size none).set_ 2 _) (fun k (hk : w.heap.size ≤ k ∧ k < WN.heap.size) => by omega)) (fun k hk => (HO.out.1 k hk).1)); (case aS => exact keep_size (w := w) (g := g) (row := none) (keep_far HK.out (p := ⟨WN.heap.size, 2, none⟩) hwn.out _)); (case aL => have := HL.out; omega); intro z4 w5 ho hb hg hat; have HI1 := Aside0.mk (IsS67.grown (HI0.out.far (p := ⟨WN.heap.size, 2, none⟩) (Ne.symm hne.out) (.string x1)) hg (fun e => by have := (HO.out.1 _ e.symm).1; have := HG.out; omega)); replace HK := Aside0.mk (KeepBut.trans (keep_far HK.out (p := ⟨WN.heap.size, 2, none⟩) hwn.out (.string x1)) (KeepBut.of_grown hg g) (by cases hq_ : (Value.slice A3 o.length c3).ownBlock with | none => exact .inl rfl | some q_ => exact .inr ⟨q_, rfl, (HO.out.1 _ hq_).1⟩)); replace HB := Aside0.mk ((below_set (j := 2) (v := .string x1) HB.out (Nat.le_trans HW0.out hwn.out)).trans (hb.mono HW0.out)); replace HO := Aside0.mk ho; replace HI0 := HI1; obtain ⟨A_, c_, rfl, -⟩ := Kd.R_reads ho; clear ho hb hg hat HI1 hb0 hb1 hb2 hbf2; (try clear hc0 hc1 hf0 hf1); have hc0 := cellS67_0 HI0.out.1; have hc1 := cellS67_1 HI0.out.1; have hf0 := blk_frozen HI0.out.1 0; have hf1 := blk_frozen HI0.out.1 1)))
          go_roundg d
          case measure => omega
          case rel =>
            have ho := HO.out
            rw [HE.out] at ho
            exact ⟨x2, true, _, ⟨by have := HL.out; rw [HE.out]; omega⟩, HV, ⟨HI0.out.set_1 true⟩, ⟨below_set HB.out (IsS67.ge HI0.out)⟩, ⟨HK.out.set_ 1 _⟩, ⟨Kd.R_keep ho ((KeepBut.refl _ _ _).set_ 1 _) (fun k (hk : w.heap.size ≤ k) => by have := HG.out; omega)⟩⟩
        · rw [if_neg c16] at HV
          have y1 : decide (16 < o.length + 1) = false := decide_eq_false c16
          have y2 : decide ((16 : Int) < (o.length : Int) + 1) = false := decide_eq_false (by omega)
          clear c16
          go_wp2_with (first | (go_at_call 46; (with_reducible refine (strings_HasPrefix.calls s ⟨#[125]⟩ false _ P125.out).mono ?_); rintro e w' ⟨rfl, ⟨nd, rfl⟩⟩; have n0 := Aside0.mk (IsS67.drewN HI0.out nd); have n1 := Aside0.mk (keep_drewN HK.out nd); have n2 := Aside0.mk (pw_below_drewN HB.out nd); have n3 := Aside0.mk (Kd.R_keep HO.out (keep_drewN (KeepBut.refl wr g none) nd) (fun k (hk : w.heap.size ≤ k) => by have := HG.out; omega)); clear HI0 HK HB HO HW hc0 hc1 hf0 hf1; generalize World.drewN wr nd = WA at n0 n1 n2 n3 ⊢; have HI0 := n0; have HK := n1; have HB := n2; have HO := n3; clear n0 n1 n2 n3; (try clear hc0 hc1 hf0 hf1); have hc0 := cellS67_0 HI0.out.1; have hc1 := cellS67_1 HI0.out.1; have hf0 := blk_frozen HI0.out.1 0; have hf1 := blk_frozen HI0.out.1 1) | (go_at_call 45; ((with_reducible refine (labels_reader_take.calls g s false ⟨#[44]⟩ t1 t2 w0 _ HI0.out HB.out HTK.out).mono ?_); rintro e w1 ⟨rfl, hI, hB, hK⟩; (try (replace HO := Aside0.mk (Kd.R_keep HO.out hK (fun k (hk : w.heap.size ≤ k) => by have := HG.out; omega)))); replace HI0 := Aside0.mk hI; replace HB := Aside0.mk hB; replace HK := Aside0.mk (HK.out.trans hK (.inl rfl)); clear hI hB hK; (try clear hc0 hc1 hf0 hf1); have hc0 := cellS67_0 HI0.out.1; have hc1 := cellS67_1 HI0.out.1; have hf0 := blk_frozen HI0.out.1 0; have hf1 := blk_frozen HI0.out.1 1)) | (go_at_call 47; ((with_reducible refine (labels_reader_name.calls (t1.size + 2) g t1 t2 n1 n2 n3 w0 _ HI0.out HB.out HN.out).mono ?_); rintro e WN ⟨rfl, hI, hB, hK⟩; (try (replace HO := Aside0.mk (Kd.R_keep HO.out hK (fun k (hk : w.heap.size ≤ k) => by have := HG.out; omega)))); replace HI0 := Aside0.mk hI; replace HB := Aside0.mk hB; replace HK := Aside0.mk (HK.out.trans hK (.inl rfl)); clear hI hB hK; (try clear hc0 hc1 hf0 hf1); have hc0 := cellS67_0 HI0.out.1; have hc1 := cellS67_1 HI0.out.1; have hf0 := blk_frozen HI0.out.1 0; have hf1 := blk_frozen HI0.out.1 1; have hne : Aside0 (WN.heap.size ≠ g) := ⟨by have := HI0.out.lt; omega⟩; have hwn : Aside0 (w.heap.size ≤ WN.heap.size) := ⟨HK.out.1⟩; have hgn := Aside0.mk HI0.out.lt; replace HO := Aside0.mk (R_okM (ok' := fun k => w.heap.size ≤ k ∧ k < WN.heap.size) HO.out (fun k hk => ⟨HO.out.1 k hk, Kd.R_lt HO.out k hk⟩)))) | (go_at_call 48; ((with_reducible refine (labels_reader_sign.calls g n2 n3 g1 g2 g3 w0 _ (HI0.out.alloc (.cells #[.int .i64 0, .string n1, .string (⟨#[]⟩ : ByteArray)] 42)) (below_alloc HB.out (.cells #[.int .i64 0, .string n1, .string (⟨#[]⟩ : ByteArray)] 42)) HS.out).mono ?_); rintro e WS ⟨rfl, hI, hB, hK⟩; have BX := Aside0.mk (hK.blk (show (WN.alloc (.cells #[.int .i64 0, .string n1, .string (⟨#[]⟩ : ByteArray)] 42)).heap[WN.heap.size]? = some (.cells #[.int .i64 0, .string n1, .string (⟨#[]⟩ : ByteArray)] 42 (0, 0)) from by simpa using heap_alloc_new WN _) hne.out (by simp)); replace HO := Aside0.mk (Kd.R_keep (Kd.R_alloc HO.out (.cells #[.int .i64 0, .string n1, .string (⟨#[]⟩ : ByteArray)] 42)) hK (fun k (hk : w.heap.size ≤ k ∧ k < WN.heap.size) => by have := HG.out; omega)); replace HK := Aside0.mk ((keep_alloc HK.out (.cells #[.int .i64 0, .string n1, .string (⟨#[]⟩ : ByteArray)] 42)).trans hK (.inl rfl)); replace HI0 := Aside0.mk hI; replace HB := Aside0.mk hB; clear hI hB hK; (try clear hc0 hc1 hf0 hf1); have hc0 := cellS67_0 HI0.out.1; have hc1 := cellS67_1 HI0.out.1; have hf0 := blk_frozen HI0.out.1 0; have hf1 := blk_frozen HI0.out.1 1; have hb0 := blk_cell BX.out 0; have hb1 := blk_cell BX.out 1; have hb2 := blk_cell BX.out 2; have hbf0 := blk_frozen BX.out 0; have hbf2 := blk_frozen BX.out 2)) | (go_at_call 49; ((with_reducible refine (labels_reader_value.calls g g2 g3 x1 x2 x3 w0 _ (HI0.out.far (p := ⟨WN.heap.size, 0, none⟩) (Ne.symm hne.out) (.int .i64 g1)) (below_set (j := 0) (v := .int .i64 g1) HB.out (Nat.le_trans HW0.out hwn.out)) HX.out).mono ?_); rintro e WV ⟨rfl, hI, hB, hK⟩; replace BX : Aside0 (WV.heap[WN.heap.size]? = some (.cells #[.int .i64 g1, .string n1, .string (⟨#[]⟩ : ByteArray)] 42 (0, 0))) := ⟨hK.blk (by simpa using blk_set BX.out 0 (.int .i64 g1)) hne.out (by simp)⟩; replace HO := Aside0.mk (Kd.R_keep (Kd.R_keep HO.out ((KeepBut.refl WS WN.heap.size none).set_ 0 (.int .i64 g1)) (fun k (hk : w.heap.size ≤ k ∧ k < WN.heap.size) => by omega)) hK (fun k (hk : w.heap.size ≤ k ∧ k < WN.heap.size) => by have := HG.out; omega)); replace HK := Aside0.mk ((keep_far HK.out (p := ⟨WN.heap.size, 0, none⟩) hwn.out (.int .i64 g1)).trans hK (.inl rfl)); replace HI0 := Aside0.mk hI; replace HB := Aside0.mk hB; clear hI hB hK hb0 hb1 hb2 hbf0 hbf2; (try clear hc0 hc1 hf0 hf1); have hc0 := cellS67_0 HI0.out.1; have hc1 := cellS67_1 HI0.out.1; have hf0 := blk_frozen HI0.out.1 0; have hf1 := blk_frozen HI0.out.1 1; have hb0 := blk_cell BX.out 0; have hb1 := blk_cell BX.out 1; have hb2 := blk_cell BX.out 2; have hbf2 := blk_frozen BX.out 2)) | ((with_reducible refine gate_builtin (b := .append) (xs := #[.tmp 34, .tmp 36]) rfl ?_); at_builtin; (refine Kd.R_append k42 (w0 := (WV.setCell ⟨WN.heap.size, 2, none⟩ (.string x1))) w.heap.size rfl (.tmp 34) (.tmp 36) 37 42 (.agg #[.int .i64 0, .string ⟨#[]⟩, .string ⟨#[]⟩]) 40 rfl Try.underlying37 info42 rfl (by decide) (by omega) (.slice A3 o.length c3) o ⟨g1, n1, x1⟩ [.int .i64 g1, .string n1, .string x1] (fun k => w.heap.size ≤ k) (fun _ => False) rfl (by first | rfl | (go_simp; done) | (simp [World.setCell]; done)) ?aP (fun _ hk => hk.elim) ?aF ?aO ?aB ?aS ?aL ?_; (case aP => exact k42_mkM _ _ _ _); (case aB => exact Below.refl _ _); (case aF => exact (fun k hk => Nat.le_trans (keep_size (w := w) (g := g) (row := none) (keep_far HK.out (p := ⟨WN.heap.size, 2, none⟩) hwn.out _)) hk)); (case aO => exact R_okM (Kd.R_keep HO.out ((KeepBut.refl WV WN.heap.size none).set_ 2 _) (fun k (hk : w.heap.size ≤ k ∧ k < WN.heap.size) => by omega)) (fun k hk => (HO.out.1 k hk).1)); (case aS => exact keep_size (w := w) (g := g) (row := none) (keep_far HK.out (p := ⟨WN.heap.size, 2, none⟩) hwn.out _)); (case aL => have := HL.out; omega); intro z4 w5 ho hb hg hat; have HI1 := Aside0.mk (IsS67.grown (HI0.out.far (p := ⟨WN.heap.size, 2, none⟩) (Ne.symm hne.out) (.string x1)) hg (fun e => by have := (HO.out.1 _ e.symm).1; have := HG.out; omega)); replace HK := Aside0.mk (KeepBut.trans (keep_far HK.out (p := ⟨WN.heap.size, 2, none⟩) hwn.out (.string x1)) (KeepBut.of_grown hg g) (by cases hq_ : (Value.slice A3 o.length c3).ownBlock with | none => exact .inl rfl | some q_ => exact .inr ⟨q_, rfl, (HO.out.1 _ hq_).1⟩)); replace HB := Aside0.mk ((below_set (j := 2) (v := .string x1) HB.out (Nat.le_trans HW0.out hwn.out)).trans (hb.mono HW0.out)); replace HO := Aside0.mk ho; replace HI0 := HI1; obtain ⟨A_, c_, rfl, -⟩ := Kd.R_reads ho; clear ho hb hg hat HI1 hb0 hb1 hb2 hbf2; (try clear hc0 hc1 hf0 hf1); have hc0 := cellS67_0 HI0.out.1; have hc1 := cellS67_1 HI0.out.1; have hf0 := blk_frozen HI0.out.1 0; have hf1 := blk_frozen HI0.out.1 1)))
          go_roundg d
          case measure => omega
          case rel =>
            have ho := HO.out
            rw [HE.out] at ho
            exact ⟨x2, x3, _, ⟨by have := HL.out; rw [HE.out]; omega⟩, HV, HI0, HB, HK, ⟨ho⟩⟩
end Go.Proofs.Ytbfiacnmielajaa.P
namespace Go.Proofs.Ytbfiacnmielajaa.P
open Go.RowKit Go.Proofs.YtbfiacnmielajaaW.PrintWords Go.Proofs.YtbfiacnmielajaaW.PrintLast Go.Proofs.YtbfiacnmielajaaW.PrintMore
attribute [local go_sem] max2_int min2_int max_two min_two max_three min_three max_four min_four
set_option linter.unusedVariables false
set_option linter.unusedSimpArgs false
def labels_ParseMatchers.f (s : ByteArray) : Option (List S42 × Int) :=
  (labels_reader_all.f s false).bind fun v => if v.2.2 = true then some ([], 10) else
    (labels_CheckMatchers.f 3000 v.1).bind fun c => if c = 0 then some (v.1, 0) else some ([], 10)
set_option maxHeartbeats 8000000 in
set_option maxRecDepth 100000 in
theorem labels_ParseMatchers.calls (a0 : ByteArray) (r1 : List S42) (r2 : Int) (w : World) (h : labels_ParseMatchers.f a0 = some (r1, r2)) :
    Calls Try.prog 18 #[.string a0] w fun e w' => ∃ v0_ : Value, e = .returned (.tuple #[v0_, .int .i64 r2]) ∧ Kd.R k42 42 w' w.heap.size (fun _ => True) v0_ r1 ∧ Below w.heap.size w w' := by
  unfold labels_ParseMatchers.f at h
  replace h := Option.bind_eq_some_iff.mp h
  obtain ⟨⟨v1, v2, v3⟩, hv, h⟩ := h
  dsimp only at h
  have HV := Aside0.mk hv
  clear hv
  have HB := Aside0.mk (below_alloc (Below.refl w.heap.size w) (.cells #[.string a0, .bool false] 67))
  have HI := Aside0.mk (IsS67.new w w a0 false (Below.refl _ _))
  cases v3 with
  | true =>
    rw [if_pos rfl] at h
    simp only [Option.some.injEq, Prod.mk.injEq] at h
    obtain ⟨rfl, rfl⟩ := h
    go_enter Try.func18, Try.ntmps18
    go_wp2_with (go_at_call 33; ((with_reducible refine (labels_reader_all.calls w.heap.size a0 false v1 v2 _ w _ HI.out HB.out HV.out).mono ?_); rintro e w1 ⟨v0, rfl, hO, hI, hB, hK⟩; have HO : Aside0 (Kd.R k42 42 w1 w.heap.size (fun _ => True) v0 v1) := ⟨Kd.R_lower hO (by simp)⟩; replace HI := Aside0.mk hI; replace HB := Aside0.mk hB; obtain ⟨A_, c_, rfl, -⟩ := Kd.R_reads HO.out; clear hO hI hB hK; have hc1 := cellS67_1 HI.out.1))
    go_ret2
    exact ⟨_, rfl, Kd.R_nil _ _ _ _ _, HB.out⟩
  | false =>
    rw [if_neg (by decide)] at h
    replace h := Option.bind_eq_some_iff.mp h
    obtain ⟨c, hc, h⟩ := h
    have HC := Aside0.mk hc
    clear hc
    by_cases c0 : c = 0
    · rw [if_pos c0] at h
      subst c0
      simp only [Option.some.injEq, Prod.mk.injEq] at h
      obtain ⟨rfl, rfl⟩ := h
      go_enter Try.func18, Try.ntmps18
      go_wp2_with (first | (go_at_call 33; ((with_reducible refine (labels_reader_all.calls w.heap.size a0 false v1 v2 _ w _ HI.out HB.out HV.out).mono ?_); rintro e w1 ⟨v0, rfl, hO, hI, hB, hK⟩; have HO : Aside0 (Kd.R k42 42 w1 w.heap.size (fun _ => True) v0 v1) := ⟨Kd.R_lower hO (by simp)⟩; replace HI := Aside0.mk hI; replace HB := Aside0.mk hB; obtain ⟨A_, c_, rfl, -⟩ := Kd.R_reads HO.out; clear hO hI hB hK; have hc1 := cellS67_1 HI.out.1)) | (go_at_call 27; ((with_reducible refine (labels_CheckMatchers.calls 3000 A_ c_ v1 0 _ (Kd.R_reads' HO.out).2.2 (Kd.R_reads' HO.out).2.1 HC.out).mono ?_); rintro e w2 ⟨rfl, hb⟩; replace HO := Aside0.mk (Kd.R_below HO.out hb); replace HB := Aside0.mk (below_then HB.out HB.out.size hb); clear hb)))
      go_ret2
      exact ⟨_, rfl, HO.out, HB.out⟩
    · rw [if_neg c0] at h
      have d1 : (c != 0) = true := bne_iff_ne.2 c0
      simp only [Option.some.injEq, Prod.mk.injEq] at h
      obtain ⟨rfl, rfl⟩ := h
      go_enter Try.func18, Try.ntmps18
      go_wp2_with (first | (go_at_call 33; ((with_reducible refine (labels_reader_all.calls w.heap.size a0 false v1 v2 _ w _ HI.out HB.out HV.out).mono ?_); rintro e w1 ⟨v0, rfl, hO, hI, hB, hK⟩; have HO : Aside0 (Kd.R k42 42 w1 w.heap.size (fun _ => True) v0 v1) := ⟨Kd.R_lower hO (by simp)⟩; replace HI := Aside0.mk hI; replace HB := Aside0.mk hB; obtain ⟨A_, c_, rfl, -⟩ := Kd.R_reads HO.out; clear hO hI hB hK; have hc1 := cellS67_1 HI.out.1)) | (go_at_call 27; ((with_reducible refine (labels_CheckMatchers.calls 3000 A_ c_ v1 c _ (Kd.R_reads' HO.out).2.2 (Kd.R_reads' HO.out).2.1 HC.out).mono ?_); rintro e w2 ⟨rfl, hb⟩; replace HO := Aside0.mk (Kd.R_below HO.out hb); replace HB := Aside0.mk (below_then HB.out HB.out.size hb); clear hb)))
      go_ret2
      exact ⟨_, rfl, Kd.R_nil _ _ _ _ _, HB.out⟩
end Go.Proofs.Ytbfiacnmielajaa.P
namespace Go.Proofs.Ytbfiacnmielajaa.P
open Go.RowKit Go.Proofs.YtbfiacnmielajaaW.PrintWords Go.Proofs.YtbfiacnmielajaaW.PrintLast Go.Proofs.YtbfiacnmielajaaW.PrintMore
attribute [local go_sem] max2_int min2_int max_two min_two max_three min_three max_four min_four
set_option linter.unusedVariables false
set_option linter.unusedSimpArgs false
attribute [local go_sem high] leq_str gtr_str
def labels_Parse.l0 : Nat → List (S58) → List (S42) → Int → Int → Option ((List (S58)) × Int)
 | 0, _, _, _, _ => none
 | k + 1, x6, x17, x18, x19 => if x19 < x18 then (if 0 ≤ x19 then (if x19 < (x17.length : Int) then (if ((rd_T42 x17 x19).f0) = 0 then (if x6.length < 4398046511104 then (labels_Parse.l0 k (x6 ++ [(⟨(rd_T42 x17 x19).f1, (rd_T42 x17 x19).f2⟩ : S58)]) x17 x18 (wrap64 (x19 + 1))) else (none)) else (some (([] : List (S58)), 10))) else (none)) else (none)) else ((labels_Check.f k x6).bind fun t110 => (if t110 = 0 then (some (x6, 0)) else (some (([] : List (S58)), 10))))
def labels_Parse.f (k : Nat) (a0 : ByteArray) : Option ((List (S58)) × Int) := (labels_ParseMatchers.f a0).bind fun bt101 => (if bt101.2 = 0 then (labels_Parse.l0 k ([] : List (S58)) bt101.1 (bt101.1.length : Int) 0) else (some (([] : List (S58)), bt101.2)))
set_option maxHeartbeats 8000000 in
set_option maxRecDepth 100000 in
theorem labels_Parse.calls (k : Nat) (a0 : ByteArray) (r1 : List (S58)) (r2 : Int) (w : World) (h : labels_Parse.f k a0 = some (r1, r2)) :
  Calls Try.prog 15 #[.string a0] w fun e w' => ∃ v0_ : Value, e = .returned (.tuple #[v0_, .int .i64 r2]) ∧ Kd.R k58 58 w' w.heap.size (fun _ => True) v0_ r1 ∧ Below w.heap.size w w' := by
 have hu42 := Try.underlying42
 have hu58 := Try.underlying58
 have HB := Aside0.mk (Below.refl w.heap.size w)
 have H : ((labels_ParseMatchers.f a0).bind fun bt101 => (if bt101.2 = 0 then (labels_Parse.l0 k ([] : List (S58)) bt101.1 (bt101.1.length : Int) 0) else (some (([] : List (S58)), bt101.2)))) = some (r1, r2) := h
 clear h
 replace H := Option.bind_eq_some_iff.mp H
 obtain ⟨⟨t101, t102⟩, A20, H⟩ := H
 replace H : (if t102 = 0 then (labels_Parse.l0 k ([] : List (S58)) t101 (t101.length : Int) 0) else (some (([] : List (S58)), t102))) = some (r1, r2) := H
 have A2 := Aside0.mk A20
 clear A20
 by_cases c3 : t102 = 0
 ·rw [if_pos c3] at H
  have c3b0 : (t102 == 0) = true := beq_iff_eq.mpr c3
  have c3b1 : (t102 != 0) = false := bne_eq_false_iff_eq.mpr c3
  clear c3
  have H' := Aside0.mk H
  clear H
  go_enter Try.func15, Try.ntmps15
  go_wp2_with (first | ((with_reducible refine gate_callee (f := 18) rfl ?_); refine goesL_ (some 11) rfl rfl Try.func18 (by kernel_rfl) rfl #[.string a0] rfl (by (try simp only [List.map_toArray, List.map_cons, List.map_nil]); first | done | rfl | (simp only [List.length_drop, List.length_take]; rfl)) ?_; (with_reducible refine (labels_ParseMatchers.calls a0 t101 t102 _ A2.out).mono ?_); rintro e w4 ⟨v103, rfl, ho0, hb⟩; refine ⟨_, rfl, ?_⟩; have n0_ := Aside0.mk (Kd.R_lower ho0 (below_size (by repeat (first | (with_reducible first | exact HB.out | apply below_alloc | apply pw_below_drewN | apply below_drew1) | exact HB.out)))); have n1_ := Aside0.mk (below_step (by repeat (first | (with_reducible first | exact HB.out | apply below_alloc | apply pw_below_drewN | apply below_drew1) | exact HB.out)) hb); clear HB; have HO104 := n0_; have HB := n1_; clear n0_ n1_; (try clear hb); (try clear hb2); (try clear hk); (try clear hi); (try clear ho0); clear A2; obtain ⟨Ao5, co5, eo5⟩ := Kd.R_slice HO104.out; subst eo5))
  go_loopg [6, 19] k (fun kq v6 v19 w' => ∃ (x6_1 : List (S58)) (x19_1 : Int), v19 = .int .i64 x19_1 ∧ Aside0 (labels_Parse.l0 kq x6_1 t101 (t101.length : Int) x19_1 = some (r1, r2)) ∧ Aside0 (kq ≤ k) ∧ Aside0 (Kd.R k58 58 w' w.heap.size (fun _ => True) v6 x6_1) ∧ Aside0 (Kd.R k42 42 w' w.heap.size (fun _ => True) (.slice Ao5 t101.length co5) t101) ∧ Aside0 (Below w.heap.size w w'))
  case atStart => exact ⟨(([] : List (S58))), (0), (by first | rfl | (simp; done) | (simp [*]; done)), H', ⟨Nat.le_refl _⟩, ⟨by first | exact Kd.R_nil _ _ _ _ _ | exact Kd.N_nil _ _ _ _ _ | exact Kd.V_nil _ _ _ _ _ | exact Kd.Q_nil _ _ _ _ _ | exact Kd.S_nil _ _ _ _ _⟩, ⟨by (with_reducible repeat (first | apply Kd.R_alloc | apply Kd.R_drewN | apply Kd.R_drew)); exact HO104.out⟩, ⟨by repeat (first | (with_reducible first | exact HB.out | apply below_alloc | apply pw_below_drewN | apply below_drew1) | exact HB.out)⟩⟩
  case round =>
   clear H'
   try clear c1
   try clear p2
   try clear c3
   try clear c3b0
   try clear c3b1
   obtain ⟨x6_1, x19_1, rfl, HA, HK1, HO_6, HO_17, HB⟩ := hrel
   cases gk with
   | zero => exact absurd HA.out (by simp [labels_Parse.l0])
   | succ k1 =>
    have H := HA.out
    clear HA
    simp only [labels_Parse.l0] at H
    by_cases c6 : x19_1 < (t101.length : Int)
    ·rw [if_pos c6] at H
     have c6b0 : decide (x19_1 < (t101.length : Int)) = true := decide_eq_true c6
     clear c6
     by_cases c7 : 0 ≤ x19_1
     ·rw [if_pos c7] at H
      have c7b0 : decide (0 ≤ x19_1) = true := decide_eq_true c7
      clear c7
      by_cases c8 : x19_1 < (t101.length : Int)
      ·rw [if_pos c8] at H
       have c8b0 : decide (x19_1 < (t101.length : Int)) = true := decide_eq_true c8
       clear c8
       by_cases c9 : ((rd_T42 t101 x19_1).f0) = 0
       ·rw [if_pos c9] at H
        have c9b0 : (((rd_T42 t101 x19_1).f0) == 0) = true := beq_iff_eq.mpr c9
        have c9b1 : (((rd_T42 t101 x19_1).f0) != 0) = false := bne_eq_false_iff_eq.mpr c9
        clear c9
        by_cases c10 : x6_1.length < 4398046511104
        ·rw [if_pos c10] at H
         have LMc10 := Aside0.mk c10
         clear c10
         obtain ⟨y107, hy107⟩ : ∃ y_ : List (S58), y_ = (x6_1 ++ [(⟨(rd_T42 t101 x19_1).f1, (rd_T42 t101 x19_1).f2⟩ : S58)]) := ⟨_, rfl⟩
         replace H : (labels_Parse.l0 k1 y107 t101 (t101.length : Int) (wrap64 (x19_1 + 1))) = some (r1, r2) := by first | (rw [hy107]; with_reducible exact H) | (have H2_ := (Option.bind_some _ _).symm.trans H; rw [hy107]; with_reducible exact H2_) | (have H2_ := (Option.bind_some _ _).symm.trans H; with_reducible exact H2_) | with_reducible exact H | (rw [hy107]; exact H) | exact H
         have Ny107 := Aside0.mk hy107
         clear hy107
         have H' := Aside0.mk H
         clear H
         have p105 : 0 ≤ (x19_1 : Int) := of_decide_eq_true (by first | (with_reducible assumption) | assumption)
         have q105 : x19_1 < (t101.length : Int) := of_decide_eq_true (by first | (with_reducible assumption) | assumption)
         obtain ⟨ad105, e105, hx105_0, hx105_1, hx105_2⟩ := at_T42 (Kd.R_reads' HO_17.out).2.2 x19_1 p105 q105
         cases e105
         replace p105 := eq_true p105
         replace q105 := eq_true q105
         go_wp2_with (first | ((with_reducible refine gate_dst (N := 8) rfl ?_); refine box_event ?hg (N := 8) ?hd (cs := #[.int .i64 0, .string (⟨#[]⟩ : ByteArray), .string (⟨#[]⟩ : ByteArray)]) (t := 42) ?hr ?_; (case hd => rfl); (case hg => rfl); (case hr => first | (go_simp; done) | (go_simp; rfl)); intro gb106 hg w11 hbox hb; have n0_ := Aside0.mk (Kd.R_below (by (with_reducible repeat (first | apply Kd.R_alloc | apply Kd.R_drewN | apply Kd.R_drew)); exact HO_6.out) hb); have n1_ := Aside0.mk (Kd.R_below (Kd.R_elderB (by (with_reducible repeat (first | apply Kd.R_alloc | apply Kd.R_drewN | apply Kd.R_drew)); exact HO_17.out) gb106 (Nat.le_of_eq hg.symm)) hb); have n2_ := Aside0.mk (below_step (by repeat (first | (with_reducible first | exact HB.out | apply below_alloc | apply pw_below_drewN | apply below_drew1) | exact HB.out)) hb); have n3_ := Aside0.mk (hbox); have n4_ := Aside0.mk ((by rw [hg]; exact (below_size (by repeat (first | (with_reducible first | exact HB.out | apply below_alloc | apply pw_below_drewN | apply below_drew1) | exact HB.out))) : w.heap.size ≤ gb106)); have n5_ := Aside0.mk ((by rw [hg]; exact (below_size (by repeat (first | (with_reducible first | exact HB.out | apply below_alloc | apply pw_below_drewN | apply below_drew1) | exact HB.out))) : w.heap.size ≤ gb106)); clear HO_6; clear HO_17; clear HB; have HO_6 := n0_; have HO_17 := n1_; have HB := n2_; have BK106 := n3_; have GW106 := n4_; have GE106 := n5_; clear n0_ n1_ n2_ n3_ n4_ n5_; clear hb hbox hg; have hcz12_0 : w11.cell? ⟨gb106, 0, none⟩ = some (.int .i64 0) := (blk_cell BK106.out 0).trans rfl; have hcz12_1 : w11.cell? ⟨gb106, 1, none⟩ = some (.string (⟨#[]⟩ : ByteArray)) := (blk_cell BK106.out 1).trans rfl; have hcz12_2 : w11.cell? ⟨gb106, 2, none⟩ = some (.string (⟨#[]⟩ : ByteArray)) := (blk_cell BK106.out 2).trans rfl; have hfz12_0 := blk_frozen BK106.out 0; have hfz12_1 := blk_frozen BK106.out 1; have hfz12_2 := blk_frozen BK106.out 2) | ((with_reducible refine gate_builtin (b := .append) (xs := #[.tmp 26, .tmp 32]) rfl ?_); at_builtin; refine Kd.R_append k58 (w0 := w) w.heap.size rfl (.tmp 26) (.tmp 32) 22 58 (.agg #[(.string ⟨#[]⟩), (.string ⟨#[]⟩)]) 32 rfl Try.underlying22 info58 rfl (by decide) (by omega) u6 x6_1 (⟨(rd_T42 t101 x19_1).f1, (rd_T42 t101 x19_1).f2⟩ : S58) [.string ((rd_T42 t101 x19_1).f1), .string ((rd_T42 t101 x19_1).f2)] (fun _ => True) (fun _ => False) rfl (by first | (go_simp; done) | (go_simp; rfl)) ?aP (fun _ hk => hk.elim) ?aF ?aO ?aB ?aS ?aL ?_; (case aP => exact k58_mkM _ _ _ (⟨(rd_T42 t101 x19_1).f1, (rd_T42 t101 x19_1).f2⟩ : S58)); (case aB => exact (by repeat (first | (with_reducible first | exact HB.out | apply below_alloc | apply pw_below_drewN | apply below_drew1 | refine below_set ?_ GE106.out) | exact HB.out))); (case aF => exact (fun _ _ => trivial)); (case aO => exact (by (with_reducible repeat (first | apply Kd.R_alloc | apply Kd.R_drewN | apply Kd.R_drew)); exact Kd.R_mono (Kd.R_far (p := ⟨gb106, 2, none⟩) (Kd.R_far (p := ⟨gb106, 1, none⟩) (Kd.R_far (p := ⟨gb106, 0, none⟩) (Kd.R_types HO_6.out BK106.out (by decide)) (fun _ hk => hk.2) (.int .i64 ((rd_T42 t101 x19_1).f0))) (fun _ hk => hk.2) (.string ((rd_T42 t101 x19_1).f1))) (fun _ hk => hk.2) (.string ((rd_T42 t101 x19_1).f2))) (fun _ hk => trivial))); (case aS => exact (below_size (by repeat (first | (with_reducible first | exact HB.out | apply below_alloc | apply pw_below_drewN | apply below_drew1 | refine below_set ?_ GE106.out) | exact HB.out)))); (case aL => have := LMc10.out; omega); intro v108 w13 ho hb hg hat; rw [← Ny107.out] at ho; have n0_ := Aside0.mk (Kd.R_over' (by (with_reducible repeat (first | apply Kd.R_alloc | apply Kd.R_drewN | apply Kd.R_drew)); exact (Kd.R_mono (Kd.R_far (p := ⟨gb106, 2, none⟩) (Kd.R_far (p := ⟨gb106, 1, none⟩) (Kd.R_far (p := ⟨gb106, 0, none⟩) (Kd.R_mono HO_17.out (fun k_ hk => (⟨hk, hk.2⟩ : _ ∧ k_ ≠ gb106))) (fun _ hk => hk.2) (.int .i64 ((rd_T42 t101 x19_1).f0))) (fun _ hk => hk.2) (.string ((rd_T42 t101 x19_1).f1))) (fun _ hk => hk.2) (.string ((rd_T42 t101 x19_1).f2))) (fun _ h_ => h_.1))) (Kd.R_typed (by (with_reducible repeat (first | apply Kd.R_alloc | apply Kd.R_drewN | apply Kd.R_drew)); exact (Kd.R_mono (Kd.R_far (p := ⟨gb106, 2, none⟩) (Kd.R_far (p := ⟨gb106, 1, none⟩) (Kd.R_far (p := ⟨gb106, 0, none⟩) (Kd.R_types HO_6.out BK106.out (by decide)) (fun _ hk => hk.2) (.int .i64 ((rd_T42 t101 x19_1).f0))) (fun _ hk => hk.2) (.string ((rd_T42 t101 x19_1).f1))) (fun _ hk => hk.2) (.string ((rd_T42 t101 x19_1).f2))) (fun _ h_ => h_.1)))) (by decide) hg); have n1_ := Aside0.mk (blk_grown (g := gb106) (o := .cells #[.int .i64 ((rd_T42 t101 x19_1).f0), .string ((rd_T42 t101 x19_1).f1), .string ((rd_T42 t101 x19_1).f2)] 42 (0, 0)) (by (with_reducible repeat (first | refine blk_drewN ?_ _ | refine blk_drew ?_ | refine blk_alloc ?_ _)); refine blk_put (cs := #[.int .i64 ((rd_T42 t101 x19_1).f0), .string ((rd_T42 t101 x19_1).f1), .string (⟨#[]⟩ : ByteArray)]) ?_ 2 _ rfl; (with_reducible repeat (first | refine blk_drewN ?_ _ | refine blk_drew ?_ | refine blk_alloc ?_ _)); refine blk_put (cs := #[.int .i64 ((rd_T42 t101 x19_1).f0), .string (⟨#[]⟩ : ByteArray), .string (⟨#[]⟩ : ByteArray)]) ?_ 1 _ rfl; (with_reducible repeat (first | refine blk_drewN ?_ _ | refine blk_drew ?_ | refine blk_alloc ?_ _)); refine blk_put (cs := #[.int .i64 0, .string (⟨#[]⟩ : ByteArray), .string (⟨#[]⟩ : ByteArray)]) ?_ 0 _ rfl; (with_reducible repeat (first | refine blk_drewN ?_ _ | refine blk_drew ?_ | refine blk_alloc ?_ _)); exact BK106.out) hg (Kd.R_ne HO_6.out BK106.out (by decide))); have n2_ := Aside0.mk (hb); have n3_ := Aside0.mk (ho); clear HO_17; clear BK106; clear HB; clear HO_6; have HO_17 := n0_; have BK106 := n1_; have HB := n2_; have HO109 := n3_; clear n0_ n1_ n2_ n3_; clear ho hb hg hat))
         go_roundg k1
         case measure => have := HK1.out; omega
         case rel => exact ⟨(y107), (wrap64 (x19_1 + 1)), (by first | rfl | (simp; done) | (simp [*]; done)), H', ⟨by have := HK1.out; omega⟩, ⟨by (with_reducible repeat (first | apply Kd.R_alloc | apply Kd.R_drewN | apply Kd.R_drew)); exact HO109.out⟩, ⟨by (with_reducible repeat (first | apply Kd.R_alloc | apply Kd.R_drewN | apply Kd.R_drew)); exact Kd.R_mono HO_17.out (fun _ hk => trivial)⟩, ⟨by repeat (first | (with_reducible first | exact HB.out | apply below_alloc | apply pw_below_drewN | apply below_drew1 | refine below_set ?_ GE106.out) | exact HB.out)⟩⟩
        ·rw [if_neg c10] at H
         exact absurd H (by simp)
       ·rw [if_neg c9] at H
        have c9b0 : (((rd_T42 t101 x19_1).f0) == 0) = false := beq_eq_false_iff_ne.mpr c9
        have c9b1 : (((rd_T42 t101 x19_1).f0) != 0) = true := bne_iff_ne.mpr c9
        simp only [Option.some.injEq, Prod.mk.injEq] at H
        obtain ⟨rfl, rfl⟩ := H
        have p105 : 0 ≤ (x19_1 : Int) := of_decide_eq_true (by first | (with_reducible assumption) | assumption)
        have q105 : x19_1 < (t101.length : Int) := of_decide_eq_true (by first | (with_reducible assumption) | assumption)
        obtain ⟨ad105, e105, hx105_0, hx105_1, hx105_2⟩ := at_T42 (Kd.R_reads' HO_17.out).2.2 x19_1 p105 q105
        cases e105
        replace p105 := eq_true p105
        replace q105 := eq_true q105
        go_wp2_with (first | ((with_reducible refine gate_dst (N := 8) rfl ?_); refine box_event ?hg (N := 8) ?hd (cs := #[.int .i64 0, .string (⟨#[]⟩ : ByteArray), .string (⟨#[]⟩ : ByteArray)]) (t := 42) ?hr ?_; (case hd => rfl); (case hg => rfl); (case hr => first | (go_simp; done) | (go_simp; rfl)); intro gb106 hg w14 hbox hb; have n0_ := Aside0.mk (Kd.R_below (by (with_reducible repeat (first | apply Kd.R_alloc | apply Kd.R_drewN | apply Kd.R_drew)); exact HO_6.out) hb); have n1_ := Aside0.mk (Kd.R_below (Kd.R_elderB (by (with_reducible repeat (first | apply Kd.R_alloc | apply Kd.R_drewN | apply Kd.R_drew)); exact HO_17.out) gb106 (Nat.le_of_eq hg.symm)) hb); have n2_ := Aside0.mk (below_step (by repeat (first | (with_reducible first | exact HB.out | apply below_alloc | apply pw_below_drewN | apply below_drew1) | exact HB.out)) hb); have n3_ := Aside0.mk (hbox); have n4_ := Aside0.mk ((by rw [hg]; exact (below_size (by repeat (first | (with_reducible first | exact HB.out | apply below_alloc | apply pw_below_drewN | apply below_drew1) | exact HB.out))) : w.heap.size ≤ gb106)); have n5_ := Aside0.mk ((by rw [hg]; exact (below_size (by repeat (first | (with_reducible first | exact HB.out | apply below_alloc | apply pw_below_drewN | apply below_drew1) | exact HB.out))) : w.heap.size ≤ gb106)); clear HO_6; clear HO_17; clear HB; have HO_6 := n0_; have HO_17 := n1_; have HB := n2_; have BK106 := n3_; have GW106 := n4_; have GE106 := n5_; clear n0_ n1_ n2_ n3_ n4_ n5_; clear hb hbox hg; have hcz15_0 : w14.cell? ⟨gb106, 0, none⟩ = some (.int .i64 0) := (blk_cell BK106.out 0).trans rfl; have hcz15_1 : w14.cell? ⟨gb106, 1, none⟩ = some (.string (⟨#[]⟩ : ByteArray)) := (blk_cell BK106.out 1).trans rfl; have hcz15_2 : w14.cell? ⟨gb106, 2, none⟩ = some (.string (⟨#[]⟩ : ByteArray)) := (blk_cell BK106.out 2).trans rfl; have hfz15_0 := blk_frozen BK106.out 0; have hfz15_1 := blk_frozen BK106.out 1; have hfz15_2 := blk_frozen BK106.out 2))
        go_ret2
        exact ⟨_, by first | rfl | (simp [errW_none, errW_some] <;> rfl) | (simp [*, errW_none, errW_some] <;> rfl), by first | exact Kd.R_nil _ _ _ _ _ | exact Kd.N_nil _ _ _ _ _ | exact Kd.V_nil _ _ _ _ _ | exact Kd.Q_nil _ _ _ _ _ | exact Kd.S_nil _ _ _ _ _, by repeat (first | (with_reducible first | exact HB.out | apply below_alloc | apply pw_below_drewN | apply below_drew1 | refine below_set ?_ GE106.out) | exact HB.out)⟩
      ·rw [if_neg c8] at H
       exact absurd H (by simp)
     ·rw [if_neg c7] at H
      exact absurd H (by simp)
    ·rw [if_neg c6] at H
     have c6b0 : decide (x19_1 < (t101.length : Int)) = false := decide_eq_false c6
     clear c6
     replace H := Option.bind_eq_some_iff.mp H
     obtain ⟨t110, A160, H⟩ := H
     replace H : (if t110 = 0 then (some (x6_1, 0)) else (some (([] : List (S58)), 10))) = some (r1, r2) := H
     have A16 := Aside0.mk A160
     clear A160
     by_cases c17 : t110 = 0
     ·rw [if_pos c17] at H
      have c17b0 : (t110 == 0) = true := beq_iff_eq.mpr c17
      have c17b1 : (t110 != 0) = false := bne_eq_false_iff_eq.mpr c17
      clear c17
      simp only [Option.some.injEq, Prod.mk.injEq] at H
      obtain ⟨rfl, rfl⟩ := H
      obtain ⟨Ao18, co18, eo18⟩ := Kd.R_slice HO_6.out
      subst eo18
      go_wp2_with (first | ((with_reducible refine gate_callee (f := 14) rfl ?_); refine goesL_ (some 36) rfl rfl Try.func14 (by kernel_rfl) rfl #[.slice Ao18 x6_1.length co18] rfl (by (try simp only [List.map_toArray, List.map_cons, List.map_nil]); first | done | rfl | (simp only [List.length_drop, List.length_take]; rfl)) ?_; (with_reducible refine (labels_Check.calls k1 _ _ x6_1 t110 _ ?side1 ?side2 A16.out).mono ?_); (case side1 => repeat (first | exact (Kd.R_reads' HO_6.out).2.2 | (with_reducible refine Kd.C_alloc ?_ _) | (with_reducible refine Kd.C_drewN ?_ _) | (with_reducible refine Kd.C_drew ?_))); (case side2 => exact (Kd.R_reads' HO_6.out).2.1); rintro e w19 ⟨rfl, hb⟩; refine ⟨_, rfl, ?_⟩; have n0_ := Aside0.mk (Kd.R_below (by (with_reducible repeat (first | apply Kd.R_alloc | apply Kd.R_drewN | apply Kd.R_drew)); exact HO_6.out) hb); have n1_ := Aside0.mk (Kd.R_below (by (with_reducible repeat (first | apply Kd.R_alloc | apply Kd.R_drewN | apply Kd.R_drew)); exact HO_17.out) hb); have n2_ := Aside0.mk (below_step (by repeat (first | (with_reducible first | exact HB.out | apply below_alloc | apply pw_below_drewN | apply below_drew1) | exact HB.out)) hb); clear HO_6; clear HO_17; clear HB; have HO_6 := n0_; have HO_17 := n1_; have HB := n2_; clear n0_ n1_ n2_; (try clear hb); (try clear hb2); (try clear hk); (try clear hi); clear A16))
      go_ret2
      exact ⟨_, by first | rfl | (simp [errW_none, errW_some] <;> rfl) | (simp [*, errW_none, errW_some] <;> rfl), by (with_reducible repeat (first | apply Kd.R_alloc | apply Kd.R_drewN | apply Kd.R_drew)); exact HO_6.out, by repeat (first | (with_reducible first | exact HB.out | apply below_alloc | apply pw_below_drewN | apply below_drew1) | exact HB.out)⟩
     ·rw [if_neg c17] at H
      have c17b0 : (t110 == 0) = false := beq_eq_false_iff_ne.mpr c17
      have c17b1 : (t110 != 0) = true := bne_iff_ne.mpr c17
      simp only [Option.some.injEq, Prod.mk.injEq] at H
      obtain ⟨rfl, rfl⟩ := H
      obtain ⟨Ao20, co20, eo20⟩ := Kd.R_slice HO_6.out
      subst eo20
      go_wp2_with (first | ((with_reducible refine gate_callee (f := 14) rfl ?_); refine goesL_ (some 36) rfl rfl Try.func14 (by kernel_rfl) rfl #[.slice Ao20 x6_1.length co20] rfl (by (try simp only [List.map_toArray, List.map_cons, List.map_nil]); first | done | rfl | (simp only [List.length_drop, List.length_take]; rfl)) ?_; (with_reducible refine (labels_Check.calls k1 _ _ x6_1 t110 _ ?side1 ?side2 A16.out).mono ?_); (case side1 => repeat (first | exact (Kd.R_reads' HO_6.out).2.2 | (with_reducible refine Kd.C_alloc ?_ _) | (with_reducible refine Kd.C_drewN ?_ _) | (with_reducible refine Kd.C_drew ?_))); (case side2 => exact (Kd.R_reads' HO_6.out).2.1); rintro e w21 ⟨rfl, hb⟩; refine ⟨_, rfl, ?_⟩; have n0_ := Aside0.mk (Kd.R_below (by (with_reducible repeat (first | apply Kd.R_alloc | apply Kd.R_drewN | apply Kd.R_drew)); exact HO_6.out) hb); have n1_ := Aside0.mk (Kd.R_below (by (with_reducible repeat (first | apply Kd.R_alloc | apply Kd.R_drewN | apply Kd.R_drew)); exact HO_17.out) hb); have n2_ := Aside0.mk (below_step (by repeat (first | (with_reducible first | exact HB.out | apply below_alloc | apply pw_below_drewN | apply below_drew1) | exact HB.out)) hb); clear HO_6; clear HO_17; clear HB; have HO_6 := n0_; have HO_17 := n1_; have HB := n2_; clear n0_ n1_ n2_; (try clear hb); (try clear hb2); (try clear hk); (try clear hi); clear A16))
      go_ret2
      exact ⟨_, by first | rfl | (simp [errW_none, errW_some] <;> rfl) | (simp [*, errW_none, errW_some] <;> rfl), by first | exact Kd.R_nil _ _ _ _ _ | exact Kd.N_nil _ _ _ _ _ | exact Kd.V_nil _ _ _ _ _ | exact Kd.Q_nil _ _ _ _ _ | exact Kd.S_nil _ _ _ _ _, by repeat (first | (with_reducible first | exact HB.out | apply below_alloc | apply pw_below_drewN | apply below_drew1) | exact HB.out)⟩
 ·rw [if_neg c3] at H
  have c3b0 : (t102 == 0) = false := beq_eq_false_iff_ne.mpr c3
  have c3b1 : (t102 != 0) = true := bne_iff_ne.mpr c3
  simp only [Option.some.injEq, Prod.mk.injEq] at H
  obtain ⟨rfl, rfl⟩ := H
  go_enter Try.func15, Try.ntmps15
  go_wp2_with (first | ((with_reducible refine gate_callee (f := 18) rfl ?_); refine goesL_ (some 11) rfl rfl Try.func18 (by kernel_rfl) rfl #[.string a0] rfl (by (try simp only [List.map_toArray, List.map_cons, List.map_nil]); first | done | rfl | (simp only [List.length_drop, List.length_take]; rfl)) ?_; (with_reducible refine (labels_ParseMatchers.calls a0 t101 t102 _ A2.out).mono ?_); rintro e w22 ⟨v103, rfl, ho0, hb⟩; refine ⟨_, rfl, ?_⟩; have n0_ := Aside0.mk (Kd.R_lower ho0 (below_size (by repeat (first | (with_reducible first | exact HB.out | apply below_alloc | apply pw_below_drewN | apply below_drew1) | exact HB.out)))); have n1_ := Aside0.mk (below_step (by repeat (first | (with_reducible first | exact HB.out | apply below_alloc | apply pw_below_drewN | apply below_drew1) | exact HB.out)) hb); clear HB; have HO104 := n0_; have HB := n1_; clear n0_ n1_; (try clear hb); (try clear hb2); (try clear hk); (try clear hi); (try clear ho0); clear A2))
  go_ret2
  exact ⟨_, by first | rfl | (simp [errW_none, errW_some] <;> rfl) | (simp [*, errW_none, errW_some] <;> rfl), by first | exact Kd.R_nil _ _ _ _ _ | exact Kd.N_nil _ _ _ _ _ | exact Kd.V_nil _ _ _ _ _ | exact Kd.Q_nil _ _ _ _ _ | exact Kd.S_nil _ _ _ _ _, by repeat (first | (with_reducible first | exact HB.out | apply below_alloc | apply pw_below_drewN | apply below_drew1) | exact HB.out)⟩
end Go.Proofs.Ytbfiacnmielajaa.P
namespace Go.Proofs.Ytbfiacnmielajaa.P
open Go.RowKit Go.Proofs.YtbfiacnmielajaaW.PrintWords Go.Proofs.YtbfiacnmielajaaW.PrintLast Go.Proofs.YtbfiacnmielajaaW.PrintMore
attribute [local go_sem] max2_int min2_int max_two min_two max_three min_three max_four min_four
set_option linter.unusedVariables false
set_option linter.unusedSimpArgs false
theorem index_one (c : UInt8) : ∀ s : List UInt8, Lib.index s [c] = Lib.indexByte s c
  | [] => rfl
  | a :: s => by
    have ih := index_one c s
    simp only [Lib.index, Lib.indexByte]
    rw [ih]
    by_cases h : a = c
    · subst h; simp [List.isPrefixOf]
    · simp [List.isPrefixOf, h, Ne.symm h]
def holdsB (s t : ByteArray) : Bool := Lib.contains s.data.toList t.data.toList
def hpB (s t : ByteArray) : Bool := (strings_HasPrefix.f s t).getD false
theorem hpB_eq (s t : ByteArray) : strings_HasPrefix.f s t = some (hpB s t) := by
  unfold hpB strings_HasPrefix.f stringslite_HasPrefix.f
  by_cases h : (s.size : Int) ≥ (t.size : Int)
  · rw [if_pos h, if_pos (by omega), if_pos (by omega)]; rfl
  · rw [if_neg h]; rfl
def GMax (w : World) : Prop := ∃ m, w.cell? ⟨lay144_ren.g 1, 0, none⟩ = some (.int .i64 m)
theorem GMax.below {w w' : World} (h : GMax w) (hb : Below w.heap.size w w') : GMax w' := by
  obtain ⟨m, h⟩ := h
  exact ⟨m, (hb.cell (World.block_lt_of_cell? _ _ h)).trans h⟩
def OkH (k : Int) (t v : ByteArray) (w : World) : Prop := k = 3 → (∃ c, t = ⟨#[c]⟩) ∨ (v.size < 4294967281 ∧ GMax w)
theorem OkH.below {k : Int} {t v : ByteArray} {w w' : World} (h : OkH k t v w) (hb : Below w.heap.size w w') : OkH k t v w' := fun hk => (h hk).imp id (fun x => ⟨x.1, x.2.below hb⟩)
theorem contains_c (s t : ByteArray) (w : World) (h : (∃ c, t = ⟨#[c]⟩) ∨ (s.size < 4294967281 ∧ GMax w)) : Calls Try.prog 51 #[.string s, .string t] w fun e w' => e = .returned (.bool (holdsB s t)) ∧ w = w' := by
  rcases h with ⟨c, rfl⟩ | ⟨h1, m, h2⟩
  · refine (Any.strings_Contains_one lay144 s c w).mono fun e w' h => ⟨?_, h.2.symm⟩
    rw [h.1]
    unfold holdsB Lib.contains
    rw [← index_one]
  · exact (Any.strings_Contains lay144 s t m w h1 h2).mono fun e w' h => ⟨h.1, h.2.symm⟩
def fitsR (k : Int) (t v : ByteArray) : Bool := if k = 0 then v.toList == t.toList else if k = 1 then !(v.toList == t.toList) else if k = 2 then hpB v t else if k = 3 then holdsB v t else false
set_option maxHeartbeats 8000000 in
set_option maxRecDepth 100000 in
theorem fits_c (k : Int) (n t v : ByteArray) (w : World) (hok : OkH k t v w) : Calls Try.prog 36 #[.agg #[.int .i64 k, .string n, .string t], .string v] w fun e w' => e = .returned (.bool (fitsR k t v)) ∧ Below w.heap.size w w' := by
  have hu := Try.underlying42
  have HB := Aside0.mk (below_alloc (Below.refl w.heap.size w) (.cells #[.int .i64 k, .string n, .string t] 42))
  have HO := Aside0.mk (hok.below HB.out)
  clear hok
  unfold fitsR
  by_cases k0 : k = 0
  · subst k0
    rw [if_pos rfl]
    go_enter Try.func36, Try.ntmps36
    go_wp2
    go_ret
    exact ⟨rfl, HB.out⟩
  have e0 : (k == 0) = false := beq_eq_false_iff_ne.2 k0
  rw [if_neg k0]
  by_cases k1 : k = 1
  · subst k1
    rw [if_pos rfl]
    clear k0 e0
    go_enter Try.func36, Try.ntmps36
    go_wp2
    go_ret
    exact ⟨rfl, HB.out⟩
  have e1 : (k == 1) = false := beq_eq_false_iff_ne.2 k1
  rw [if_neg k1]
  by_cases k2 : k = 2
  · subst k2
    rw [if_pos rfl]
    clear k0 e0 k1 e1
    have HP := Aside0.mk (hpB_eq v t)
    go_enter Try.func36, Try.ntmps36
    go_wp2_with (go_at_call 46; (with_reducible refine (strings_HasPrefix.calls v t _ _ HP.out).mono ?_); rintro e w' ⟨rfl, ⟨nd, rfl⟩⟩)
    go_ret
    exact ⟨rfl, pw_below_drewN HB.out _⟩
  have e2 : (k == 2) = false := beq_eq_false_iff_ne.2 k2
  rw [if_neg k2]
  by_cases k3 : k = 3
  · have HC := Aside0.mk (contains_c v t _ (HO.out k3))
    subst k3
    rw [if_pos rfl]
    clear k0 e0 k1 e1 k2 e2 HO
    go_enter Try.func36, Try.ntmps36
    go_wp2_with (go_at_call 51; (with_reducible refine HC.out.mono ?_); rintro e w' ⟨rfl, rfl⟩)
    go_ret
    exact ⟨rfl, HB.out⟩
  have e3 : (k == 3) = false := beq_eq_false_iff_ne.2 k3
  rw [if_neg k3]
  clear k0 k1 k2 k3 HO
  go_enter Try.func36, Try.ntmps36
  go_wp2
  go_ret
  exact ⟨rfl, HB.out⟩
theorem rdL_nat9 (l : List S58) (i : Nat) (h : i < l.length) : rd_T58 l (i : Int) = l[i] := by unfold rd_T58; simp [List.getD, h]
def getP : List S58 → ByteArray → ByteArray × Bool
  | [], _ => (⟨#[]⟩, false)
  | x :: l, n => if x.f0.toList == n.toList then (x.f1, true) else getP l n
theorem get_l0 (n : ByteArray) (l : List S58) (hl : l.length ≤ 1000000) : ∀ (d k i : Nat), i + d = l.length → d < k → labels_Get.l0 k n l (l.length : Int) (i : Int) = some (getP (l.drop i) n) := by
  intro d
  induction d with
  | zero =>
    intro k i hi hk
    obtain ⟨k, rfl⟩ : ∃ m, k = m + 1 := ⟨k - 1, by omega⟩
    simp only [labels_Get.l0]
    rw [if_neg (by omega), List.drop_of_length_le (by omega)]
    rfl
  | succ d ih =>
    intro k i hi hk
    obtain ⟨k, rfl⟩ : ∃ m, k = m + 1 := ⟨k - 1, by omega⟩
    have hw : wrap64 ((i : Int) + 1) = ((i + 1 : Nat) : Int) := by unfold wrap64; omega
    simp only [labels_Get.l0]
    rw [if_pos (by omega), if_pos (by omega), if_pos (by omega), hw, ih k (i + 1) (by omega) (by omega), rdL_nat9 l i (by omega), List.drop_eq_getElem_cons (show i < l.length by omega)]
    simp only [getP]
    by_cases h : (l[i]'(show i < l.length by omega)).f0.toList = n.toList
    · rw [if_pos h, if_pos (beq_iff_eq.2 h)]
    · rw [if_neg h, if_neg (fun e => h (beq_iff_eq.1 e))]
theorem get_eq (l : List S58) (n : ByteArray) (hl : l.length ≤ 1000000) (k : Nat) (hk : l.length < k) : labels_Get.f k l n = some (getP l n) := by
  unfold labels_Get.f
  rw [show (0 : Int) = ((0 : Nat) : Int) from rfl, get_l0 n l hl l.length k 0 (by omega) hk]
  rfl
def missB (l : List S58) (x : S42) : Bool := !(fitsR x.f0 x.f2 (getP l x.f1).1)
def matchR (l : List S58) (m : List S42) : Bool := m.all fun x => !(missB l x)
set_option maxHeartbeats 8000000 in
set_option maxRecDepth 100000 in
theorem miss_c (l : List S58) (hl : l.length ≤ 1000000) (x : S42) (A : Option Addr) (c b : Nat) (w : World) (hr : Kd.C k58 w A l.length l) (hc : l.length ≤ c) (hb : w.cell? ⟨b, 0, none⟩ = some (.slice A l.length c)) (hok : OkH x.f0 x.f2 (getP l x.f1).1 w) :
    Calls Try.prog 35 #[.agg #[.int .i64 x.f0, .string x.f1, .string x.f2], .pointer (some ⟨b, 0, none⟩)] w fun e w' => e = .returned (.bool (missB l x)) ∧ Below w.heap.size w w' := by
  obtain ⟨k, n, t⟩ := x
  dsimp only at hok ⊢
  unfold missB
  dsimp only
  have hu := Try.underlying42
  have HB := Aside0.mk (below_alloc (Below.refl w.heap.size w) (.cells #[.int .i64 k, .string n, .string t] 42))
  have BX := Aside0.mk (blk_new w (.cells #[.int .i64 k, .string n, .string t] 42))
  have hb' := (HB.out.cell (World.block_lt_of_cell? _ _ hb)).trans hb
  have HR := Aside0.mk (Kd.C_below hr HB.out)
  have HO := Aside0.mk (hok.below HB.out)
  have HG := Aside0.mk (get_eq l n hl (l.length + 1) (by omega))
  clear hr hb hok
  generalize getP l n = pr at HO HG ⊢
  obtain ⟨v, q⟩ := pr
  dsimp only at HO HG ⊢
  have hc0 := blk_cell BX.out 0
  have hc1 := blk_cell BX.out 1
  have hc2 := blk_cell BX.out 2
  go_enter Try.func35, Try.ntmps35
  go_wp2_with (first | (go_at_call 20; ((with_reducible refine (labels_Get.calls (l.length + 1) A c l n v q _ HR.out hc HG.out).mono ?_); rintro e w1 ⟨rfl, hb⟩; replace HB := Aside0.mk (below_then HB.out HB.out.size hb); replace HO := Aside0.mk (HO.out.below hb); replace BX := Aside0.mk (blk_below BX.out hb); clear hb; have hd0 := blk_cell BX.out 0; have hd1 := blk_cell BX.out 1; have hd2 := blk_cell BX.out 2)) | (go_at_call 36; ((with_reducible refine (fits_c k n t v _ HO.out).mono ?_); rintro e w2 ⟨rfl, hb⟩; replace HB := Aside0.mk (below_then HB.out HB.out.size hb); clear hb)))
  go_ret
  exact ⟨rfl, HB.out⟩
theorem rdM_nat9 (l : List S42) (i : Nat) (h : i < l.length) : rd_T42 l (i : Int) = l[i] := by unfold rd_T42; simp [List.getD, h]
def idxM (p : S42 → Bool) : Nat → List S42 → Int
  | _, [] => -1
  | i, x :: l => if p x then (i : Int) else idxM p (i + 1) l
set_option maxHeartbeats 8000000 in
set_option maxRecDepth 100000 in
theorem indexFunc_c (g : Nat) (cap : Array Value) (p : S42 → Bool) (A : Option Addr) (c : Nat) (l : List S42) (w : World) (hr : Kd.C k42 w A l.length l) (hc : l.length ≤ c)
    (hp : ∀ (W : World) (x : S42), x ∈ l → Below w.heap.size w W → Calls Try.prog g (#[.agg #[.int .i64 x.f0, .string x.f1, .string x.f2]] ++ cap) W fun e w' => e = .returned (.bool (p x)) ∧ Below W.heap.size W w') (eg : ∀ args w, (callFunc g args).run Try.prog w = .ok (.enter g args) w) :
    Calls Try.prog 50 #[.slice A l.length c, .func (.func g) #[] cap] w fun e w' => e = .returned (.int .i64 (idxM p 0 l)) ∧ Below w.heap.size w w' := by
  have hu := Try.underlying42
  have hm : l.length ≤ 9223372036854775807 := hr.2.1
  have HR := Aside0.mk hr
  have HP := Aside0.mk hp
  clear hr hp
  go_enter Try.func50, Try.ntmps50
  go_wp2
  go_loopg [5, 8] l.length (fun gg _ s8 wr => ∃ kk : Nat, kk + gg = l.length ∧ s8 = .int .i64 kk ∧ Aside0 (Below w.heap.size w wr) ∧ Aside0 (idxM p kk (l.drop kk) = idxM p 0 l))
  case atStart => exact ⟨0, by omega, rfl, ⟨Below.refl _ w⟩, ⟨rfl⟩⟩
  case round =>
    obtain ⟨kk, hg, rfl, HB, HA⟩ := hrel
    by_cases hlt : kk < l.length
    · have hlti : (kk : Int) < (l.length : Int) := by omega
      obtain ⟨g1, rfl⟩ : ∃ m, gk = m + 1 := ⟨gk - 1, by omega⟩
      have ha := HA.out
      rw [List.drop_eq_getElem_cons hlt] at ha
      simp only [idxM] at ha
      obtain ⟨ad, e1, hx0, hx1, hx2⟩ := at_T42 HR.out kk (by omega) (by omega)
      cases e1
      replace hx0 := (HB.out.cell (World.block_lt_of_cell? w _ hx0)).trans hx0
      replace hx1 := (HB.out.cell (World.block_lt_of_cell? w _ hx1)).trans hx1
      replace hx2 := (HB.out.cell (World.block_lt_of_cell? w _ hx2)).trans hx2
      rw [rdM_nat9 l kk hlt, Int.toNat_natCast] at hx0 hx1 hx2
      have hcall := HP.out wr l[kk] (List.getElem_mem hlt) HB.out
      generalize l[kk] = y at hx0 hx1 hx2 hcall ha
      clear HA
      cases hq : p y with
      | true =>
        rw [hq] at hcall ha
        rw [if_pos rfl] at ha
        have HA := Aside0.mk ha
        have HC := Aside0.mk hcall
        clear hcall ha hq
        go_wp2_with (go_at_fn g; refine HC.out.mono ?_; rintro e w' ⟨rfl, hb'⟩)
        go_ret
        exact ⟨by rw [← HA.out]; rfl, HB.out.trans (hb'.mono HB.out.size)⟩
      | false =>
        rw [hq] at hcall ha
        rw [if_neg (by decide)] at ha
        have HA := Aside0.mk ha
        have HC := Aside0.mk hcall
        clear hcall ha hq
        go_wp2_with (go_at_fn g; refine HC.out.mono ?_; rintro e w' ⟨rfl, hb'⟩)
        go_roundg g1
        case measure => omega
        case rel => exact ⟨kk + 1, by omega, by go_num, ⟨HB.out.trans (hb'.mono HB.out.size)⟩, HA⟩
    · have hlti : ¬ (kk : Int) < (l.length : Int) := by omega
      have ha := HA.out
      rw [List.drop_of_length_le (by omega)] at ha
      have HA := Aside0.mk ha
      clear ha
      go_wp2
      go_ret
      exact ⟨by rw [← HA.out]; rfl, HB.out⟩
theorem idxM_any (p : S42 → Bool) : ∀ (l : List S42) (i : Nat), 0 ≤ idxM p i l ↔ l.any p = true
  | [], _ => by simp [idxM]
  | x :: l, i => by
    unfold idxM
    rw [List.any_cons]
    by_cases h : p x = true
    · rw [if_pos h, h]; simp
    · rw [if_neg h, Bool.eq_false_iff.2 h, Bool.false_or]; exact idxM_any p l (i + 1)
set_option maxHeartbeats 8000000 in
set_option maxRecDepth 100000 in
theorem match_c (A0 : Option Addr) (c0 : Nat) (l0 : List S58) (A1 : Option Addr) (c1 : Nat) (l1 : List S42) (w : World) (hl : l0.length ≤ 1000000) (hr0 : Kd.C k58 w A0 l0.length l0) (hc0 : l0.length ≤ c0) (hr1 : Kd.C k42 w A1 l1.length l1) (hc1 : l1.length ≤ c1) (hok : ∀ x ∈ l1, OkH x.f0 x.f2 (getP l0 x.f1).1 w) :
    Calls Try.prog 22 #[.slice A0 l0.length c0, .slice A1 l1.length c1] w fun e w' => e = .returned (.bool (matchR l0 l1)) ∧ Below w.heap.size w w' := by
  have hb := below_alloc (Below.refl w.heap.size w) (.cells #[.slice A0 l0.length c0] 22)
  have hbx := blk_new w (.cells #[.slice A0 l0.length c0] 22)
  have hi := indexFunc_c 35 #[.pointer (some ⟨w.heap.size, 0, none⟩)] (missB l0) A1 c1 l1 (w.alloc (.cells #[.slice A0 l0.length c0] 22)) (Kd.C_below hr1 hb) hc1
    (fun W x hx hbW => miss_c l0 hl x A0 c0 w.heap.size W (Kd.C_below (Kd.C_below hr0 hb) hbW) hc0 ((hbW.cell (World.block_lt_of_cell? _ _ ((blk_cell hbx 0).trans rfl))).trans ((blk_cell hbx 0).trans rfl)) (((hok x hx).below hb).below hbW)) (enters_of Try.func35 (by kernel_rfl) rfl)
  have ha : decide (0 ≤ idxM (missB l0) 0 l1) = l1.any (missB l0) := by rw [Bool.eq_iff_iff, decide_eq_true_iff]; exact idxM_any _ _ _
  have hm : matchR l0 l1 = !(l1.any (missB l0)) := by unfold matchR; rw [List.any_eq_not_all_not]; simp
  rw [hm, ← ha]
  have HI := Aside0.mk hi
  have HB := Aside0.mk hb
  clear hi hb hbx hok hr0 hr1 ha hm
  go_enter Try.func22, Try.ntmps22
  go_wp2_with (first | (go_at_call 50; ((with_reducible refine HI.out.mono ?_); rintro e w1 ⟨rfl, hb⟩; replace HB := Aside0.mk (below_then HB.out HB.out.size hb); clear hb)) | go_in)
  go_ret
  exact ⟨rfl, HB.out⟩
theorem byte1 (t : ByteArray) (h : t.size = 1) : ∃ c, t = ⟨#[c]⟩ := by
  obtain ⟨a⟩ := t
  obtain ⟨l⟩ := a
  have h' : l.length = 1 := h
  match l, h' with
  | [c], _ => exact ⟨c, rfl⟩
def labels_Match.f (l : List S58) (m : List S42) : Option Bool := if l.length ≤ 1000000 ∧ ∀ x ∈ m, x.f0 = 3 → x.f2.size = 1 then some (matchR l m) else none
theorem labels_Match.calls (A0 : Option Addr) (c0 : Nat) (l0 : List S58) (A1 : Option Addr) (c1 : Nat) (l1 : List S42) (r : Bool) (w : World) (hr0 : Kd.C k58 w A0 l0.length l0) (hc0 : l0.length ≤ c0) (hr1 : Kd.C k42 w A1 l1.length l1) (hc1 : l1.length ≤ c1) (h : labels_Match.f l0 l1 = some r) :
    Calls Try.prog 22 #[.slice A0 l0.length c0, .slice A1 l1.length c1] w fun e w' => e = .returned (.bool r) ∧ Below w.heap.size w w' := by
  unfold labels_Match.f at h
  by_cases hs : l0.length ≤ 1000000 ∧ ∀ x ∈ l1, x.f0 = 3 → x.f2.size = 1
  rotate_left
  · rw [if_neg hs] at h; cases h
  rw [if_pos hs] at h
  injection h with h
  subst h
  exact match_c A0 c0 l0 A1 c1 l1 w hs.1 hr0 hc0 hr1 hc1 (fun x hx hk => .inl (byte1 _ (hs.2 x hx hk)))
end Go.Proofs.Ytbfiacnmielajaa.P
namespace Go.Proofs.Ytbfiacnmielajaa.P
open Go.RowKit Go.Proofs.YtbfiacnmielajaaW.PrintWords Go.Proofs.YtbfiacnmielajaaW.PrintLast Go.Proofs.YtbfiacnmielajaaW.PrintMore
attribute [local go_sem] max2_int min2_int max_two min_two max_three min_three max_four min_four
set_option linter.unusedVariables false
set_option linter.unusedSimpArgs false
def cmpB (a b : ByteArray) : Int := Lib.compareBytes a.data.toList b.data.toList
theorem strCmp_c (a b : ByteArray) (w : World) : Calls Try.prog 41 #[.string a, .string b] w fun e w' => e = .returned (.int .i64 (cmpB a b)) ∧ w = w' :=
  (Any.strings_Compare lay106 a b w).mono fun e w' h => ⟨h.1, h.2.symm⟩
def or2 (a b : Int) : Int := if a = 0 then b else a
set_option maxHeartbeats 4000000 in
set_option maxRecDepth 100000 in
theorem or2_c (a b : Int) (blk c : Nat) (w : World) (h0 : w.cell? ⟨blk, 0, none⟩ = some (.int .i64 a)) (h1 : w.cell? ⟨blk, 1, none⟩ = some (.int .i64 b)) (hc : 2 ≤ c) :
    Calls Try.prog 40 #[.slice (some ⟨blk, 0, none⟩) 2 c] w fun e w' => e = .returned (.int .i64 (or2 a b)) ∧ w = w' := by
  unfold or2
  by_cases ha : a = 0
  · rw [if_pos ha]
    subst ha
    by_cases hb : b = 0
    · subst hb
      go_enter Try.func40, Try.ntmps40
      go_wp2
      go_loopg [8, 5] 2 (fun gg v8 _ wr => ∃ (x : Int), x + (gg : Int) = 2 ∧ 0 ≤ x ∧ x ≤ 2 ∧ v8 = .int .i64 x ∧ w = wr)
      case atStart => exact ⟨0, by omega, by omega, by omega, rfl, rfl⟩
      case round =>
        obtain ⟨x, hi, hx, hl, rfl, rfl⟩ := hrel
        cases gk with
        | zero =>
          obtain rfl : x = 2 := by omega
          clear hx hi hl
          go_wp2
          go_ret
          exact ⟨rfl, rfl⟩
        | succ g =>
          obtain rfl | rfl : x = 0 ∨ x = 1 := by omega
          · clear hx hl
            go_wp2
            go_roundg g
            case measure => omega
            case rel => exact ⟨_, by omega, by omega, by omega, rfl, rfl⟩
          · clear hx hl
            go_wp2
            go_roundg g
            case measure => omega
            case rel => exact ⟨_, by omega, by omega, by omega, rfl, rfl⟩
    · have hb' : (b != 0) = true := bne_iff_ne.2 hb
      go_enter Try.func40, Try.ntmps40
      go_wp2
      go_loopg [8, 5] 2 (fun gg v8 _ wr => ∃ (x : Int), x + (gg : Int) = 2 ∧ 0 ≤ x ∧ x ≤ 1 ∧ v8 = .int .i64 x ∧ w = wr)
      case atStart => exact ⟨0, by omega, by omega, by omega, rfl, rfl⟩
      case round =>
        obtain ⟨x, hi, hx, hl, rfl, rfl⟩ := hrel
        cases gk with
        | zero => exact absurd hl (by omega)
        | succ g =>
          obtain rfl | rfl : x = 0 ∨ x = 1 := by omega
          · clear hx hl
            go_wp2
            go_roundg g
            case measure => omega
            case rel => exact ⟨_, by omega, by omega, by omega, rfl, rfl⟩
          · clear hx hl
            go_wp2
            go_ret
            exact ⟨rfl, rfl⟩
  · rw [if_neg ha]
    have ha' : (a != 0) = true := bne_iff_ne.2 ha
    go_enter Try.func40, Try.ntmps40
    go_wp2
    go_loopg [8, 5] 2 (fun gg v8 _ wr => ∃ (x : Int), x + (gg : Int) = 2 ∧ 0 ≤ x ∧ x ≤ 0 ∧ v8 = .int .i64 x ∧ w = wr)
    case atStart => exact ⟨0, by omega, by omega, by omega, rfl, rfl⟩
    case round =>
      obtain ⟨x, hi, hx, hl, rfl, rfl⟩ := hrel
      cases gk with
      | zero => exact absurd hl (by omega)
      | succ g =>
        obtain rfl | rfl : x = 0 ∨ x = 1 := by omega
        · clear hx hl
          go_wp2
          go_ret
          exact ⟨rfl, rfl⟩
        · exact absurd hl (by omega)
def cmpL1 (x y : S58) : Int := or2 (cmpB x.f0 y.f0) (cmpB x.f1 y.f1)
set_option maxHeartbeats 8000000 in
set_option maxRecDepth 100000 in
theorem cmpFn_c (x y : S58) (w : World) : Calls Try.prog 39 #[.agg #[.string x.f0, .string x.f1], .agg #[.string y.f0, .string y.f1]] w fun e w' => e = .returned (.int .i64 (cmpL1 x y)) ∧ Below w.heap.size w w' := by
  obtain ⟨n, v⟩ := x
  obtain ⟨m, u⟩ := y
  have hu := Try.underlying58
  dsimp only
  unfold cmpL1
  dsimp only
  go_enter Try.func39, Try.ntmps39
  have hb0 := blk_new w (.cells #[.string n, .string v] 58)
  have hb1 : ((w.alloc (.cells #[.string n, .string v] 58)).alloc (.cells #[.string m, .string u] 58)).heap[w.heap.size + 1]? = some (.cells #[.string m, .string u] 58 (0, 0)) := by simpa using blk_new (w.alloc (.cells #[.string n, .string v] 58)) (.cells #[.string m, .string u] 58)
  have B0 := Aside0.mk (blk_alloc hb0 (.cells #[.string m, .string u] 58))
  have B1 := Aside0.mk hb1
  have HB := Aside0.mk (below_alloc (below_alloc (Below.refl w.heap.size w) (.cells #[.string n, .string v] 58)) (.cells #[.string m, .string u] 58))
  clear hb0 hb1
  go_wp2
  generalize (w.alloc (.cells #[.string n, .string v] 58)).alloc (.cells #[.string m, .string u] 58) = W at B0 B1 HB ⊢
  replace HB := Aside0.mk (below_drew1 HB.out)
  replace B0 : Aside0 (W.drew.heap[w.heap.size]? = some (.cells #[.string n, .string v] 58 (0, 0))) := ⟨B0.out⟩
  replace B1 : Aside0 (W.drew.heap[w.heap.size + 1]? = some (.cells #[.string m, .string u] 58 (0, 0))) := ⟨B1.out⟩
  have HN := Aside0.mk (strCmp_c n m)
  have HV := Aside0.mk (strCmp_c v u)
  go_region_held3 (fun X => X.cell? ⟨w.heap.size, 0, none⟩ = some (.string n) ∧ X.cell? ⟨w.heap.size, 1, none⟩ = some (.string v) ∧ X.cell? ⟨w.heap.size + 1, 0, none⟩ = some (.string m) ∧ X.cell? ⟨w.heap.size + 1, 1, none⟩ = some (.string u)) (first | exact ⟨(blk_cell B0.out 0).trans rfl, (blk_cell B0.out 1).trans rfl, (blk_cell B1.out 0).trans rfl, (blk_cell B1.out 1).trans rfl⟩ | exact ⟨(blk_cell (blk_alloc B0.out _) 0).trans rfl, (blk_cell (blk_alloc B0.out _) 1).trans rfl, (blk_cell (blk_alloc B1.out _) 0).trans rfl, (blk_cell (blk_alloc B1.out _) 1).trans rfl⟩) (first | (go_at_call 41; (with_reducible refine (HN.out _).mono ?_); rintro e w1 ⟨rfl, rfl⟩) | (go_at_call 41; (with_reducible refine (HV.out _).mono ?_); rintro e w1 ⟨rfl, rfl⟩) | (go_at_call 40; (refine (or2_c (cmpB n m) (cmpB v u) W.drew.heap.size 2 _ ((blk_cell (blk_new _ _) 0).trans rfl) ((blk_cell (blk_new _ _) 1).trans rfl) (Nat.le_refl _)).mono ?_); rintro e w1 ⟨rfl, rfl⟩))
  all_goals go_wp2
  all_goals go_ret
  all_goals exact ⟨rfl, below_alloc HB.out _⟩
theorem rdL_nat (l : List S58) (i : Nat) (h : i < l.length) : rd_T58 l (i : Int) = l[i] := by unfold rd_T58; simp [List.getD, h]
def compR : List S58 → List S58 → Int
  | [], [] => 0
  | [], _ :: _ => -1
  | _ :: _, [] => 1
  | x :: a, y :: b => if cmpL1 x y = 0 then compR a b else cmpL1 x y
def labels_Compare.f (a b : List S58) : Option Int := some (compR a b)
set_option maxHeartbeats 8000000 in
set_option maxRecDepth 100000 in
theorem compareFunc_c (A0 : Option Addr) (c0 : Nat) (l0 : List S58) (A1 : Option Addr) (c1 : Nat) (l1 : List S58) (w : World) (hr0 : Kd.C k58 w A0 l0.length l0) (hc0 : l0.length ≤ c0) (hr1 : Kd.C k58 w A1 l1.length l1) (hc1 : l1.length ≤ c1) :
    Calls Try.prog 38 #[.slice A0 l0.length c0, .slice A1 l1.length c1, .func (.func 39) #[] #[]] w fun e w' => e = .returned (.int .i64 (compR l0 l1)) ∧ Below w.heap.size w w' := by
  have hm0 : l0.length ≤ 9223372036854775807 := hr0.2.1
  have hm1 : l1.length ≤ 9223372036854775807 := hr1.2.1
  have HR := Aside0.mk hr0
  have HS := Aside0.mk hr1
  have hu := Try.underlying58
  clear hr0 hr1
  go_enter Try.func38, Try.ntmps38
  go_wp2
  go_loopg [13, 7, 10] l0.length (fun gg v13 _ _ wr => ∃ (i : Nat), i + gg = l0.length ∧ i ≤ l1.length ∧ v13 = .int .i64 i ∧ Aside0 (Below w.heap.size w wr) ∧ Aside0 (compR (l0.drop i) (l1.drop i) = compR l0 l1))
  case atStart => exact ⟨0, by omega, Nat.zero_le _, rfl, ⟨Below.refl _ _⟩, ⟨rfl⟩⟩
  case round =>
    obtain ⟨i, hi, hi1, rfl, HB, HC⟩ := hrel
    cases gk with
    | zero =>
      have hc := HC.out
      rw [List.drop_of_length_le (show l0.length ≤ i by omega)] at hc
      have d0 : decide ((i : Int) < (l0.length : Int)) = false := decide_eq_false (by omega)
      have d0n : decide (i < l0.length) = false := decide_eq_false (by omega)
      by_cases hl : l0.length < l1.length
      · have d1 : decide ((l0.length : Int) < (l1.length : Int)) = true := decide_eq_true (by omega)
        have d1n : decide (l0.length < l1.length) = true := decide_eq_true hl
        rw [List.drop_eq_getElem_cons (show i < l1.length by omega)] at hc
        have hc' : (-1 : Int) = compR l0 l1 := hc
        replace HC := Aside0.mk hc'
        clear hc'
        clear hc hi hi1
        go_wp2
        go_ret
        exact ⟨by rw [← HC.out]; rfl, HB.out⟩
      · have d1 : decide ((l0.length : Int) < (l1.length : Int)) = false := decide_eq_false (by omega)
        have d1n : decide (l0.length < l1.length) = false := decide_eq_false hl
        rw [List.drop_of_length_le (show l1.length ≤ i by omega)] at hc
        have HC := Aside0.mk hc
        clear hc hi hi1
        go_wp2
        go_ret
        exact ⟨by rw [← HC.out]; rfl, HB.out⟩
    | succ g1 =>
      have hlt : i < l0.length := by omega
      have hc := HC.out
      rw [List.drop_eq_getElem_cons hlt] at hc
      obtain ⟨ad, e1, hx0, hx1⟩ := at_T58 HR.out (i : Int) (by omega) (by omega)
      cases e1
      replace hx0 := (HB.out.cell (World.block_lt_of_cell? w _ hx0)).trans hx0
      replace hx1 := (HB.out.cell (World.block_lt_of_cell? w _ hx1)).trans hx1
      rw [rdL_nat l0 i hlt, Int.toNat_natCast] at hx0 hx1
      have d0 : decide ((i : Int) < (l0.length : Int)) = true := decide_eq_true (by omega)
      have d0n : decide (i < l0.length) = true := decide_eq_true hlt
      have p0 : (0 ≤ (i : Int)) = True := eq_true (by omega)
      by_cases hl1 : i < l1.length
      · obtain ⟨bd, e2, hy0, hy1⟩ := at_T58 HS.out (i : Int) (by omega) (by omega)
        cases e2
        replace hy0 := (HB.out.cell (World.block_lt_of_cell? w _ hy0)).trans hy0
        replace hy1 := (HB.out.cell (World.block_lt_of_cell? w _ hy1)).trans hy1
        rw [rdL_nat l1 i hl1, Int.toNat_natCast] at hy0 hy1
        rw [List.drop_eq_getElem_cons hl1] at hc
        have d1 : decide ((l1.length : Int) ≤ (i : Int)) = false := decide_eq_false (by omega)
        have d1n : decide (l1.length ≤ i) = false := decide_eq_false (by omega)
        have hcell := cmpFn_c l0[i] l1[i]
        simp only [compR] at hc
        generalize l0[i] = x at *
        generalize l1[i] = y at *
        have HF := Aside0.mk hcell
        clear hcell HC
        have hbx := HB.out
        have lx0 := World.block_lt_of_cell? _ _ hx0
        have ly0 := World.block_lt_of_cell? _ _ hy0
        by_cases hz : cmpL1 x y = 0
        · rw [if_pos hz] at hc
          rw [hz] at HF
          have HC := Aside0.mk hc
          clear hc hz hbx
          go_wp2_with (go_at_call 39; (with_reducible refine (HF.out _).mono ?_); rintro e w1 ⟨rfl, hb⟩; have HB1 := Aside0.mk (below_then (below_alloc (below_alloc HB.out (.cells #[.string x.f0, .string x.f1] 58)) (.cells #[.string y.f0, .string y.f1] 58)) (by have := HB.out.size; simp; omega) hb); clear hb)
          go_roundg g1
          case measure => omega
          case rel => exact ⟨i + 1, by omega, by omega, by go_num, HB1, HC⟩
        · rw [if_neg hz] at hc
          have dz : (cmpL1 x y != 0) = true := bne_iff_ne.2 hz
          have HC := Aside0.mk hc
          clear hc hz hbx
          go_wp2_with (go_at_call 39; (with_reducible refine (HF.out _).mono ?_); rintro e w1 ⟨rfl, hb⟩; have HB1 := Aside0.mk (below_then (below_alloc (below_alloc HB.out (.cells #[.string x.f0, .string x.f1] 58)) (.cells #[.string y.f0, .string y.f1] 58)) (by have := HB.out.size; simp; omega) hb); clear hb)
          go_ret
          exact ⟨by rw [← HC.out]; rfl, HB1.out⟩
      · have d1 : decide ((l1.length : Int) ≤ (i : Int)) = true := decide_eq_true (by omega)
        have d1n : decide (l1.length ≤ i) = true := decide_eq_true (by omega)
        rw [List.drop_of_length_le (show l1.length ≤ i by omega)] at hc
        have HC1 := Aside0.mk hc
        clear hc hl1 HC
        have HB1 := Aside0.mk (below_alloc HB.out (.cells #[.string (l0[i]).f0, .string (l0[i]).f1] 58))
        go_wp2
        go_ret
        exact ⟨by rw [← HC1.out]; rfl, HB1.out⟩
set_option maxHeartbeats 4000000 in
set_option maxRecDepth 100000 in
theorem labels_Compare.calls (A0 : Option Addr) (c0 : Nat) (l0 : List S58) (A1 : Option Addr) (c1 : Nat) (l1 : List S58) (r : Int) (w : World) (hr0 : Kd.C k58 w A0 l0.length l0) (hc0 : l0.length ≤ c0) (hr1 : Kd.C k58 w A1 l1.length l1) (hc1 : l1.length ≤ c1) (h : labels_Compare.f l0 l1 = some r) :
    Calls Try.prog 24 #[.slice A0 l0.length c0, .slice A1 l1.length c1] w fun e w' => e = .returned (.int .i64 r) ∧ Below w.heap.size w w' := by
  injection h with h
  subst h
  have HF := Aside0.mk (compareFunc_c A0 c0 l0 A1 c1 l1 w hr0 hc0 hr1 hc1)
  clear hr0 hr1
  go_enter Try.func24, Try.ntmps24
  go_wp2_with (go_at_call 38; (with_reducible refine HF.out.mono ?_); rintro e w1 ⟨rfl, hb⟩; have HB := Aside0.mk hb; clear hb)
  go_ret
  exact ⟨rfl, HB.out⟩
end Go.Proofs.Ytbfiacnmielajaa.P
namespace Go.Proofs.Ytbfiacnmielajaa.P
open Go.RowKit Go.Proofs.YtbfiacnmielajaaW.PrintWords Go.Proofs.YtbfiacnmielajaaW.PrintLast Go.Proofs.YtbfiacnmielajaaW.PrintMore
set_option linter.unusedVariables false
set_option linter.unusedSimpArgs false
def lc : List S58 := [⟨⟨#[106, 111, 98]⟩, ⟨#[97, 112, 105]⟩⟩, ⟨⟨#[122, 111, 110, 101]⟩, ⟨#[97, 34, 98]⟩⟩]
def tc : ByteArray := ⟨#[123, 106, 111, 98, 61, 34, 97, 112, 105, 34, 44, 122, 111, 110, 101, 61, 34, 97, 92, 34, 98, 34, 125]⟩
def sc : ByteArray := ⟨#[123, 122, 111, 110, 101, 42, 61, 34, 98, 34, 44, 106, 111, 98, 33, 61, 34, 120, 34, 125]⟩
def mc : List S42 := [⟨3, ⟨#[122, 111, 110, 101]⟩, ⟨#[98]⟩⟩, ⟨1, ⟨#[106, 111, 98]⟩, ⟨#[120]⟩⟩]
theorem tc_eq : labels_Text.f 50 lc = some (tc, 0) := by kernel_rfl
theorem pc_eq : labels_Parse.f 50 tc = some (lc, 0) := by kernel_rfl
theorem mc_eq : labels_ParseMatchers.f sc = some (mc, 0) := by kernel_rfl
theorem bc_eq : labels_Parse.f 50 ⟨#[123, 98, 61, 34, 34, 44, 97, 61, 34, 34, 125]⟩ = some ([], 10) := by kernel_rfl
theorem gc_eq : labels_Get.f 50 lc ⟨#[106, 111, 98]⟩ = some (⟨#[97, 112, 105]⟩, true) := by kernel_rfl
theorem hc_eq : labels_Match.f lc mc = some true := by kernel_rfl
theorem cc_eq : labels_Compare.f lc [⟨⟨#[106, 111, 98]⟩, ⟨#[97, 112, 105]⟩⟩] = some 1 := by kernel_rfl
theorem kc_eq : labels_Check.f 50 [⟨⟨#[]⟩, ⟨#[]⟩⟩] = some 10 := by kernel_rfl
theorem C_head {W : World} {a : Addr} {n : Nat} {x : S58} {l : List S58} (h : Kd.C k58 W (some a) n (x :: l)) : Kd.C k58 W (some a) 1 [x] := by
  obtain ⟨h1, h2, h3⟩ := h
  obtain ⟨b, e, hb⟩ := h3 (by rw [← h1]; simp)
  cases e
  refine ⟨rfl, by decide, fun _ => ⟨a, rfl, fun j p hj => hb j p ?_⟩⟩
  cases j with
  | zero => exact hj
  | succ j => simp at hj
theorem C_fresh {W : World} {b : Nat} {x : S58} {t : TypeId} (h : W.heap[b]? = some (.cells #[.string x.f0, .string x.f1] t (0, 0))) : Kd.C k58 W (some ⟨b, 0, none⟩) 1 [x] := by
  refine ⟨rfl, by decide, fun _ => ⟨_, rfl, fun j p hj => ?_⟩⟩
  cases j with
  | succ j => simp at hj
  | zero =>
    obtain rfl : x = p := by simpa using hj
    refine ⟨[.string x.f0, .string x.f1], rfl, k58_mk W x, fun i u hu => ?_⟩
    match i, hu with
    | 0, hu => exact (blk_cell h 0).trans hu
    | 1, hu => exact (blk_cell h 1).trans hu
    | i + 2, hu => simp at hu
theorem cells4 {W : World} {a1 a3 : Addr} {n m : Nat} (h : Kd.C k58 W (some a1) n lc) (k : Kd.C k58 W (some a3) m lc) : W.cell? ⟨a1.block, a1.off + 2, none⟩ = some (.string (⟨#[122, 111, 110, 101]⟩ : ByteArray)) ∧ W.cell? ⟨a1.block, a1.off + 2 + 1, none⟩ = some (.string (⟨#[97, 34, 98]⟩ : ByteArray)) ∧ W.cell? ⟨a3.block, a3.off + 2, none⟩ = some (.string (⟨#[122, 111, 110, 101]⟩ : ByteArray)) ∧ W.cell? ⟨a3.block, a3.off + 2 + 1, none⟩ = some (.string (⟨#[97, 34, 98]⟩ : ByteArray)) := by
  have hn : n = 2 := h.1.symm.trans rfl
  have hm : m = 2 := k.1.symm.trans rfl
  obtain ⟨b1, e1, hx0, hx1⟩ := at_T58 h 1 (by decide) (by omega)
  obtain ⟨b3, e3, hy0, hy1⟩ := at_T58 k 1 (by decide) (by omega)
  cases e1
  cases e3
  exact ⟨hx0, hx1, hy0, hy1⟩
theorem mc_eq2 : labels_ParseMatchers.f ⟨#[123, 122, 111, 110, 101, 42, 61, 34, 98, 34, 44, 106, 111, 98, 33, 61, 34, 120, 34, 125]⟩ = some (mc, 0) := mc_eq
set_option maxHeartbeats 16000000 in
set_option maxRecDepth 100000 in
theorem awake_c (w : World) : Calls Try.prog 11 #[] w fun e w' => e = .returned (.bool true) ∧ Below w.heap.size w w' := by
  have huL := Try.underlying58
  have htc : (⟨#[123, 106, 111, 98, 61, 34, 97, 112, 105, 34, 44, 122, 111, 110, 101, 61, 34, 97, 92, 34, 98, 34, 125]⟩ : ByteArray) = tc := rfl
  go_enter Try.func11, Try.ntmps11
  go_wp2_with (first | ((with_reducible refine gate_dst (N := 14) rfl ?_); refine Kd.R_lit k58 _ 58 ?hg (N := 14) ?hd (xs := lc) (inner := [.string (⟨#[106, 111, 98]⟩ : ByteArray), .string (⟨#[97, 112, 105]⟩ : ByteArray), .string (⟨#[122, 111, 110, 101]⟩ : ByteArray), .string (⟨#[97, 34, 98]⟩ : ByteArray)]) (ok := fun _ => True) (okp := fun _ => True) ?hr ?hp (fun _ hk => hk) trivial (Below.refl _ _) (Nat.le_refl _) (by simp [lc]) ?_; (case hd => rfl); (case hg => rfl); (case hr => first | (go_simp; done) | (go_simp; rfl)); (case hp => exact (Reps.c2 (show Kd.M k58 _ _ _ (⟨(⟨#[106, 111, 98]⟩ : ByteArray), (⟨#[97, 112, 105]⟩ : ByteArray)⟩ : S58) [.string (⟨#[106, 111, 98]⟩ : ByteArray), .string (⟨#[97, 112, 105]⟩ : ByteArray)] from (k58_mkM _ _ _ _)) (Reps.c2 (show Kd.M k58 _ _ _ (⟨(⟨#[122, 111, 110, 101]⟩ : ByteArray), (⟨#[97, 34, 98]⟩ : ByteArray)⟩ : S58) [.string (⟨#[122, 111, 110, 101]⟩ : ByteArray), .string (⟨#[97, 34, 98]⟩ : ByteArray)] from (k58_mkM _ _ _ _)) (Reps.none _ _)))); intro v102 w1 ho hb hg_ hnew_; clear hg_ hnew_; have HO := Aside0.mk ho; have HB := Aside0.mk hb; clear hb ho; obtain ⟨A1, c1, rfl⟩ := Kd.R_slice HO.out) | (go_at_call 13; ((with_reducible refine (labels_Text.calls 50 A1 c1 lc tc 0 _ (Kd.R_reads' HO.out).2.2 (Kd.R_reads' HO.out).2.1 tc_eq).mono ?_); rintro e w2 ⟨rfl, hb⟩; replace HO := Aside0.mk (Kd.R_below HO.out hb); replace HB := Aside0.mk (below_then HB.out HB.out.size hb); clear hb)) | (go_at_call 15; ((with_reducible refine (labels_Parse.calls 50 tc lc 0 _ pc_eq).mono ?_); rintro e w3 ⟨v3, rfl, hp, hb⟩; have hsz := HB.out.size; replace HO := Aside0.mk (Kd.R_below HO.out hb); replace HB := Aside0.mk (below_then HB.out HB.out.size hb); have HP := Aside0.mk (Kd.R_lower hp hsz); clear hp hb hsz; obtain ⟨A3, c3, rfl⟩ := Kd.R_slice HP.out)) | (go_at_call 18; ((with_reducible refine (labels_ParseMatchers.calls _ mc 0 _ mc_eq2).mono ?_); rintro e w5 ⟨v5, rfl, hm, hb⟩; have hsz := HB.out.size; replace HO := Aside0.mk (Kd.R_below HO.out hb); replace HP := Aside0.mk (Kd.R_below HP.out hb); replace HB := Aside0.mk (below_then HB.out HB.out.size hb); have HM := Aside0.mk (Kd.R_lower hm hsz); clear hm hb hsz; obtain ⟨A5, c5, rfl⟩ := Kd.R_slice HM.out)) | (go_at_call 15; ((with_reducible refine (labels_Parse.calls 50 _ [] 10 _ bc_eq).mono ?_); rintro e w4 ⟨v4, rfl, hp, hb⟩; replace HO := Aside0.mk (Kd.R_below HO.out hb); replace HP := Aside0.mk (Kd.R_below HP.out hb); replace HM := Aside0.mk (Kd.R_below HM.out hb); replace HB := Aside0.mk (below_then HB.out HB.out.size hb); clear hp hb)) | (go_at_call 20; ((with_reducible refine (labels_Get.calls 50 A1 c1 lc _ _ true _ (Kd.R_reads' HO.out).2.2 (Kd.R_reads' HO.out).2.1 gc_eq).mono ?_); rintro e w6 ⟨rfl, hb⟩; replace HO := Aside0.mk (Kd.R_below HO.out hb); replace HP := Aside0.mk (Kd.R_below HP.out hb); replace HM := Aside0.mk (Kd.R_below HM.out hb); replace HB := Aside0.mk (below_then HB.out HB.out.size hb); clear hb)))
  have hc1 : 2 ≤ c1 := (Kd.R_reads' HO.out).2.1
  obtain ⟨a1, e1, hx0, hx1⟩ := at_T58 (Kd.R_reads' HO.out).2.2 1 (by decide) (by decide)
  obtain ⟨a3, e3, hy0, hy1⟩ := at_T58 (Kd.R_reads' HP.out).2.2 1 (by decide) (by decide)
  subst e1
  subst e3
  have HX := Aside0.mk (And.intro hx0 hx1)
  clear hx0 hx1 hy0 hy1
  have hc1i : (1 : Int) ≤ (c1 : Int) := by omega
  have hc1d : decide ((1 : Int) ≤ (c1 : Int)) = true := decide_eq_true hc1i
  rw [show lc.length = 2 from rfl]
  replace HO := Aside0.mk (Kd.R_drew HO.out)
  replace HP := Aside0.mk (Kd.R_drew HP.out)
  replace HM := Aside0.mk (Kd.R_drew HM.out)
  replace HB := Aside0.mk (below_drew1 HB.out)
  go_region_held3 (fun W => W.cell? ⟨a1.block, a1.off + 2, none⟩ = some (.string (⟨#[122, 111, 110, 101]⟩ : ByteArray)) ∧ W.cell? ⟨a1.block, a1.off + 2 + 1, none⟩ = some (.string (⟨#[97, 34, 98]⟩ : ByteArray)) ∧ W.cell? ⟨a3.block, a3.off + 2, none⟩ = some (.string (⟨#[122, 111, 110, 101]⟩ : ByteArray)) ∧ W.cell? ⟨a3.block, a3.off + 2 + 1, none⟩ = some (.string (⟨#[97, 34, 98]⟩ : ByteArray))) (first | exact cells4 (Kd.R_reads' HO.out).2.2 (Kd.R_reads' HP.out).2.2 | exact cells4 (Kd.R_reads' (Kd.R_alloc HO.out _)).2.2 (Kd.R_reads' (Kd.R_alloc HP.out _)).2.2) (first | (go_at_call 22; ((refine (labels_Match.calls (some a1) c1 lc A5 c5 mc true _ (Kd.R_reads' HO.out).2.2 (Kd.R_reads' HO.out).2.1 (Kd.R_reads' HM.out).2.2 (Kd.R_reads' HM.out).2.1 hc_eq).mono ?_); rintro e w6 ⟨rfl, hb⟩; replace HO := Aside0.mk (Kd.R_below HO.out hb); replace HP := Aside0.mk (Kd.R_below HP.out hb); replace HM := Aside0.mk (Kd.R_below HM.out hb); replace HB := Aside0.mk (below_then HB.out HB.out.size hb); clear hb)) | (go_at_call 24; ((refine (labels_Compare.calls (some a1) c1 lc (some a1) c1 [⟨(⟨#[106, 111, 98]⟩ : ByteArray), (⟨#[97, 112, 105]⟩ : ByteArray)⟩] 1 _ (Kd.R_reads' HO.out).2.2 (Kd.R_reads' HO.out).2.1 (C_head (Kd.R_reads' HO.out).2.2) (by simp; omega) cc_eq).mono ?_); rintro e w7 ⟨rfl, hb⟩; replace HO := Aside0.mk (Kd.R_below HO.out hb); replace HP := Aside0.mk (Kd.R_below HP.out hb); replace HM := Aside0.mk (Kd.R_below HM.out hb); replace HB := Aside0.mk (below_then HB.out HB.out.size hb); clear hb)) | (go_at_call 14; ((refine (labels_Check.calls 50 _ 1 [⟨⟨#[]⟩, ⟨#[]⟩⟩] 10 _ (C_fresh (blk_new _ _)) (by simp) kc_eq).mono ?_); rintro e w8 ⟨rfl, hb⟩; replace HO := Aside0.mk (Kd.R_below (Kd.R_alloc HO.out _) hb); replace HP := Aside0.mk (Kd.R_below (Kd.R_alloc HP.out _) hb); replace HB := Aside0.mk (below_then (below_alloc HB.out _) (below_alloc HB.out _).size hb); clear hb)))
  all_goals go_wp2
  all_goals go_ret
  all_goals exact ⟨rfl, HB.out⟩
def tidepolelaw30_awake.f : Option Bool := some true
theorem tidepolelaw30_awake.calls (r : Bool) (w : World) (h : tidepolelaw30_awake.f = some r) : Calls Try.prog 11 #[] w fun e w' => e = .returned (.bool r) ∧ Below w.heap.size w w' := by
  injection h with h
  subst h
  exact awake_c w
end Go.Proofs.Ytbfiacnmielajaa.P
namespace Go.Proofs.Ytbfiacnmielajaa.P
open Go.RowKit Go.Proofs.YtbfiacnmielajaaW.PrintWords Go.Proofs.YtbfiacnmielajaaW.PrintLast Go.Proofs.YtbfiacnmielajaaW.PrintMore
set_option linter.unusedVariables false
set_option linter.unusedSimpArgs false
theorem getP_size (n : ByteArray) : ∀ (l : List S58), (∀ x ∈ l, x.f1.size ≤ 1000) → (getP l n).1.size ≤ 1000
  | [], _ => Nat.zero_le _
  | x :: l, h => by
    unfold getP
    split
    · exact h x (by simp)
    · exact getP_size n l (fun y hy => h y (by simp [hy]))
def labels_MatchG.f (l : List S58) (m : List S42) : Option Bool := if l.length ≤ 1000000 ∧ ∀ x ∈ l, x.f1.size ≤ 1000 then some (matchR l m) else none
theorem labels_MatchG.calls (A0 : Option Addr) (c0 : Nat) (l0 : List S58) (A1 : Option Addr) (c1 : Nat) (l1 : List S42) (r : Bool) (w : World) (hg : GMax w) (hr0 : Kd.C k58 w A0 l0.length l0) (hc0 : l0.length ≤ c0) (hr1 : Kd.C k42 w A1 l1.length l1) (hc1 : l1.length ≤ c1) (h : labels_MatchG.f l0 l1 = some r) :
    Calls Try.prog 22 #[.slice A0 l0.length c0, .slice A1 l1.length c1] w fun e w' => e = .returned (.bool r) ∧ Below w.heap.size w w' := by
  unfold labels_MatchG.f at h
  by_cases hs : l0.length ≤ 1000000 ∧ ∀ x ∈ l0, x.f1.size ≤ 1000
  rotate_left
  · rw [if_neg hs] at h; cases h
  rw [if_pos hs] at h
  injection h with h
  subst h
  exact match_c A0 c0 l0 A1 c1 l1 w hs.1 hr0 hc0 hr1 hc1 (fun x hx hk => .inr ⟨by have := getP_size x.f1 l0 hs.2; omega, hg⟩)
end Go.Proofs.Ytbfiacnmielajaa.P
namespace Go.Proofs.Ytbfiacnmielajaa.P
open Go.RowKit Go.Proofs.YtbfiacnmielajaaW.PrintWords Go.Proofs.YtbfiacnmielajaaW.PrintLast Go.Proofs.YtbfiacnmielajaaW.PrintMore
attribute [local go_sem] max2_int min2_int max_two min_two max_three min_three max_four min_four
set_option linter.unusedVariables false
set_option linter.unusedSimpArgs false
theorem eqA59 (d : Nat) (w : World) (x0 y0 : Int) (x1 y1 : ByteArray) (x2 y2 : ByteArray) :
  (Op.equalIn (d + 2) 59 (.agg #[.int .i64 x0, .string x1, .string x2]) (.agg #[.int .i64 y0, .string y1, .string y2])).run Try.prog w = .ok (x0 == y0 && (x1.toList == y1.toList && (x2.toList == y2.toList))) w := by
 refine eqA_of Try.underlying59 (by kernel_rfl) ?_
 refine eqf_cons (by rfl) (by go_simp; rfl) (by go_simp; rfl) (by go_simp) ?_
 refine eqf_cons (by rfl) (by go_simp; rfl) (by go_simp; rfl) (by go_simp) ?_
 exact eqf_last (by rfl) (by go_simp; rfl) (by go_simp; rfl) (by go_simp)
end Go.Proofs.Ytbfiacnmielajaa.P
namespace Go.Proofs.Ytbfiacnmielajaa.P
open Go.RowKit Go.Proofs.YtbfiacnmielajaaW.PrintWords Go.Proofs.YtbfiacnmielajaaW.PrintLast Go.Proofs.YtbfiacnmielajaaW.PrintMore
attribute [local go_sem] max2_int min2_int max_two min_two max_three min_three max_four min_four
set_option linter.unusedVariables false
set_option linter.unusedSimpArgs false
attribute [local go_sem high] leq_str gtr_str
attribute [local go_sem high] eqA59
def tidepolelaw30_ref.l0 : Nat → List (S59) → List (S58) → Int → Int → Option ((List (S59)))
 | 0, _, _, _, _ => none
 | k + 1, x3, x6, x7, x8 => if x8 < x7 then (if 0 ≤ x8 then (if x8 < (x6.length : Int) then (if x3.length < 3518437208883 then (tidepolelaw30_ref.l0 k (x3 ++ [(⟨0, (rd_T58 x6 x8).f0, (rd_T58 x6 x8).f1⟩ : S59)]) x6 x7 (wrap64 (x8 + 1))) else (none)) else (none)) else (none)) else (some x3)
def tidepolelaw30_ref.f (k : Nat) (l0 : List (S58)) : Option ((List (S59))) := tidepolelaw30_ref.l0 k ([] : List (S59)) l0 (l0.length : Int) 0
set_option maxHeartbeats 8000000 in
set_option maxRecDepth 100000 in
theorem tidepolelaw30_ref.calls (k : Nat) (A0 : Option Addr) (c0 : Nat) (l0 : List (S58)) (r : List (S59)) (w : World) (hr0 : Kd.C k58 w A0 l0.length l0) (hc0 : l0.length ≤ c0) (h : tidepolelaw30_ref.f k l0 = some r) :
  Calls Try.prog 9 #[.slice A0 l0.length c0] w fun e w' => ∃ v0_ : Value, e = .returned (v0_) ∧ Kd.R k59 59 w' w.heap.size (fun _ => True) v0_ r ∧ Below w.heap.size w w' := by
 have hu58 := Try.underlying58
 have hu59 := Try.underlying59
 have HR0 := Aside0.mk hr0
 have HC0 := Aside0.mk hc0
 clear hr0 hc0
 have HB := Aside0.mk (Below.refl w.heap.size w)
 have H : (tidepolelaw30_ref.l0 k ([] : List (S59)) l0 (l0.length : Int) 0) = some r := h
 clear h
 have H' := Aside0.mk H
 clear H
 go_enter Try.func9, Try.ntmps9
 go_wp2
 go_loopg [3, 8] k (fun kq v3 v8 w' => ∃ (x3_1 : List (S59)) (x8_1 : Int), v8 = .int .i64 x8_1 ∧ Aside0 (tidepolelaw30_ref.l0 kq x3_1 l0 (l0.length : Int) x8_1 = some r) ∧ Aside0 (kq ≤ k) ∧ Aside0 (Kd.R k59 59 w' w.heap.size (fun _ => True) v3 x3_1) ∧ Aside0 (Below w.heap.size w w'))
 case atStart => exact ⟨(([] : List (S59))), (0), (by first | rfl | (simp; done) | (simp [*]; done)), H', ⟨Nat.le_refl _⟩, ⟨by first | exact Kd.R_nil _ _ _ _ _ | exact Kd.N_nil _ _ _ _ _ | exact Kd.V_nil _ _ _ _ _ | exact Kd.Q_nil _ _ _ _ _ | exact Kd.S_nil _ _ _ _ _⟩, ⟨by repeat (first | (with_reducible first | exact HB.out | apply below_alloc | apply pw_below_drewN | apply below_drew1) | exact HB.out)⟩⟩
 case round =>
  clear H'
  obtain ⟨x3_1, x8_1, rfl, HA, HK1, HO_3, HB⟩ := hrel
  cases gk with
  | zero => exact absurd HA.out (by simp [tidepolelaw30_ref.l0])
  | succ k1 =>
   have H := HA.out
   clear HA
   simp only [tidepolelaw30_ref.l0] at H
   by_cases c2 : x8_1 < (l0.length : Int)
   ·rw [if_pos c2] at H
    have c2b0 : decide (x8_1 < (l0.length : Int)) = true := decide_eq_true c2
    clear c2
    by_cases c3 : 0 ≤ x8_1
    ·rw [if_pos c3] at H
     have c3b0 : decide (0 ≤ x8_1) = true := decide_eq_true c3
     clear c3
     by_cases c4 : x8_1 < (l0.length : Int)
     ·rw [if_pos c4] at H
      have c4b0 : decide (x8_1 < (l0.length : Int)) = true := decide_eq_true c4
      clear c4
      by_cases c5 : x3_1.length < 3518437208883
      ·rw [if_pos c5] at H
       have LMc5 := Aside0.mk c5
       clear c5
       obtain ⟨y103, hy103⟩ : ∃ y_ : List (S59), y_ = (x3_1 ++ [(⟨0, (rd_T58 l0 x8_1).f0, (rd_T58 l0 x8_1).f1⟩ : S59)]) := ⟨_, rfl⟩
       replace H : (tidepolelaw30_ref.l0 k1 y103 l0 (l0.length : Int) (wrap64 (x8_1 + 1))) = some r := by first | (rw [hy103]; with_reducible exact H) | (have H2_ := (Option.bind_some _ _).symm.trans H; rw [hy103]; with_reducible exact H2_) | (have H2_ := (Option.bind_some _ _).symm.trans H; with_reducible exact H2_) | with_reducible exact H | (rw [hy103]; exact H) | exact H
       have Ny103 := Aside0.mk hy103
       clear hy103
       have H' := Aside0.mk H
       clear H
       have p101 : 0 ≤ (x8_1 : Int) := of_decide_eq_true (by first | (with_reducible assumption) | assumption)
       have q101 : x8_1 < (l0.length : Int) := of_decide_eq_true (by first | (with_reducible assumption) | assumption)
       obtain ⟨ad101, e101, hx101_0, hx101_1⟩ := at_T58 HR0.out x8_1 p101 q101
       cases e101
       replace hx101_0 := (HB.out.cell (World.block_lt_of_cell? w _ hx101_0)).trans hx101_0
       replace hx101_1 := (HB.out.cell (World.block_lt_of_cell? w _ hx101_1)).trans hx101_1
       replace p101 := eq_true p101
       replace q101 := eq_true q101
       go_wp2_with (first | ((with_reducible refine gate_dst (N := 5) rfl ?_); refine box_event ?hg (N := 5) ?hd (cs := #[.string (⟨#[]⟩ : ByteArray), .string (⟨#[]⟩ : ByteArray)]) (t := 58) ?hr ?_; (case hd => rfl); (case hg => rfl); (case hr => first | (go_simp; done) | (go_simp; rfl)); intro gb102 hg w6 hbox hb; have n0_ := Aside0.mk (Kd.R_below (by (with_reducible repeat (first | apply Kd.R_alloc | apply Kd.R_drewN | apply Kd.R_drew)); exact HO_3.out) hb); have n1_ := Aside0.mk (below_step (by repeat (first | (with_reducible first | exact HB.out | apply below_alloc | apply pw_below_drewN | apply below_drew1) | exact HB.out)) hb); have n2_ := Aside0.mk (hbox); have n3_ := Aside0.mk ((by rw [hg]; exact (below_size (by repeat (first | (with_reducible first | exact HB.out | apply below_alloc | apply pw_below_drewN | apply below_drew1) | exact HB.out))) : w.heap.size ≤ gb102)); have n4_ := Aside0.mk ((by rw [hg]; exact (below_size (by repeat (first | (with_reducible first | exact HB.out | apply below_alloc | apply pw_below_drewN | apply below_drew1) | exact HB.out))) : w.heap.size ≤ gb102)); clear HO_3; clear HB; have HO_3 := n0_; have HB := n1_; have BK102 := n2_; have GW102 := n3_; have GE102 := n4_; clear n0_ n1_ n2_ n3_ n4_; clear hb hbox hg; have hcz7_0 : w6.cell? ⟨gb102, 0, none⟩ = some (.string (⟨#[]⟩ : ByteArray)) := (blk_cell BK102.out 0).trans rfl; have hcz7_1 : w6.cell? ⟨gb102, 1, none⟩ = some (.string (⟨#[]⟩ : ByteArray)) := (blk_cell BK102.out 1).trans rfl; have hfz7_0 := blk_frozen BK102.out 0; have hfz7_1 := blk_frozen BK102.out 1) | ((with_reducible refine gate_builtin (b := .append) (xs := #[.tmp 12, .tmp 18]) rfl ?_); at_builtin; refine Kd.R_append k59 (w0 := w) w.heap.size rfl (.tmp 12) (.tmp 18) 23 59 (.agg #[(.int .i64 0), (.string ⟨#[]⟩), (.string ⟨#[]⟩)]) 40 rfl Try.underlying23 info59 rfl (by decide) (by omega) u3 x3_1 (⟨0, (rd_T58 l0 x8_1).f0, (rd_T58 l0 x8_1).f1⟩ : S59) [.int .i64 0, .string ((rd_T58 l0 x8_1).f0), .string ((rd_T58 l0 x8_1).f1)] (fun _ => True) (fun _ => False) rfl (by first | (go_simp; done) | (go_simp; rfl)) ?aP (fun _ hk => hk.elim) ?aF ?aO ?aB ?aS ?aL ?_; (case aP => exact k59_mkM _ _ _ (⟨0, (rd_T58 l0 x8_1).f0, (rd_T58 l0 x8_1).f1⟩ : S59)); (case aB => exact (by repeat (first | (with_reducible first | exact HB.out | apply below_alloc | apply pw_below_drewN | apply below_drew1 | refine below_set ?_ GE102.out) | exact HB.out))); (case aF => exact (fun _ _ => trivial)); (case aO => exact (by (with_reducible repeat (first | apply Kd.R_alloc | apply Kd.R_drewN | apply Kd.R_drew)); exact Kd.R_mono (Kd.R_far (p := ⟨gb102, 1, none⟩) (Kd.R_far (p := ⟨gb102, 0, none⟩) (Kd.R_types HO_3.out BK102.out (by decide)) (fun _ hk => hk.2) (.string ((rd_T58 l0 x8_1).f0))) (fun _ hk => hk.2) (.string ((rd_T58 l0 x8_1).f1))) (fun _ hk => trivial))); (case aS => exact (below_size (by repeat (first | (with_reducible first | exact HB.out | apply below_alloc | apply pw_below_drewN | apply below_drew1 | refine below_set ?_ GE102.out) | exact HB.out)))); (case aL => have := LMc5.out; omega); intro v104 w8 ho hb hg hat; rw [← Ny103.out] at ho; have n0_ := Aside0.mk (blk_grown (g := gb102) (o := .cells #[.string ((rd_T58 l0 x8_1).f0), .string ((rd_T58 l0 x8_1).f1)] 58 (0, 0)) (by (with_reducible repeat (first | refine blk_drewN ?_ _ | refine blk_drew ?_ | refine blk_alloc ?_ _)); refine blk_put (cs := #[.string ((rd_T58 l0 x8_1).f0), .string (⟨#[]⟩ : ByteArray)]) ?_ 1 _ rfl; (with_reducible repeat (first | refine blk_drewN ?_ _ | refine blk_drew ?_ | refine blk_alloc ?_ _)); refine blk_put (cs := #[.string (⟨#[]⟩ : ByteArray), .string (⟨#[]⟩ : ByteArray)]) ?_ 0 _ rfl; (with_reducible repeat (first | refine blk_drewN ?_ _ | refine blk_drew ?_ | refine blk_alloc ?_ _)); exact BK102.out) hg (Kd.R_ne HO_3.out BK102.out (by decide))); have n1_ := Aside0.mk (hb); have n2_ := Aside0.mk (ho); clear BK102; clear HB; clear HO_3; have BK102 := n0_; have HB := n1_; have HO105 := n2_; clear n0_ n1_ n2_; clear ho hb hg hat))
       go_roundg k1
       case measure => have := HK1.out; omega
       case rel => exact ⟨(y103), (wrap64 (x8_1 + 1)), (by first | rfl | (simp; done) | (simp [*]; done)), H', ⟨by have := HK1.out; omega⟩, ⟨by (with_reducible repeat (first | apply Kd.R_alloc | apply Kd.R_drewN | apply Kd.R_drew)); exact HO105.out⟩, ⟨by repeat (first | (with_reducible first | exact HB.out | apply below_alloc | apply pw_below_drewN | apply below_drew1 | refine below_set ?_ GE102.out) | exact HB.out)⟩⟩
      ·rw [if_neg c5] at H
       exact absurd H (by simp)
     ·rw [if_neg c4] at H
      exact absurd H (by simp)
    ·rw [if_neg c3] at H
     exact absurd H (by simp)
   ·rw [if_neg c2] at H
    have c2b0 : decide (x8_1 < (l0.length : Int)) = false := decide_eq_false c2
    clear c2
    obtain rfl := Option.some.inj H
    go_wp2
    go_ret
    exact ⟨_, by first | rfl | (simp [errW_none, errW_some] <;> rfl) | (simp [*, errW_none, errW_some] <;> rfl), by (with_reducible repeat (first | apply Kd.R_alloc | apply Kd.R_drewN | apply Kd.R_drew)); exact HO_3.out, by repeat (first | (with_reducible first | exact HB.out | apply below_alloc | apply pw_below_drewN | apply below_drew1) | exact HB.out)⟩
def tidepolelaw30_small.l0 : Nat → List (S59) → List (S59) → Int → Int → Option (Bool)
 | 0, _, _, _, _ => none
 | k + 1, x0, x5, x6, x7 => if x7 < x6 then (if 0 ≤ x7 then (if x7 < (x5.length : Int) then (if (((rd_T59 x5 x7).f1).size : Int) > 100 then (some false) else (if (((rd_T59 x5 x7).f2).size : Int) > 300 then (some false) else (tidepolelaw30_small.l0 k x0 x5 x6 (wrap64 (x7 + 1))))) else (none)) else (none)) else (some (decide ((x0.length : Int) ≤ 30)))
def tidepolelaw30_small.f (k : Nat) (l0 : List (S59)) : Option (Bool) := tidepolelaw30_small.l0 k l0 l0 (l0.length : Int) 0
set_option maxHeartbeats 8000000 in
set_option maxRecDepth 100000 in
theorem tidepolelaw30_small.calls (k : Nat) (A0 : Option Addr) (c0 : Nat) (l0 : List (S59)) (r : Bool) (w : World) (hr0 : Kd.C k59 w A0 l0.length l0) (hc0 : l0.length ≤ c0) (h : tidepolelaw30_small.f k l0 = some r) :
  Calls Try.prog 10 #[.slice A0 l0.length c0] w fun e w' => e = .returned (.bool r) ∧ Below w.heap.size w w' := by
 have hu59 := Try.underlying59
 have HR0 := Aside0.mk hr0
 have HC0 := Aside0.mk hc0
 clear hr0 hc0
 have HB := Aside0.mk (Below.refl w.heap.size w)
 have H : (tidepolelaw30_small.l0 k l0 l0 (l0.length : Int) 0) = some r := h
 clear h
 have H' := Aside0.mk H
 clear H
 go_enter Try.func10, Try.ntmps10
 go_wp2
 go_loopg [7] k (fun kq v7 w' => ∃ (x7_1 : Int), v7 = .int .i64 x7_1 ∧ Aside0 (tidepolelaw30_small.l0 kq l0 l0 (l0.length : Int) x7_1 = some r) ∧ Aside0 (kq ≤ k) ∧ Aside0 (Below w.heap.size w w'))
 case atStart => exact ⟨(0), (by first | rfl | (simp; done) | (simp [*]; done)), H', ⟨Nat.le_refl _⟩, ⟨by repeat (first | (with_reducible first | exact HB.out | apply below_alloc | apply pw_below_drewN | apply below_drew1) | exact HB.out)⟩⟩
 case round =>
  clear H'
  try clear c1
  obtain ⟨x7_1, rfl, HA, HK1, HB⟩ := hrel
  cases gk with
  | zero => exact absurd HA.out (by simp [tidepolelaw30_small.l0])
  | succ k1 =>
   have H := HA.out
   clear HA
   simp only [tidepolelaw30_small.l0] at H
   by_cases c2 : x7_1 < (l0.length : Int)
   ·rw [if_pos c2] at H
    have c2b0 : decide (x7_1 < (l0.length : Int)) = true := decide_eq_true c2
    clear c2
    by_cases c3 : 0 ≤ x7_1
    ·rw [if_pos c3] at H
     have c3b0 : decide (0 ≤ x7_1) = true := decide_eq_true c3
     clear c3
     by_cases c4 : x7_1 < (l0.length : Int)
     ·rw [if_pos c4] at H
      have c4b0 : decide (x7_1 < (l0.length : Int)) = true := decide_eq_true c4
      clear c4
      by_cases c5 : (((rd_T59 l0 x7_1).f1).size : Int) > 100
      ·rw [if_pos c5] at H
       have c5b0 : decide (100 < (((rd_T59 l0 x7_1).f1).size : Int)) = true := decide_eq_true c5
       have c5b1 : decide (100 < ((rd_T59 l0 x7_1).f1).size) = true := decide_eq_true (by omega)
       clear c5
       obtain rfl := Option.some.inj H
       have p101 : 0 ≤ (x7_1 : Int) := of_decide_eq_true (by first | (with_reducible assumption) | assumption)
       have q101 : x7_1 < (l0.length : Int) := of_decide_eq_true (by first | (with_reducible assumption) | assumption)
       obtain ⟨ad101, e101, hx101_0, hx101_1, hx101_2⟩ := at_T59 HR0.out x7_1 p101 q101
       cases e101
       replace hx101_0 := (HB.out.cell (World.block_lt_of_cell? w _ hx101_0)).trans hx101_0
       replace hx101_1 := (HB.out.cell (World.block_lt_of_cell? w _ hx101_1)).trans hx101_1
       replace hx101_2 := (HB.out.cell (World.block_lt_of_cell? w _ hx101_2)).trans hx101_2
       replace p101 := eq_true p101
       replace q101 := eq_true q101
       go_wp2_with (first | ((with_reducible refine gate_dst (N := 4) rfl ?_); (try (refine gate_guard (by rfl) ?_; dsimp only)); refine box_event ?hg (N := 4) ?hd (cs := #[.int .i64 0, .string (⟨#[]⟩ : ByteArray), .string (⟨#[]⟩ : ByteArray)]) (t := 59) ?hr ?_; (case hd => rfl); (case hg => rfl); (case hr => first | (go_simp; done) | (go_simp; rfl)); intro gb102 hg w6 hbox hb; have n0_ := Aside0.mk (below_step (by repeat (first | (with_reducible first | exact HB.out | apply below_alloc | apply pw_below_drewN | apply below_drew1) | exact HB.out)) hb); have n1_ := Aside0.mk (hbox); have n2_ := Aside0.mk ((by rw [hg]; exact (below_size (by repeat (first | (with_reducible first | exact HB.out | apply below_alloc | apply pw_below_drewN | apply below_drew1) | exact HB.out))) : w.heap.size ≤ gb102)); have n3_ := Aside0.mk ((by rw [hg]; exact (below_size (by repeat (first | (with_reducible first | exact HB.out | apply below_alloc | apply pw_below_drewN | apply below_drew1) | exact HB.out))) : w.heap.size ≤ gb102)); clear HB; have HB := n0_; have BK102 := n1_; have GW102 := n2_; have GE102 := n3_; clear n0_ n1_ n2_ n3_; clear hb hbox hg; have hcz7_0 : w6.cell? ⟨gb102, 0, none⟩ = some (.int .i64 0) := (blk_cell BK102.out 0).trans rfl; have hcz7_1 : w6.cell? ⟨gb102, 1, none⟩ = some (.string (⟨#[]⟩ : ByteArray)) := (blk_cell BK102.out 1).trans rfl; have hcz7_2 : w6.cell? ⟨gb102, 2, none⟩ = some (.string (⟨#[]⟩ : ByteArray)) := (blk_cell BK102.out 2).trans rfl; have hfz7_0 := blk_frozen BK102.out 0; have hfz7_1 := blk_frozen BK102.out 1; have hfz7_2 := blk_frozen BK102.out 2))
       go_ret
       exact ⟨by first | rfl | (simp [errW_none, errW_some] <;> rfl) | (simp [*, errW_none, errW_some] <;> rfl), by repeat (first | (with_reducible first | exact HB.out | apply below_alloc | apply pw_below_drewN | apply below_drew1 | refine below_set ?_ GE102.out) | exact HB.out)⟩
      ·rw [if_neg c5] at H
       have c5b0 : decide (100 < (((rd_T59 l0 x7_1).f1).size : Int)) = false := decide_eq_false c5
       have c5b1 : decide (100 < ((rd_T59 l0 x7_1).f1).size) = false := decide_eq_false (by omega)
       clear c5
       by_cases c8 : (((rd_T59 l0 x7_1).f2).size : Int) > 300
       ·rw [if_pos c8] at H
        have c8b0 : decide (300 < (((rd_T59 l0 x7_1).f2).size : Int)) = true := decide_eq_true c8
        have c8b1 : decide (300 < ((rd_T59 l0 x7_1).f2).size) = true := decide_eq_true (by omega)
        clear c8
        obtain rfl := Option.some.inj H
        have p101 : 0 ≤ (x7_1 : Int) := of_decide_eq_true (by first | (with_reducible assumption) | assumption)
        have q101 : x7_1 < (l0.length : Int) := of_decide_eq_true (by first | (with_reducible assumption) | assumption)
        obtain ⟨ad101, e101, hx101_0, hx101_1, hx101_2⟩ := at_T59 HR0.out x7_1 p101 q101
        cases e101
        replace hx101_0 := (HB.out.cell (World.block_lt_of_cell? w _ hx101_0)).trans hx101_0
        replace hx101_1 := (HB.out.cell (World.block_lt_of_cell? w _ hx101_1)).trans hx101_1
        replace hx101_2 := (HB.out.cell (World.block_lt_of_cell? w _ hx101_2)).trans hx101_2
        replace p101 := eq_true p101
        replace q101 := eq_true q101
        go_wp2_with (first | ((with_reducible refine gate_dst (N := 4) rfl ?_); (try (refine gate_guard (by rfl) ?_; dsimp only)); refine box_event ?hg (N := 4) ?hd (cs := #[.int .i64 0, .string (⟨#[]⟩ : ByteArray), .string (⟨#[]⟩ : ByteArray)]) (t := 59) ?hr ?_; (case hd => rfl); (case hg => rfl); (case hr => first | (go_simp; done) | (go_simp; rfl)); intro gb102 hg w9 hbox hb; have n0_ := Aside0.mk (below_step (by repeat (first | (with_reducible first | exact HB.out | apply below_alloc | apply pw_below_drewN | apply below_drew1) | exact HB.out)) hb); have n1_ := Aside0.mk (hbox); have n2_ := Aside0.mk ((by rw [hg]; exact (below_size (by repeat (first | (with_reducible first | exact HB.out | apply below_alloc | apply pw_below_drewN | apply below_drew1) | exact HB.out))) : w.heap.size ≤ gb102)); have n3_ := Aside0.mk ((by rw [hg]; exact (below_size (by repeat (first | (with_reducible first | exact HB.out | apply below_alloc | apply pw_below_drewN | apply below_drew1) | exact HB.out))) : w.heap.size ≤ gb102)); clear HB; have HB := n0_; have BK102 := n1_; have GW102 := n2_; have GE102 := n3_; clear n0_ n1_ n2_ n3_; clear hb hbox hg; have hcz10_0 : w9.cell? ⟨gb102, 0, none⟩ = some (.int .i64 0) := (blk_cell BK102.out 0).trans rfl; have hcz10_1 : w9.cell? ⟨gb102, 1, none⟩ = some (.string (⟨#[]⟩ : ByteArray)) := (blk_cell BK102.out 1).trans rfl; have hcz10_2 : w9.cell? ⟨gb102, 2, none⟩ = some (.string (⟨#[]⟩ : ByteArray)) := (blk_cell BK102.out 2).trans rfl; have hfz10_0 := blk_frozen BK102.out 0; have hfz10_1 := blk_frozen BK102.out 1; have hfz10_2 := blk_frozen BK102.out 2))
        go_ret
        exact ⟨by first | rfl | (simp [errW_none, errW_some] <;> rfl) | (simp [*, errW_none, errW_some] <;> rfl), by repeat (first | (with_reducible first | exact HB.out | apply below_alloc | apply pw_below_drewN | apply below_drew1 | refine below_set ?_ GE102.out) | exact HB.out)⟩
       ·rw [if_neg c8] at H
        have c8b0 : decide (300 < (((rd_T59 l0 x7_1).f2).size : Int)) = false := decide_eq_false c8
        have c8b1 : decide (300 < ((rd_T59 l0 x7_1).f2).size) = false := decide_eq_false (by omega)
        clear c8
        have H' := Aside0.mk H
        clear H
        have p101 : 0 ≤ (x7_1 : Int) := of_decide_eq_true (by first | (with_reducible assumption) | assumption)
        have q101 : x7_1 < (l0.length : Int) := of_decide_eq_true (by first | (with_reducible assumption) | assumption)
        obtain ⟨ad101, e101, hx101_0, hx101_1, hx101_2⟩ := at_T59 HR0.out x7_1 p101 q101
        cases e101
        replace hx101_0 := (HB.out.cell (World.block_lt_of_cell? w _ hx101_0)).trans hx101_0
        replace hx101_1 := (HB.out.cell (World.block_lt_of_cell? w _ hx101_1)).trans hx101_1
        replace hx101_2 := (HB.out.cell (World.block_lt_of_cell? w _ hx101_2)).trans hx101_2
        replace p101 := eq_true p101
        replace q101 := eq_true q101
        go_wp2_with (first | ((with_reducible refine gate_dst (N := 4) rfl ?_); (try (refine gate_guard (by rfl) ?_; dsimp only)); refine box_event ?hg (N := 4) ?hd (cs := #[.int .i64 0, .string (⟨#[]⟩ : ByteArray), .string (⟨#[]⟩ : ByteArray)]) (t := 59) ?hr ?_; (case hd => rfl); (case hg => rfl); (case hr => first | (go_simp; done) | (go_simp; rfl)); intro gb102 hg w11 hbox hb; have n0_ := Aside0.mk (below_step (by repeat (first | (with_reducible first | exact HB.out | apply below_alloc | apply pw_below_drewN | apply below_drew1) | exact HB.out)) hb); have n1_ := Aside0.mk (hbox); have n2_ := Aside0.mk ((by rw [hg]; exact (below_size (by repeat (first | (with_reducible first | exact HB.out | apply below_alloc | apply pw_below_drewN | apply below_drew1) | exact HB.out))) : w.heap.size ≤ gb102)); have n3_ := Aside0.mk ((by rw [hg]; exact (below_size (by repeat (first | (with_reducible first | exact HB.out | apply below_alloc | apply pw_below_drewN | apply below_drew1) | exact HB.out))) : w.heap.size ≤ gb102)); clear HB; have HB := n0_; have BK102 := n1_; have GW102 := n2_; have GE102 := n3_; clear n0_ n1_ n2_ n3_; clear hb hbox hg; have hcz12_0 : w11.cell? ⟨gb102, 0, none⟩ = some (.int .i64 0) := (blk_cell BK102.out 0).trans rfl; have hcz12_1 : w11.cell? ⟨gb102, 1, none⟩ = some (.string (⟨#[]⟩ : ByteArray)) := (blk_cell BK102.out 1).trans rfl; have hcz12_2 : w11.cell? ⟨gb102, 2, none⟩ = some (.string (⟨#[]⟩ : ByteArray)) := (blk_cell BK102.out 2).trans rfl; have hfz12_0 := blk_frozen BK102.out 0; have hfz12_1 := blk_frozen BK102.out 1; have hfz12_2 := blk_frozen BK102.out 2))
        go_roundg k1
        case measure => have := HK1.out; omega
        case rel => exact ⟨(wrap64 (x7_1 + 1)), (by first | rfl | (simp; done) | (simp [*]; done)), H', ⟨by have := HK1.out; omega⟩, ⟨by repeat (first | (with_reducible first | exact HB.out | apply below_alloc | apply pw_below_drewN | apply below_drew1 | refine below_set ?_ GE102.out) | exact HB.out)⟩⟩
     ·rw [if_neg c4] at H
      exact absurd H (by simp)
    ·rw [if_neg c3] at H
     exact absurd H (by simp)
   ·rw [if_neg c2] at H
    have c2b0 : decide (x7_1 < (l0.length : Int)) = false := decide_eq_false c2
    clear c2
    obtain rfl := Option.some.inj H
    go_wp2
    go_ret
    exact ⟨by first | rfl | (simp [errW_none, errW_some] <;> rfl) | (simp [*, errW_none, errW_some] <;> rfl), by repeat (first | (with_reducible first | exact HB.out | apply below_alloc | apply pw_below_drewN | apply below_drew1) | exact HB.out)⟩
def tidepolelaw30_refs.l0 : Nat → List (S59) → List (S42) → Int → Int → Option ((List (S59)))
 | 0, _, _, _, _ => none
 | k + 1, x3, x6, x7, x8 => if x8 < x7 then (if 0 ≤ x8 then (if x8 < (x6.length : Int) then (if x3.length < 3518437208883 then (tidepolelaw30_refs.l0 k (x3 ++ [(⟨(rd_T42 x6 x8).f0, (rd_T42 x6 x8).f1, (rd_T42 x6 x8).f2⟩ : S59)]) x6 x7 (wrap64 (x8 + 1))) else (none)) else (none)) else (none)) else (some x3)
def tidepolelaw30_refs.f (k : Nat) (l0 : List (S42)) : Option ((List (S59))) := tidepolelaw30_refs.l0 k ([] : List (S59)) l0 (l0.length : Int) 0
set_option maxHeartbeats 8000000 in
set_option maxRecDepth 100000 in
theorem tidepolelaw30_refs.calls (k : Nat) (A0 : Option Addr) (c0 : Nat) (l0 : List (S42)) (r : List (S59)) (w : World) (hr0 : Kd.C k42 w A0 l0.length l0) (hc0 : l0.length ≤ c0) (h : tidepolelaw30_refs.f k l0 = some r) :
  Calls Try.prog 19 #[.slice A0 l0.length c0] w fun e w' => ∃ v0_ : Value, e = .returned (v0_) ∧ Kd.R k59 59 w' w.heap.size (fun _ => True) v0_ r ∧ Below w.heap.size w w' := by
 have hu42 := Try.underlying42
 have hu59 := Try.underlying59
 have HR0 := Aside0.mk hr0
 have HC0 := Aside0.mk hc0
 clear hr0 hc0
 have HB := Aside0.mk (Below.refl w.heap.size w)
 have H : (tidepolelaw30_refs.l0 k ([] : List (S59)) l0 (l0.length : Int) 0) = some r := h
 clear h
 have H' := Aside0.mk H
 clear H
 go_enter Try.func19, Try.ntmps19
 go_wp2
 go_loopg [3, 8] k (fun kq v3 v8 w' => ∃ (x3_1 : List (S59)) (x8_1 : Int), v8 = .int .i64 x8_1 ∧ Aside0 (tidepolelaw30_refs.l0 kq x3_1 l0 (l0.length : Int) x8_1 = some r) ∧ Aside0 (kq ≤ k) ∧ Aside0 (Kd.R k59 59 w' w.heap.size (fun _ => True) v3 x3_1) ∧ Aside0 (Below w.heap.size w w'))
 case atStart => exact ⟨(([] : List (S59))), (0), (by first | rfl | (simp; done) | (simp [*]; done)), H', ⟨Nat.le_refl _⟩, ⟨by first | exact Kd.R_nil _ _ _ _ _ | exact Kd.N_nil _ _ _ _ _ | exact Kd.V_nil _ _ _ _ _ | exact Kd.Q_nil _ _ _ _ _ | exact Kd.S_nil _ _ _ _ _⟩, ⟨by repeat (first | (with_reducible first | exact HB.out | apply below_alloc | apply pw_below_drewN | apply below_drew1) | exact HB.out)⟩⟩
 case round =>
  clear H'
  try clear c1
  obtain ⟨x3_1, x8_1, rfl, HA, HK1, HO_3, HB⟩ := hrel
  cases gk with
  | zero => exact absurd HA.out (by simp [tidepolelaw30_refs.l0])
  | succ k1 =>
   have H := HA.out
   clear HA
   simp only [tidepolelaw30_refs.l0] at H
   by_cases c2 : x8_1 < (l0.length : Int)
   ·rw [if_pos c2] at H
    have c2b0 : decide (x8_1 < (l0.length : Int)) = true := decide_eq_true c2
    clear c2
    by_cases c3 : 0 ≤ x8_1
    ·rw [if_pos c3] at H
     have c3b0 : decide (0 ≤ x8_1) = true := decide_eq_true c3
     clear c3
     by_cases c4 : x8_1 < (l0.length : Int)
     ·rw [if_pos c4] at H
      have c4b0 : decide (x8_1 < (l0.length : Int)) = true := decide_eq_true c4
      clear c4
      by_cases c5 : x3_1.length < 3518437208883
      ·rw [if_pos c5] at H
       have LMc5 := Aside0.mk c5
       clear c5
       obtain ⟨y103, hy103⟩ : ∃ y_ : List (S59), y_ = (x3_1 ++ [(⟨(rd_T42 l0 x8_1).f0, (rd_T42 l0 x8_1).f1, (rd_T42 l0 x8_1).f2⟩ : S59)]) := ⟨_, rfl⟩
       replace H : (tidepolelaw30_refs.l0 k1 y103 l0 (l0.length : Int) (wrap64 (x8_1 + 1))) = some r := by first | (rw [hy103]; with_reducible exact H) | (have H2_ := (Option.bind_some _ _).symm.trans H; rw [hy103]; with_reducible exact H2_) | (have H2_ := (Option.bind_some _ _).symm.trans H; with_reducible exact H2_) | with_reducible exact H | (rw [hy103]; exact H) | exact H
       have Ny103 := Aside0.mk hy103
       clear hy103
       have H' := Aside0.mk H
       clear H
       have p101 : 0 ≤ (x8_1 : Int) := of_decide_eq_true (by first | (with_reducible assumption) | assumption)
       have q101 : x8_1 < (l0.length : Int) := of_decide_eq_true (by first | (with_reducible assumption) | assumption)
       obtain ⟨ad101, e101, hx101_0, hx101_1, hx101_2⟩ := at_T42 HR0.out x8_1 p101 q101
       cases e101
       replace hx101_0 := (HB.out.cell (World.block_lt_of_cell? w _ hx101_0)).trans hx101_0
       replace hx101_1 := (HB.out.cell (World.block_lt_of_cell? w _ hx101_1)).trans hx101_1
       replace hx101_2 := (HB.out.cell (World.block_lt_of_cell? w _ hx101_2)).trans hx101_2
       replace p101 := eq_true p101
       replace q101 := eq_true q101
       go_wp2_with (first | ((with_reducible refine gate_dst (N := 5) rfl ?_); refine box_event ?hg (N := 5) ?hd (cs := #[.int .i64 0, .string (⟨#[]⟩ : ByteArray), .string (⟨#[]⟩ : ByteArray)]) (t := 42) ?hr ?_; (case hd => rfl); (case hg => rfl); (case hr => first | (go_simp; done) | (go_simp; rfl)); intro gb102 hg w6 hbox hb; have n0_ := Aside0.mk (Kd.R_below (by (with_reducible repeat (first | apply Kd.R_alloc | apply Kd.R_drewN | apply Kd.R_drew)); exact HO_3.out) hb); have n1_ := Aside0.mk (below_step (by repeat (first | (with_reducible first | exact HB.out | apply below_alloc | apply pw_below_drewN | apply below_drew1) | exact HB.out)) hb); have n2_ := Aside0.mk (hbox); have n3_ := Aside0.mk ((by rw [hg]; exact (below_size (by repeat (first | (with_reducible first | exact HB.out | apply below_alloc | apply pw_below_drewN | apply below_drew1) | exact HB.out))) : w.heap.size ≤ gb102)); have n4_ := Aside0.mk ((by rw [hg]; exact (below_size (by repeat (first | (with_reducible first | exact HB.out | apply below_alloc | apply pw_below_drewN | apply below_drew1) | exact HB.out))) : w.heap.size ≤ gb102)); clear HO_3; clear HB; have HO_3 := n0_; have HB := n1_; have BK102 := n2_; have GW102 := n3_; have GE102 := n4_; clear n0_ n1_ n2_ n3_ n4_; clear hb hbox hg; have hcz7_0 : w6.cell? ⟨gb102, 0, none⟩ = some (.int .i64 0) := (blk_cell BK102.out 0).trans rfl; have hcz7_1 : w6.cell? ⟨gb102, 1, none⟩ = some (.string (⟨#[]⟩ : ByteArray)) := (blk_cell BK102.out 1).trans rfl; have hcz7_2 : w6.cell? ⟨gb102, 2, none⟩ = some (.string (⟨#[]⟩ : ByteArray)) := (blk_cell BK102.out 2).trans rfl; have hfz7_0 := blk_frozen BK102.out 0; have hfz7_1 := blk_frozen BK102.out 1; have hfz7_2 := blk_frozen BK102.out 2) | ((with_reducible refine gate_builtin (b := .append) (xs := #[.tmp 12, .tmp 20]) rfl ?_); at_builtin; refine Kd.R_append k59 (w0 := w) w.heap.size rfl (.tmp 12) (.tmp 20) 23 59 (.agg #[(.int .i64 0), (.string ⟨#[]⟩), (.string ⟨#[]⟩)]) 40 rfl Try.underlying23 info59 rfl (by decide) (by omega) u3 x3_1 (⟨(rd_T42 l0 x8_1).f0, (rd_T42 l0 x8_1).f1, (rd_T42 l0 x8_1).f2⟩ : S59) [.int .i64 ((rd_T42 l0 x8_1).f0), .string ((rd_T42 l0 x8_1).f1), .string ((rd_T42 l0 x8_1).f2)] (fun _ => True) (fun _ => False) rfl (by first | (go_simp; done) | (go_simp; rfl)) ?aP (fun _ hk => hk.elim) ?aF ?aO ?aB ?aS ?aL ?_; (case aP => exact k59_mkM _ _ _ (⟨(rd_T42 l0 x8_1).f0, (rd_T42 l0 x8_1).f1, (rd_T42 l0 x8_1).f2⟩ : S59)); (case aB => exact (by repeat (first | (with_reducible first | exact HB.out | apply below_alloc | apply pw_below_drewN | apply below_drew1 | refine below_set ?_ GE102.out) | exact HB.out))); (case aF => exact (fun _ _ => trivial)); (case aO => exact (by (with_reducible repeat (first | apply Kd.R_alloc | apply Kd.R_drewN | apply Kd.R_drew)); exact Kd.R_mono (Kd.R_far (p := ⟨gb102, 2, none⟩) (Kd.R_far (p := ⟨gb102, 1, none⟩) (Kd.R_far (p := ⟨gb102, 0, none⟩) (Kd.R_types HO_3.out BK102.out (by decide)) (fun _ hk => hk.2) (.int .i64 ((rd_T42 l0 x8_1).f0))) (fun _ hk => hk.2) (.string ((rd_T42 l0 x8_1).f1))) (fun _ hk => hk.2) (.string ((rd_T42 l0 x8_1).f2))) (fun _ hk => trivial))); (case aS => exact (below_size (by repeat (first | (with_reducible first | exact HB.out | apply below_alloc | apply pw_below_drewN | apply below_drew1 | refine below_set ?_ GE102.out) | exact HB.out)))); (case aL => have := LMc5.out; omega); intro v104 w8 ho hb hg hat; rw [← Ny103.out] at ho; have n0_ := Aside0.mk (blk_grown (g := gb102) (o := .cells #[.int .i64 ((rd_T42 l0 x8_1).f0), .string ((rd_T42 l0 x8_1).f1), .string ((rd_T42 l0 x8_1).f2)] 42 (0, 0)) (by (with_reducible repeat (first | refine blk_drewN ?_ _ | refine blk_drew ?_ | refine blk_alloc ?_ _)); refine blk_put (cs := #[.int .i64 ((rd_T42 l0 x8_1).f0), .string ((rd_T42 l0 x8_1).f1), .string (⟨#[]⟩ : ByteArray)]) ?_ 2 _ rfl; (with_reducible repeat (first | refine blk_drewN ?_ _ | refine blk_drew ?_ | refine blk_alloc ?_ _)); refine blk_put (cs := #[.int .i64 ((rd_T42 l0 x8_1).f0), .string (⟨#[]⟩ : ByteArray), .string (⟨#[]⟩ : ByteArray)]) ?_ 1 _ rfl; (with_reducible repeat (first | refine blk_drewN ?_ _ | refine blk_drew ?_ | refine blk_alloc ?_ _)); refine blk_put (cs := #[.int .i64 0, .string (⟨#[]⟩ : ByteArray), .string (⟨#[]⟩ : ByteArray)]) ?_ 0 _ rfl; (with_reducible repeat (first | refine blk_drewN ?_ _ | refine blk_drew ?_ | refine blk_alloc ?_ _)); exact BK102.out) hg (Kd.R_ne HO_3.out BK102.out (by decide))); have n1_ := Aside0.mk (hb); have n2_ := Aside0.mk (ho); clear BK102; clear HB; clear HO_3; have BK102 := n0_; have HB := n1_; have HO105 := n2_; clear n0_ n1_ n2_; clear ho hb hg hat))
       go_roundg k1
       case measure => have := HK1.out; omega
       case rel => exact ⟨(y103), (wrap64 (x8_1 + 1)), (by first | rfl | (simp; done) | (simp [*]; done)), H', ⟨by have := HK1.out; omega⟩, ⟨by (with_reducible repeat (first | apply Kd.R_alloc | apply Kd.R_drewN | apply Kd.R_drew)); exact HO105.out⟩, ⟨by repeat (first | (with_reducible first | exact HB.out | apply below_alloc | apply pw_below_drewN | apply below_drew1 | refine below_set ?_ GE102.out) | exact HB.out)⟩⟩
      ·rw [if_neg c5] at H
       exact absurd H (by simp)
     ·rw [if_neg c4] at H
      exact absurd H (by simp)
    ·rw [if_neg c3] at H
     exact absurd H (by simp)
   ·rw [if_neg c2] at H
    have c2b0 : decide (x8_1 < (l0.length : Int)) = false := decide_eq_false c2
    clear c2
    obtain rfl := Option.some.inj H
    go_wp2
    go_ret
    exact ⟨_, by first | rfl | (simp [errW_none, errW_some] <;> rfl) | (simp [*, errW_none, errW_some] <;> rfl), by (with_reducible repeat (first | apply Kd.R_alloc | apply Kd.R_drewN | apply Kd.R_drew)); exact HO_3.out, by repeat (first | (with_reducible first | exact HB.out | apply below_alloc | apply pw_below_drewN | apply below_drew1) | exact HB.out)⟩
end Go.Proofs.Ytbfiacnmielajaa.P
namespace Go.Proofs.Ytbfiacnmielajaa.P
open Go.RowKit Go.Proofs.YtbfiacnmielajaaW.PrintWords Go.Proofs.YtbfiacnmielajaaW.PrintLast Go.Proofs.YtbfiacnmielajaaW.PrintMore
attribute [local go_sem] max2_int min2_int max_two min_two max_three min_three max_four min_four
set_option linter.unusedVariables false
set_option linter.unusedSimpArgs false
attribute [local go_sem high] leq_str gtr_str
def tidepoleref30_Get.l0 : Nat → List (S59) → ByteArray → Int → Option (ByteArray × Int)
 | 0, _, _, _ => none
 | k + 1, x0, x1, x6 => if x6 < (x0.length : Int) then (if 0 ≤ x6 then (if ((rd_T59 x0 x6).f1).toList = x1.toList then (some ((rd_T59 x0 x6).f2, 1)) else (tidepoleref30_Get.l0 k x0 x1 (wrap64 (x6 + 1)))) else (none)) else (some ((⟨#[]⟩ : ByteArray), 0))
def tidepoleref30_Get.f (k : Nat) (l0 : List (S59)) (a1 : ByteArray) : Option (ByteArray × Int) := tidepoleref30_Get.l0 k l0 a1 0
set_option maxHeartbeats 8000000 in
set_option maxRecDepth 100000 in
theorem tidepoleref30_Get.calls (k : Nat) (A0 : Option Addr) (c0 : Nat) (l0 : List (S59)) (a1 : ByteArray) (r1 : ByteArray) (r2 : Int) (w : World) (hr0 : Kd.C k59 w A0 l0.length l0) (hc0 : l0.length ≤ c0) (h : tidepoleref30_Get.f k l0 a1 = some (r1, r2)) :
  Calls Try.prog 21 #[.slice A0 l0.length c0, .string a1] w fun e w' => e = .returned (.tuple #[.string r1, .int .i64 r2]) ∧ Drawn0 w w' := by
 have HR0 := Aside0.mk hr0
 have HC0 := Aside0.mk hc0
 clear hr0 hc0
 have H : (tidepoleref30_Get.l0 k l0 a1 0) = some (r1, r2) := h
 clear h
 have H' := Aside0.mk H
 clear H
 go_enter Try.func21, Try.ntmps21
 go_wp2
 go_loopg [6] k (fun kq v6 w' => ∃ (x6_1 : Int), v6 = .int .i64 x6_1 ∧ Aside0 (tidepoleref30_Get.l0 kq l0 a1 x6_1 = some (r1, r2)) ∧ Aside0 (kq ≤ k) ∧ Drawn0 w w')
 case atStart => exact ⟨(0), (by first | rfl | (simp; done) | (simp [*]; done)), H', ⟨Nat.le_refl _⟩, by repeat (first | exact Drawn0.refl _ | apply Drawn0.step)⟩
 case round =>
  clear H'
  try clear c2
  try clear p2
  obtain ⟨x6_1, rfl, HA, HK1, ⟨m1, rfl⟩⟩ := hrel
  cases gk with
  | zero => exact absurd HA.out (by simp [tidepoleref30_Get.l0])
  | succ k1 =>
   have H := HA.out
   clear HA
   simp only [tidepoleref30_Get.l0] at H
   by_cases c3 : x6_1 < (l0.length : Int)
   ·rw [if_pos c3] at H
    have c3b0 : decide (x6_1 < (l0.length : Int)) = true := decide_eq_true c3
    clear c3
    by_cases c4 : 0 ≤ x6_1
    ·rw [if_pos c4] at H
     have c4b0 : decide (0 ≤ x6_1) = true := decide_eq_true c4
     clear c4
     by_cases c5 : ((rd_T59 l0 x6_1).f1).toList = a1.toList
     ·rw [if_pos c5] at H
      have c5b0 : (((rd_T59 l0 x6_1).f1).toList == a1.toList) = true := beq_iff_eq.mpr c5
      have c5b1 : (((rd_T59 l0 x6_1).f1).toList != a1.toList) = false := bne_eq_false_iff_eq.mpr c5
      clear c5
      simp only [Option.some.injEq, Prod.mk.injEq] at H
      obtain ⟨rfl, rfl⟩ := H
      have p101 : 0 ≤ (x6_1 : Int) := of_decide_eq_true (by first | (with_reducible assumption) | assumption)
      have q101 : x6_1 < (l0.length : Int) := of_decide_eq_true (by first | (with_reducible assumption) | assumption)
      obtain ⟨ad101, e101, hx101_0, hx101_1, hx101_2⟩ := at_T59 HR0.out x6_1 p101 q101
      cases e101
      replace p101 := eq_true p101
      replace q101 := eq_true q101
      have p102 : 0 ≤ (x6_1 : Int) := of_decide_eq_true (by first | (with_reducible assumption) | assumption)
      have q102 : x6_1 < (l0.length : Int) := of_decide_eq_true (by first | (with_reducible assumption) | assumption)
      obtain ⟨ad102, e102, hx102_0, hx102_1, hx102_2⟩ := at_T59 HR0.out x6_1 p102 q102
      obtain rfl : ad101 = ad102 := (by injection e102)
      replace p102 := eq_true p102
      replace q102 := eq_true q102
      go_wp2
      go_ret2
      exact ⟨by first | rfl | (simp; done) | (simp [*]; done), by repeat (first | exact Drawn0.refl _ | apply Drawn0.step)⟩
     ·rw [if_neg c5] at H
      have c5b0 : (((rd_T59 l0 x6_1).f1).toList == a1.toList) = false := beq_eq_false_iff_ne.mpr c5
      have c5b1 : (((rd_T59 l0 x6_1).f1).toList != a1.toList) = true := bne_iff_ne.mpr c5
      have H' := Aside0.mk H
      clear H
      have p101 : 0 ≤ (x6_1 : Int) := of_decide_eq_true (by first | (with_reducible assumption) | assumption)
      have q101 : x6_1 < (l0.length : Int) := of_decide_eq_true (by first | (with_reducible assumption) | assumption)
      obtain ⟨ad101, e101, hx101_0, hx101_1, hx101_2⟩ := at_T59 HR0.out x6_1 p101 q101
      cases e101
      replace p101 := eq_true p101
      replace q101 := eq_true q101
      go_wp2
      go_roundg k1
      case measure => have := HK1.out; omega
      case rel => exact ⟨(wrap64 (x6_1 + 1)), (by first | rfl | (simp; done) | (simp [*]; done)), H', ⟨by have := HK1.out; omega⟩, by repeat (first | exact Drawn0.refl _ | apply Drawn0.step)⟩
    ·rw [if_neg c4] at H
     exact absurd H (by simp)
   ·rw [if_neg c3] at H
    have c3b0 : decide (x6_1 < (l0.length : Int)) = false := decide_eq_false c3
    clear c3
    simp only [Option.some.injEq, Prod.mk.injEq] at H
    obtain ⟨rfl, rfl⟩ := H
    go_wp2
    go_ret2
    exact ⟨by first | rfl | (simp; done) | (simp [*]; done), by repeat (first | exact Drawn0.refl _ | apply Drawn0.step)⟩
def tidepoleref30_begins.f (a0 : ByteArray) (a1 : ByteArray) (a2 : Int) : Option (Bool) := if (wrap64 ((a0.size : Int) - a2)) ≥ (a1.size : Int) then (if 0 ≤ a2 then (if a2 ≤ (wrap64 (a2 + (a1.size : Int))) then (if (wrap64 (a2 + (a1.size : Int))) ≤ (a0.size : Int) then (some ((a0.extract (a2 : Int).toNat ((wrap64 (a2 + (a1.size : Int))) : Int).toNat).toList == a1.toList)) else (none)) else (none)) else (none)) else (some false)
set_option maxHeartbeats 8000000 in
set_option maxRecDepth 100000 in
theorem tidepoleref30_begins.calls (a0 : ByteArray) (a1 : ByteArray) (a2 : Int) (r : Bool) (w : World) (h : tidepoleref30_begins.f a0 a1 a2 = some r) :
  Calls Try.prog 37 #[.string a0, .string a1, .int .i64 a2] w fun e w' => e = .returned (.bool r) ∧ Drawn0 w w' := by
 have H : (if (wrap64 ((a0.size : Int) - a2)) ≥ (a1.size : Int) then (if 0 ≤ a2 then (if a2 ≤ (wrap64 (a2 + (a1.size : Int))) then (if (wrap64 (a2 + (a1.size : Int))) ≤ (a0.size : Int) then (some ((a0.extract (a2 : Int).toNat ((wrap64 (a2 + (a1.size : Int))) : Int).toNat).toList == a1.toList)) else (none)) else (none)) else (none)) else (some false)) = some r := h
 clear h
 by_cases c4 : (wrap64 ((a0.size : Int) - a2)) ≥ (a1.size : Int)
 ·rw [if_pos c4] at H
  have c4b0 : decide ((a1.size : Int) ≤ (wrap64 ((a0.size : Int) - a2))) = true := decide_eq_true c4
  clear c4
  by_cases c5 : 0 ≤ a2
  ·rw [if_pos c5] at H
   have c5b0 := eq_true c5
   have c5b1 : decide (0 ≤ a2) = true := decide_eq_true c5
   clear c5
   by_cases c6 : a2 ≤ (wrap64 (a2 + (a1.size : Int)))
   ·rw [if_pos c6] at H
    have c6b0 := eq_true c6
    have c6b1 : decide (a2 ≤ (wrap64 (a2 + (a1.size : Int)))) = true := decide_eq_true c6
    by_cases c7 : (wrap64 (a2 + (a1.size : Int))) ≤ (a0.size : Int)
    ·rw [if_pos c7] at H
     have c7b0 := eq_true c7
     have c7b1 : decide ((wrap64 (a2 + (a1.size : Int))) ≤ (a0.size : Int)) = true := decide_eq_true c7
     obtain rfl := Option.some.inj H
     go_enter Try.func37, Try.ntmps37
     go_wp2
     go_ret
     exact ⟨by first | rfl | (simp; done) | (simp [*]; done), by repeat (first | exact Drawn0.refl _ | apply Drawn0.step)⟩
    ·rw [if_neg c7] at H
     exact absurd H (by simp)
   ·rw [if_neg c6] at H
    exact absurd H (by simp)
  ·rw [if_neg c5] at H
   exact absurd H (by simp)
 ·rw [if_neg c4] at H
  have c4b0 : decide ((a1.size : Int) ≤ (wrap64 ((a0.size : Int) - a2))) = false := decide_eq_false c4
  clear c4
  obtain rfl := Option.some.inj H
  go_enter Try.func37, Try.ntmps37
  go_wp2
  go_ret
  exact ⟨by first | rfl | (simp; done) | (simp [*]; done), by repeat (first | exact Drawn0.refl _ | apply Drawn0.step)⟩
mutual
def tidepoleref30_Match.l0 : Nat → List (S59) → List (S59) → Int → Option (Bool)
 | 0, _, _, _ => none
 | k + 1, x0, x1, x5 => if x5 < (x1.length : Int) then (if 0 ≤ x5 then ((tidepoleref30_Get.f k x0 ((rd_T59 x1 x5).f1)).bind fun bt102 => (if ((rd_T59 x1 x5).f0) = 0 then (tidepoleref30_Match.j1 k x0 x1 x5 bt102.1 ((rd_T59 x1 x5).f2) (bt102.1.toList == ((rd_T59 x1 x5).f2).toList)) else (tidepoleref30_Match.j1 k x0 x1 x5 bt102.1 ((rd_T59 x1 x5).f2) false))) else (none)) else (some true)
def tidepoleref30_Match.j1 : Nat → List (S59) → List (S59) → Int → ByteArray → ByteArray → Bool → Option (Bool)
 | 0, _, _, _, _, _, _ => none
 | k + 1, x0, x1, x5, x6, x8, x9 => if 0 ≤ x5 then (if x5 < (x1.length : Int) then (if ((rd_T59 x1 x5).f0) = 1 then (tidepoleref30_Match.j2 k x0 x1 x5 x6 x8 (x6.toList != x8.toList)) else (tidepoleref30_Match.j2 k x0 x1 x5 x6 x8 x9)) else (none)) else (none)
def tidepoleref30_Match.j2 : Nat → List (S59) → List (S59) → Int → ByteArray → ByteArray → Bool → Option (Bool)
 | 0, _, _, _, _, _, _ => none
 | k + 1, x0, x1, x5, x6, x8, x9 => if 0 ≤ x5 then (if x5 < (x1.length : Int) then (if ((rd_T59 x1 x5).f0) = 2 then ((tidepoleref30_begins.f x6 x8 0).bind fun t108 => (tidepoleref30_Match.j3 k x0 x1 x5 x6 x8 t108)) else (tidepoleref30_Match.j3 k x0 x1 x5 x6 x8 x9)) else (none)) else (none)
def tidepoleref30_Match.j3 : Nat → List (S59) → List (S59) → Int → ByteArray → ByteArray → Bool → Option (Bool)
 | 0, _, _, _, _, _, _ => none
 | k + 1, x0, x1, x5, x6, x8, x9 => if 0 ≤ x5 then (if x5 < (x1.length : Int) then (if ((rd_T59 x1 x5).f0) = 3 then (tidepoleref30_Match.l1 k x0 x1 x5 x6 x8 x9 0) else (if x9 = true then (tidepoleref30_Match.l0 k x0 x1 (wrap64 (x5 + 1))) else (some false))) else (none)) else (none)
def tidepoleref30_Match.l1 : Nat → List (S59) → List (S59) → Int → ByteArray → ByteArray → Bool → Int → Option (Bool)
 | 0, _, _, _, _, _, _, _ => none
 | k + 1, x0, x1, x5, x6, x8, x9, x10 => if x10 ≤ (x6.size : Int) then (if x9 = true then (tidepoleref30_Match.l1 k x0 x1 x5 x6 x8 true (wrap64 (x10 + 1))) else ((tidepoleref30_begins.f x6 x8 x10).bind fun t110 => (tidepoleref30_Match.l1 k x0 x1 x5 x6 x8 t110 (wrap64 (x10 + 1))))) else (if x9 = true then (tidepoleref30_Match.l0 k x0 x1 (wrap64 (x5 + 1))) else (some false))
end
def tidepoleref30_Match.f (k : Nat) (l0 : List (S59)) (l1 : List (S59)) : Option (Bool) := tidepoleref30_Match.l0 k l0 l1 0
set_option maxHeartbeats 8000000 in
set_option maxRecDepth 100000 in
theorem tidepoleref30_Match.calls (k : Nat) (A0 : Option Addr) (c0 : Nat) (l0 : List (S59)) (A1 : Option Addr) (c1 : Nat) (l1 : List (S59)) (r : Bool) (w : World) (hr0 : Kd.C k59 w A0 l0.length l0) (hc0 : l0.length ≤ c0) (hr1 : Kd.C k59 w A1 l1.length l1) (hc1 : l1.length ≤ c1) (h : tidepoleref30_Match.f k l0 l1 = some r) :
  Calls Try.prog 23 #[.slice A0 l0.length c0, .slice A1 l1.length c1] w fun e w' => e = .returned (.bool r) ∧ Drawn0 w w' := by
 have HR0 := Aside0.mk hr0
 have HC0 := Aside0.mk hc0
 clear hr0 hc0
 have HR1 := Aside0.mk hr1
 have HC1 := Aside0.mk hc1
 clear hr1 hc1
 have H : (tidepoleref30_Match.l0 k l0 l1 0) = some r := h
 clear h
 have H' := Aside0.mk H
 clear H
 go_enter Try.func23, Try.ntmps23
 go_wp2
 go_loopg [5] k (fun kq v5 w' => ∃ (x5_1 : Int), v5 = .int .i64 x5_1 ∧ Aside0 (tidepoleref30_Match.l0 kq l0 l1 x5_1 = some r) ∧ Aside0 (kq ≤ k) ∧ Drawn0 w w')
 case atStart => exact ⟨(0), (by first | rfl | (simp; done) | (simp [*]; done)), H', ⟨Nat.le_refl _⟩, by repeat (first | exact Drawn0.refl _ | apply Drawn0.step)⟩
 case round =>
  clear H'
  try clear c1
  try clear c2
  try clear p2
  obtain ⟨x5_1, rfl, HA, HK1, ⟨m1, rfl⟩⟩ := hrel
  cases gk with
  | zero => exact absurd HA.out (by simp [tidepoleref30_Match.l0])
  | succ k1 =>
   have H := HA.out
   clear HA
   simp only [tidepoleref30_Match.l0] at H
   by_cases c3 : x5_1 < (l1.length : Int)
   ·rw [if_pos c3] at H
    have c3b0 : decide (x5_1 < (l1.length : Int)) = true := decide_eq_true c3
    clear c3
    by_cases c4 : 0 ≤ x5_1
    ·rw [if_pos c4] at H
     have c4b0 : decide (0 ≤ x5_1) = true := decide_eq_true c4
     clear c4
     replace H := Option.bind_eq_some_iff.mp H
     obtain ⟨⟨t102, t103⟩, A50, H⟩ := H
     replace H : (if ((rd_T59 l1 x5_1).f0) = 0 then (tidepoleref30_Match.j1 k1 l0 l1 x5_1 t102 ((rd_T59 l1 x5_1).f2) (t102.toList == ((rd_T59 l1 x5_1).f2).toList)) else (tidepoleref30_Match.j1 k1 l0 l1 x5_1 t102 ((rd_T59 l1 x5_1).f2) false)) = some r := H
     have A5 := Aside0.mk A50
     clear A50
     have HC6 := Aside0.mk H
     clear H
     have p101 : 0 ≤ (x5_1 : Int) := of_decide_eq_true (by first | (with_reducible assumption) | assumption)
     have q101 : x5_1 < (l1.length : Int) := of_decide_eq_true (by first | (with_reducible assumption) | assumption)
     obtain ⟨ad101, e101, hx101_0, hx101_1, hx101_2⟩ := at_T59 HR1.out x5_1 p101 q101
     cases e101
     replace p101 := eq_true p101
     replace q101 := eq_true q101
     go_upto_if 37 with (first | ((with_reducible refine gate_callee (f := 21) rfl ?_); refine goesL_ (some 24) rfl rfl Try.func21 (by kernel_rfl) rfl #[.slice A0 l0.length c0, .string ((rd_T59 l1 x5_1).f1)] rfl (by (try simp only [List.map_toArray, List.map_cons, List.map_nil]); first | done | rfl | (simp only [List.length_drop, List.length_take]; rfl)) ?_; (with_reducible refine (tidepoleref30_Get.calls k1 _ _ l0 ((rd_T59 l1 x5_1).f1) t102 t103 _ ?side1 ?side2 A5.out).mono ?_); (case side1 => repeat (first | exact HR0.out | (with_reducible refine Kd.C_alloc ?_ _) | (with_reducible refine Kd.C_drewN ?_ _) | (with_reducible refine Kd.C_drew ?_))); (case side2 => exact HC0.out); rintro e w' ⟨rfl, ⟨nd, rfl⟩⟩; refine ⟨_, rfl, ?_⟩; clear A5; have p104 : 0 ≤ (x5_1 : Int) := of_decide_eq_true (by first | (with_reducible assumption) | assumption); have q104 : x5_1 < (l1.length : Int) := of_decide_eq_true (by first | (with_reducible assumption) | assumption); obtain ⟨ad104, e104, hx104_0, hx104_1, hx104_2⟩ := at_T59 HR1.out x5_1 p104 q104; obtain rfl : ad101 = ad104 := (by injection e104); replace p104 := eq_true p104; replace q104 := eq_true q104; have p105 : 0 ≤ (x5_1 : Int) := of_decide_eq_true (by first | (with_reducible assumption) | assumption); have q105 : x5_1 < (l1.length : Int) := of_decide_eq_true (by first | (with_reducible assumption) | assumption); obtain ⟨ad105, e105, hx105_0, hx105_1, hx105_2⟩ := at_T59 HR1.out x5_1 p105 q105; obtain rfl : ad101 = ad105 := (by injection e105); replace p105 := eq_true p105; replace q105 := eq_true q105))
     (try simp only [Act.put, List.setIfInBounds_toArray, List.set_cons_zero, List.set_cons_succ])
     go_cut [9] (fun v9 wc => ∃ (kq : Nat) (x9_5 : Bool), v9 = .bool x9_5 ∧ Aside0 (tidepoleref30_Match.j1 kq l0 l1 x5_1 t102 ((rd_T59 l1 x5_1).f2) x9_5 = some r) ∧ Aside0 (kq ≤ k1) ∧ Drawn0 w wc)
     case first =>
      have H := HC6.out
      clear HC6
      by_cases c7 : ((rd_T59 l1 x5_1).f0) = 0
      ·rw [if_pos c7] at H
       have c7b0 : (((rd_T59 l1 x5_1).f0) == 0) = true := beq_iff_eq.mpr c7
       have c7b1 : (((rd_T59 l1 x5_1).f0) != 0) = false := bne_eq_false_iff_eq.mpr c7
       clear c7
       (first | rw [c7b0] | (simp only [i64_w, i32_w]; rw [c7b0]) | skip)
       have H' := Aside0.mk H
       clear H
       go_wp2
       go_meet
       case rel => exact ⟨_, ((t102.toList == ((rd_T59 l1 x5_1).f2).toList)), (by first | rfl | (simp; done) | (simp [*]; done)), H', ⟨by have := HK1.out; first | omega | exact Nat.le_refl _⟩, by repeat (first | exact Drawn0.refl _ | apply Drawn0.step)⟩
      ·rw [if_neg c7] at H
       have c7b0 : (((rd_T59 l1 x5_1).f0) == 0) = false := beq_eq_false_iff_ne.mpr c7
       have c7b1 : (((rd_T59 l1 x5_1).f0) != 0) = true := bne_iff_ne.mpr c7
       (first | rw [c7b0] | (simp only [i64_w, i32_w]; rw [c7b0]) | skip)
       have H' := Aside0.mk H
       clear H
       go_wp2
       go_meet
       case rel => exact ⟨_, (false), (by first | rfl | (simp; done) | (simp [*]; done)), H', ⟨by have := HK1.out; first | omega | exact Nat.le_refl _⟩, by repeat (first | exact Drawn0.refl _ | apply Drawn0.step)⟩
     case rest =>
      clear HC6
      try clear c1
      try clear p1
      try clear q1
      try clear hx1
      try clear c2
      try clear p2
      try clear c3
      try clear c3b0
      try clear c4
      try clear c4b0
      try clear c7
      try clear c7b0
      try clear c7b1
      try clear hx101_0
      try clear hx101_1
      try clear hx101_2
      try clear hx104_0
      try clear hx104_1
      try clear hx104_2
      try clear hx105_0
      try clear hx105_1
      try clear hx105_2
      try clear p101
      try clear p104
      try clear p105
      try clear p2
      try clear q101
      try clear q104
      try clear q105
      obtain ⟨kq, x9_5, rfl, HA, HJ5, ⟨mc5, rfl⟩⟩ := hcut
      cases kq with
      | zero => exact absurd HA.out (by simp [tidepoleref30_Match.j1])
      | succ kj5 =>
       have H := HA.out
       clear HA
       simp only [tidepoleref30_Match.j1] at H
       by_cases c8 : 0 ≤ x5_1
       ·rw [if_pos c8] at H
        have c8b0 : decide (0 ≤ x5_1) = true := decide_eq_true c8
        clear c8
        by_cases c9 : x5_1 < (l1.length : Int)
        ·rw [if_pos c9] at H
         have c9b0 : decide (x5_1 < (l1.length : Int)) = true := decide_eq_true c9
         clear c9
         have HC10 := Aside0.mk H
         clear H
         have p106 : 0 ≤ (x5_1 : Int) := of_decide_eq_true (by first | (with_reducible assumption) | assumption)
         have q106 : x5_1 < (l1.length : Int) := of_decide_eq_true (by first | (with_reducible assumption) | assumption)
         obtain ⟨ad106, e106, hx106_0, hx106_1, hx106_2⟩ := at_T59 HR1.out x5_1 p106 q106
         obtain rfl : ad101 = ad106 := (by injection e106)
         replace p106 := eq_true p106
         replace q106 := eq_true q106
         go_upto_if 46 with (fail)
         go_cut [9] (fun v9 wc => ∃ (kq : Nat) (x9_9 : Bool), v9 = .bool x9_9 ∧ Aside0 (tidepoleref30_Match.j2 kq l0 l1 x5_1 t102 ((rd_T59 l1 x5_1).f2) x9_9 = some r) ∧ Aside0 (kq ≤ kj5) ∧ Drawn0 w wc)
         case first =>
          have H := HC10.out
          clear HC10
          by_cases c11 : ((rd_T59 l1 x5_1).f0) = 1
          ·rw [if_pos c11] at H
           have c11b0 : (((rd_T59 l1 x5_1).f0) == 1) = true := beq_iff_eq.mpr c11
           have c11b1 : (((rd_T59 l1 x5_1).f0) != 1) = false := bne_eq_false_iff_eq.mpr c11
           clear c11
           (first | rw [c11b0] | (simp only [i64_w, i32_w]; rw [c11b0]) | skip)
           have H' := Aside0.mk H
           clear H
           go_wp2
           go_meet
           case rel => exact ⟨_, ((t102.toList != ((rd_T59 l1 x5_1).f2).toList)), (by first | rfl | (simp; done) | (simp [*]; done)), H', ⟨by have := HK1.out; have := HJ5.out; first | omega | exact Nat.le_refl _⟩, by repeat (first | exact Drawn0.refl _ | apply Drawn0.step)⟩
          ·rw [if_neg c11] at H
           have c11b0 : (((rd_T59 l1 x5_1).f0) == 1) = false := beq_eq_false_iff_ne.mpr c11
           have c11b1 : (((rd_T59 l1 x5_1).f0) != 1) = true := bne_iff_ne.mpr c11
           (first | rw [c11b0] | (simp only [i64_w, i32_w]; rw [c11b0]) | skip)
           have H' := Aside0.mk H
           clear H
           go_wp2
           go_meet
           case rel => exact ⟨_, (x9_5), (by first | rfl | (simp; done) | (simp [*]; done)), H', ⟨by have := HK1.out; have := HJ5.out; first | omega | exact Nat.le_refl _⟩, by repeat (first | exact Drawn0.refl _ | apply Drawn0.step)⟩
         case rest =>
          clear HC10
          try clear c1
          try clear p1
          try clear q1
          try clear hx1
          try clear c2
          try clear p2
          try clear c3
          try clear c3b0
          try clear c4
          try clear c4b0
          try clear c5
          try clear c7
          try clear c7b0
          try clear c7b1
          try clear c8
          try clear c8b0
          try clear c9
          try clear c9b0
          try clear p10
          try clear q10
          try clear hx10
          try clear c11
          try clear c11b0
          try clear c11b1
          try clear hx101_0
          try clear hx101_1
          try clear hx101_2
          try clear hx104_0
          try clear hx104_1
          try clear hx104_2
          try clear hx105_0
          try clear hx105_1
          try clear hx105_2
          try clear hx106_0
          try clear hx106_1
          try clear hx106_2
          try clear p1
          try clear p101
          try clear p104
          try clear p105
          try clear p106
          try clear p2
          try clear q1
          try clear q101
          try clear q104
          try clear q105
          try clear q106
          obtain ⟨kq, x9_9, rfl, HA, HJ9, ⟨mc9, rfl⟩⟩ := hcut
          cases kq with
          | zero => exact absurd HA.out (by simp [tidepoleref30_Match.j2])
          | succ kj9 =>
           have H := HA.out
           clear HA
           simp only [tidepoleref30_Match.j2] at H
           by_cases c12 : 0 ≤ x5_1
           ·rw [if_pos c12] at H
            have c12b0 : decide (0 ≤ x5_1) = true := decide_eq_true c12
            clear c12
            by_cases c13 : x5_1 < (l1.length : Int)
            ·rw [if_pos c13] at H
             have c13b0 : decide (x5_1 < (l1.length : Int)) = true := decide_eq_true c13
             clear c13
             have HC14 := Aside0.mk H
             clear H
             have p107 : 0 ≤ (x5_1 : Int) := of_decide_eq_true (by first | (with_reducible assumption) | assumption)
             have q107 : x5_1 < (l1.length : Int) := of_decide_eq_true (by first | (with_reducible assumption) | assumption)
             obtain ⟨ad107, e107, hx107_0, hx107_1, hx107_2⟩ := at_T59 HR1.out x5_1 p107 q107
             obtain rfl : ad101 = ad107 := (by injection e107)
             replace p107 := eq_true p107
             replace q107 := eq_true q107
             go_upto_if 55 with (fail)
             go_cut [9] (fun v9 wc => ∃ (kq : Nat) (x9_13 : Bool), v9 = .bool x9_13 ∧ Aside0 (tidepoleref30_Match.j3 kq l0 l1 x5_1 t102 ((rd_T59 l1 x5_1).f2) x9_13 = some r) ∧ Aside0 (kq ≤ kj9) ∧ Drawn0 w wc)
             case first =>
              have H := HC14.out
              clear HC14
              by_cases c15 : ((rd_T59 l1 x5_1).f0) = 2
              ·rw [if_pos c15] at H
               have c15b0 : (((rd_T59 l1 x5_1).f0) == 2) = true := beq_iff_eq.mpr c15
               have c15b1 : (((rd_T59 l1 x5_1).f0) != 2) = false := bne_eq_false_iff_eq.mpr c15
               clear c15
               (first | rw [c15b0] | (simp only [i64_w, i32_w]; rw [c15b0]) | skip)
               replace H := Option.bind_eq_some_iff.mp H
               obtain ⟨t108, A160, H⟩ := H
               replace H : (tidepoleref30_Match.j3 kj9 l0 l1 x5_1 t102 ((rd_T59 l1 x5_1).f2) t108) = some r := H
               have A16 := Aside0.mk A160
               clear A160
               have H' := Aside0.mk H
               clear H
               go_wp2_with (first | ((with_reducible refine gate_callee (f := 37) rfl ?_); refine goesL_ (some 58) rfl rfl Try.func37 (by kernel_rfl) rfl #[.string t102, .string ((rd_T59 l1 x5_1).f2), .int .i64 0] rfl (by (try simp only [List.map_toArray, List.map_cons, List.map_nil]); first | done | rfl | (simp only [List.length_drop, List.length_take]; rfl)) ?_; (with_reducible refine (tidepoleref30_begins.calls t102 ((rd_T59 l1 x5_1).f2) 0 t108 _ A16.out).mono ?_); rintro e w' ⟨rfl, ⟨nd, rfl⟩⟩; refine ⟨_, rfl, ?_⟩; clear A16))
               go_meet
               case rel => exact ⟨_, (t108), (by first | rfl | (simp; done) | (simp [*]; done)), H', ⟨by have := HK1.out; have := HJ5.out; have := HJ9.out; first | omega | exact Nat.le_refl _⟩, by repeat (first | exact Drawn0.refl _ | apply Drawn0.step)⟩
              ·rw [if_neg c15] at H
               have c15b0 : (((rd_T59 l1 x5_1).f0) == 2) = false := beq_eq_false_iff_ne.mpr c15
               have c15b1 : (((rd_T59 l1 x5_1).f0) != 2) = true := bne_iff_ne.mpr c15
               (first | rw [c15b0] | (simp only [i64_w, i32_w]; rw [c15b0]) | skip)
               have H' := Aside0.mk H
               clear H
               go_wp2
               go_meet
               case rel => exact ⟨_, (x9_9), (by first | rfl | (simp; done) | (simp [*]; done)), H', ⟨by have := HK1.out; have := HJ5.out; have := HJ9.out; first | omega | exact Nat.le_refl _⟩, by repeat (first | exact Drawn0.refl _ | apply Drawn0.step)⟩
             case rest =>
              clear HC14
              try clear c1
              try clear p1
              try clear q1
              try clear hx1
              try clear c2
              try clear p2
              try clear c3
              try clear c3b0
              try clear c4
              try clear c4b0
              try clear c5
              try clear c7
              try clear c7b0
              try clear c7b1
              try clear c8
              try clear c8b0
              try clear c9
              try clear c9b0
              try clear p10
              try clear q10
              try clear hx10
              try clear c11
              try clear c11b0
              try clear c11b1
              try clear c12
              try clear c12b0
              try clear c13
              try clear c13b0
              try clear c15
              try clear c15b0
              try clear c15b1
              try clear hx101_0
              try clear hx101_1
              try clear hx101_2
              try clear hx104_0
              try clear hx104_1
              try clear hx104_2
              try clear hx105_0
              try clear hx105_1
              try clear hx105_2
              try clear hx106_0
              try clear hx106_1
              try clear hx106_2
              try clear hx107_0
              try clear hx107_1
              try clear hx107_2
              try clear p1
              try clear p10
              try clear p101
              try clear p104
              try clear p105
              try clear p106
              try clear p107
              try clear p2
              try clear q1
              try clear q10
              try clear q101
              try clear q104
              try clear q105
              try clear q106
              try clear q107
              obtain ⟨kq, x9_13, rfl, HA, HJ13, ⟨mc13, rfl⟩⟩ := hcut
              cases kq with
              | zero => exact absurd HA.out (by simp [tidepoleref30_Match.j3])
              | succ kj13 =>
               have H := HA.out
               clear HA
               simp only [tidepoleref30_Match.j3] at H
               by_cases c17 : 0 ≤ x5_1
               ·rw [if_pos c17] at H
                have c17b0 : decide (0 ≤ x5_1) = true := decide_eq_true c17
                clear c17
                by_cases c18 : x5_1 < (l1.length : Int)
                ·rw [if_pos c18] at H
                 have c18b0 : decide (x5_1 < (l1.length : Int)) = true := decide_eq_true c18
                 clear c18
                 by_cases c19 : ((rd_T59 l1 x5_1).f0) = 3
                 ·rw [if_pos c19] at H
                  have c19b0 : (((rd_T59 l1 x5_1).f0) == 3) = true := beq_iff_eq.mpr c19
                  have c19b1 : (((rd_T59 l1 x5_1).f0) != 3) = false := bne_eq_false_iff_eq.mpr c19
                  clear c19
                  have H' := Aside0.mk H
                  clear H
                  have p109 : 0 ≤ (x5_1 : Int) := of_decide_eq_true (by first | (with_reducible assumption) | assumption)
                  have q109 : x5_1 < (l1.length : Int) := of_decide_eq_true (by first | (with_reducible assumption) | assumption)
                  obtain ⟨ad109, e109, hx109_0, hx109_1, hx109_2⟩ := at_T59 HR1.out x5_1 p109 q109
                  obtain rfl : ad101 = ad109 := (by injection e109)
                  replace p109 := eq_true p109
                  replace q109 := eq_true q109
                  go_wp2
                  go_loopg [9, 10] kj13 (fun kq v9 v10 w' => ∃ (x9_5 : Bool) (x10_5 : Int), v9 = .bool x9_5 ∧ v10 = .int .i64 x10_5 ∧ Aside0 (tidepoleref30_Match.l1 kq l0 l1 x5_1 t102 ((rd_T59 l1 x5_1).f2) x9_5 x10_5 = some r) ∧ Aside0 (kq ≤ kj13) ∧ Drawn0 w w')
                  case atStart => exact ⟨(x9_13), (0), (by first | rfl | (simp; done) | (simp [*]; done)), (by first | rfl | (simp; done) | (simp [*]; done)), H', ⟨Nat.le_refl _⟩, by repeat (first | exact Drawn0.refl _ | apply Drawn0.step)⟩
                  case round =>
                   clear H'
                   try clear c1
                   try clear p1
                   try clear q1
                   try clear hx1
                   try clear c2
                   try clear p2
                   try clear c3
                   try clear c3b0
                   try clear c4
                   try clear c4b0
                   try clear c5
                   try clear c7
                   try clear c7b0
                   try clear c7b1
                   try clear c8
                   try clear c8b0
                   try clear c9
                   try clear c9b0
                   try clear p10
                   try clear q10
                   try clear hx10
                   try clear c11
                   try clear c11b0
                   try clear c11b1
                   try clear c12
                   try clear c12b0
                   try clear c13
                   try clear c13b0
                   try clear c15
                   try clear c15b0
                   try clear c15b1
                   try clear c17
                   try clear c17b0
                   try clear c18
                   try clear c18b0
                   try clear c19
                   try clear c19b0
                   try clear c19b1
                   try clear hx101_0
                   try clear hx101_1
                   try clear hx101_2
                   try clear hx104_0
                   try clear hx104_1
                   try clear hx104_2
                   try clear hx105_0
                   try clear hx105_1
                   try clear hx105_2
                   try clear hx106_0
                   try clear hx106_1
                   try clear hx106_2
                   try clear hx107_0
                   try clear hx107_1
                   try clear hx107_2
                   try clear hx109_0
                   try clear hx109_1
                   try clear hx109_2
                   try clear p1
                   try clear p10
                   try clear p101
                   try clear p104
                   try clear p105
                   try clear p106
                   try clear p107
                   try clear p109
                   try clear p2
                   try clear q1
                   try clear q10
                   try clear q101
                   try clear q104
                   try clear q105
                   try clear q106
                   try clear q107
                   try clear q109
                   obtain ⟨x9_5, x10_5, rfl, rfl, HA, HK5, ⟨m5, rfl⟩⟩ := hrel
                   cases gk with
                   | zero => exact absurd HA.out (by simp [tidepoleref30_Match.l1])
                   | succ k5 =>
                    have H := HA.out
                    clear HA
                    simp only [tidepoleref30_Match.l1] at H
                    by_cases c20 : x10_5 ≤ (t102.size : Int)
                    ·rw [if_pos c20] at H
                     have c20b0 : decide (x10_5 ≤ (t102.size : Int)) = true := decide_eq_true c20
                     clear c20
                     by_cases c21 : x9_5 = true
                     ·subst c21
                      have H1 : (tidepoleref30_Match.l1 k5 l0 l1 x5_1 t102 ((rd_T59 l1 x5_1).f2) true (wrap64 (x10_5 + 1))) = some r := by rw [if_pos rfl] at H; exact H
                      clear H
                      have H := H1
                      clear H1
                      have H' := Aside0.mk H
                      clear H
                      go_wp2
                      go_roundg k5
                      case measure => have := HK1.out; have := HJ5.out; have := HJ9.out; have := HJ13.out; have := HK5.out; omega
                      case rel => exact ⟨(true), (wrap64 (x10_5 + 1)), (by first | rfl | (simp; done) | (simp [*]; done)), (by first | rfl | (simp; done) | (simp [*]; done)), H', ⟨by have := HK1.out; have := HJ5.out; have := HJ9.out; have := HJ13.out; have := HK5.out; omega⟩, by repeat (first | exact Drawn0.refl _ | apply Drawn0.step)⟩
                     ·replace c21 := Bool.eq_false_iff.mpr c21
                      subst c21
                      have H1 : ((tidepoleref30_begins.f t102 ((rd_T59 l1 x5_1).f2) x10_5).bind fun t110 => (tidepoleref30_Match.l1 k5 l0 l1 x5_1 t102 ((rd_T59 l1 x5_1).f2) t110 (wrap64 (x10_5 + 1)))) = some r := by rw [if_neg (show ¬ (false = true) by decide)] at H; exact H
                      clear H
                      have H := H1
                      clear H1
                      replace H := Option.bind_eq_some_iff.mp H
                      obtain ⟨t110, A220, H⟩ := H
                      replace H : (tidepoleref30_Match.l1 k5 l0 l1 x5_1 t102 ((rd_T59 l1 x5_1).f2) t110 (wrap64 (x10_5 + 1))) = some r := H
                      have A22 := Aside0.mk A220
                      clear A220
                      have H' := Aside0.mk H
                      clear H
                      go_wp2_with (first | (go_at_call 37; (with_reducible refine (tidepoleref30_begins.calls t102 ((rd_T59 l1 x5_1).f2) x10_5 t110 _ A22.out).mono ?_); rintro e w' ⟨rfl, ⟨nd, rfl⟩⟩; clear A22))
                      go_roundg k5
                      case measure => have := HK1.out; have := HJ5.out; have := HJ9.out; have := HJ13.out; have := HK5.out; omega
                      case rel => exact ⟨(t110), (wrap64 (x10_5 + 1)), (by first | rfl | (simp; done) | (simp [*]; done)), (by first | rfl | (simp; done) | (simp [*]; done)), H', ⟨by have := HK1.out; have := HJ5.out; have := HJ9.out; have := HJ13.out; have := HK5.out; omega⟩, by repeat (first | exact Drawn0.refl _ | apply Drawn0.step)⟩
                    ·rw [if_neg c20] at H
                     have c20b0 : decide (x10_5 ≤ (t102.size : Int)) = false := decide_eq_false c20
                     clear c20
                     by_cases c23 : x9_5 = true
                     ·subst c23
                      have H1 : (tidepoleref30_Match.l0 k5 l0 l1 (wrap64 (x5_1 + 1))) = some r := by rw [if_pos rfl] at H; exact H
                      clear H
                      have H := H1
                      clear H1
                      have H' := Aside0.mk H
                      clear H
                      go_wp2
                      go_roundg k5
                      case measure => have := HK1.out; have := HJ5.out; have := HJ9.out; have := HJ13.out; have := HK5.out; omega
                      case rel => exact ⟨(wrap64 (x5_1 + 1)), (by first | rfl | (simp; done) | (simp [*]; done)), H', ⟨by have := HK1.out; have := HJ5.out; have := HJ9.out; have := HJ13.out; have := HK5.out; omega⟩, by repeat (first | exact Drawn0.refl _ | apply Drawn0.step)⟩
                     ·replace c23 := Bool.eq_false_iff.mpr c23
                      subst c23
                      have H1 : (some false) = some r := by rw [if_neg (show ¬ (false = true) by decide)] at H; exact H
                      clear H
                      have H := H1
                      clear H1
                      obtain rfl := Option.some.inj H
                      go_wp2
                      go_ret
                      exact ⟨by first | rfl | (simp; done) | (simp [*]; done), by repeat (first | exact Drawn0.refl _ | apply Drawn0.step)⟩
                 ·rw [if_neg c19] at H
                  have c19b0 : (((rd_T59 l1 x5_1).f0) == 3) = false := beq_eq_false_iff_ne.mpr c19
                  have c19b1 : (((rd_T59 l1 x5_1).f0) != 3) = true := bne_iff_ne.mpr c19
                  by_cases c24 : x9_13 = true
                  ·subst c24
                   have H1 : (tidepoleref30_Match.l0 kj13 l0 l1 (wrap64 (x5_1 + 1))) = some r := by rw [if_pos rfl] at H; exact H
                   clear H
                   have H := H1
                   clear H1
                   have H' := Aside0.mk H
                   clear H
                   have p109 : 0 ≤ (x5_1 : Int) := of_decide_eq_true (by first | (with_reducible assumption) | assumption)
                   have q109 : x5_1 < (l1.length : Int) := of_decide_eq_true (by first | (with_reducible assumption) | assumption)
                   obtain ⟨ad109, e109, hx109_0, hx109_1, hx109_2⟩ := at_T59 HR1.out x5_1 p109 q109
                   obtain rfl : ad101 = ad109 := (by injection e109)
                   replace p109 := eq_true p109
                   replace q109 := eq_true q109
                   go_wp2
                   go_roundg kj13
                   case measure => have := HK1.out; have := HJ5.out; have := HJ9.out; have := HJ13.out; omega
                   case rel => exact ⟨(wrap64 (x5_1 + 1)), (by first | rfl | (simp; done) | (simp [*]; done)), H', ⟨by have := HK1.out; have := HJ5.out; have := HJ9.out; have := HJ13.out; omega⟩, by repeat (first | exact Drawn0.refl _ | apply Drawn0.step)⟩
                  ·replace c24 := Bool.eq_false_iff.mpr c24
                   subst c24
                   have H1 : (some false) = some r := by rw [if_neg (show ¬ (false = true) by decide)] at H; exact H
                   clear H
                   have H := H1
                   clear H1
                   obtain rfl := Option.some.inj H
                   have p109 : 0 ≤ (x5_1 : Int) := of_decide_eq_true (by first | (with_reducible assumption) | assumption)
                   have q109 : x5_1 < (l1.length : Int) := of_decide_eq_true (by first | (with_reducible assumption) | assumption)
                   obtain ⟨ad109, e109, hx109_0, hx109_1, hx109_2⟩ := at_T59 HR1.out x5_1 p109 q109
                   obtain rfl : ad101 = ad109 := (by injection e109)
                   replace p109 := eq_true p109
                   replace q109 := eq_true q109
                   go_wp2
                   go_ret
                   exact ⟨by first | rfl | (simp; done) | (simp [*]; done), by repeat (first | exact Drawn0.refl _ | apply Drawn0.step)⟩
                ·rw [if_neg c18] at H
                 exact absurd H (by simp)
               ·rw [if_neg c17] at H
                exact absurd H (by simp)
            ·rw [if_neg c13] at H
             exact absurd H (by simp)
           ·rw [if_neg c12] at H
            exact absurd H (by simp)
        ·rw [if_neg c9] at H
         exact absurd H (by simp)
       ·rw [if_neg c8] at H
        exact absurd H (by simp)
    ·rw [if_neg c4] at H
     exact absurd H (by simp)
   ·rw [if_neg c3] at H
    have c3b0 : decide (x5_1 < (l1.length : Int)) = false := decide_eq_false c3
    clear c3
    obtain rfl := Option.some.inj H
    go_wp2
    go_ret
    exact ⟨by first | rfl | (simp; done) | (simp [*]; done), by repeat (first | exact Drawn0.refl _ | apply Drawn0.step)⟩
end Go.Proofs.Ytbfiacnmielajaa.P
namespace Go.Proofs.Ytbfiacnmielajaa.P
open Go.RowKit Go.Proofs.YtbfiacnmielajaaW.PrintWords Go.Proofs.YtbfiacnmielajaaW.PrintLast Go.Proofs.YtbfiacnmielajaaW.PrintMore
attribute [local go_sem] max2_int min2_int max_two min_two max_three min_three max_four min_four
set_option linter.unusedVariables false
set_option linter.unusedSimpArgs false
attribute [local go_sem high] leq_str gtr_str
def tidepolelaw30_LabelsMatches.j0 : Nat → List (S58) → List (S42) → ByteArray → List (S59) → List (S59) → Bool → Option (Bool)
 | 0, _, _, _, _, _, _ => none
 | k + 1, x0, x1, x2, x7, x8, x29 => if x29 = true then ((tidepolelaw30_awake.f).bind fun t109 => (some t109)) else ((labels_Get.f k x0 x2).bind fun bt110 => ((tidepoleref30_Get.f k x7 x2).bind fun bt112 => (if bt110.1.toList = bt112.1.toList then (if (bt110.2 == (bt112.2 == 1)) = true then ((labels_MatchG.f x0 x1).bind fun t114 => ((tidepoleref30_Match.f k x7 x8).bind fun t115 => (if (t114 == t115) = true then ((tidepolelaw30_awake.f).bind fun t116 => (some t116)) else (some false)))) else (some false)) else (some false))))
def tidepolelaw30_LabelsMatches.f (k : Nat) (l0 : List (S58)) (l1 : List (S42)) (a2 : ByteArray) : Option (Bool) := (tidepolelaw30_ref.f k l0).bind fun t101 => ((tidepolelaw30_refs.f k l1).bind fun t104 => ((tidepolelaw30_small.f k t101).bind fun t107 => (if t107 = true then ((tidepolelaw30_small.f k t104).bind fun t108 => (if t108 = true then (tidepolelaw30_LabelsMatches.j0 k l0 l1 a2 t101 t104 (decide ((a2.size : Int) > 100))) else (tidepolelaw30_LabelsMatches.j0 k l0 l1 a2 t101 t104 true))) else (tidepolelaw30_LabelsMatches.j0 k l0 l1 a2 t101 t104 true))))
set_option maxHeartbeats 8000000 in
set_option maxRecDepth 100000 in
theorem tidepolelaw30_LabelsMatches.calls (k : Nat) (A0 : Option Addr) (c0 : Nat) (l0 : List (S58)) (A1 : Option Addr) (c1 : Nat) (l1 : List (S42)) (a2 : ByteArray) (r : Bool) (w : World) (hg : GMax w) (hr0 : Kd.C k58 w A0 l0.length l0) (hc0 : l0.length ≤ c0) (hr1 : Kd.C k42 w A1 l1.length l1) (hc1 : l1.length ≤ c1) (h : tidepolelaw30_LabelsMatches.f k l0 l1 a2 = some r) :
  Calls Try.prog 5 #[.slice A0 l0.length c0, .slice A1 l1.length c1, .string a2] w fun e w' => e = .returned (.bool r) ∧ Below w.heap.size w w' := by
 have HG_ := Aside0.mk hg
 clear hg
 have HR0 := Aside0.mk hr0
 have HC0 := Aside0.mk hc0
 clear hr0 hc0
 have HR1 := Aside0.mk hr1
 have HC1 := Aside0.mk hc1
 clear hr1 hc1
 have HB := Aside0.mk (Below.refl w.heap.size w)
 have H : ((tidepolelaw30_ref.f k l0).bind fun t101 => ((tidepolelaw30_refs.f k l1).bind fun t104 => ((tidepolelaw30_small.f k t101).bind fun t107 => (if t107 = true then ((tidepolelaw30_small.f k t104).bind fun t108 => (if t108 = true then (tidepolelaw30_LabelsMatches.j0 k l0 l1 a2 t101 t104 (decide ((a2.size : Int) > 100))) else (tidepolelaw30_LabelsMatches.j0 k l0 l1 a2 t101 t104 true))) else (tidepolelaw30_LabelsMatches.j0 k l0 l1 a2 t101 t104 true))))) = some r := h
 clear h
 replace H := Option.bind_eq_some_iff.mp H
 obtain ⟨t101, A40, H⟩ := H
 replace H : ((tidepolelaw30_refs.f k l1).bind fun t104 => ((tidepolelaw30_small.f k t101).bind fun t107 => (if t107 = true then ((tidepolelaw30_small.f k t104).bind fun t108 => (if t108 = true then (tidepolelaw30_LabelsMatches.j0 k l0 l1 a2 t101 t104 (decide ((a2.size : Int) > 100))) else (tidepolelaw30_LabelsMatches.j0 k l0 l1 a2 t101 t104 true))) else (tidepolelaw30_LabelsMatches.j0 k l0 l1 a2 t101 t104 true)))) = some r := H
 have A4 := Aside0.mk A40
 clear A40
 replace H := Option.bind_eq_some_iff.mp H
 obtain ⟨t104, A50, H⟩ := H
 replace H : ((tidepolelaw30_small.f k t101).bind fun t107 => (if t107 = true then ((tidepolelaw30_small.f k t104).bind fun t108 => (if t108 = true then (tidepolelaw30_LabelsMatches.j0 k l0 l1 a2 t101 t104 (decide ((a2.size : Int) > 100))) else (tidepolelaw30_LabelsMatches.j0 k l0 l1 a2 t101 t104 true))) else (tidepolelaw30_LabelsMatches.j0 k l0 l1 a2 t101 t104 true))) = some r := H
 have A5 := Aside0.mk A50
 clear A50
 have HC6 := Aside0.mk H
 clear H
 go_enter Try.func5, Try.ntmps5
 go_upto_region 2 with (first | ((with_reducible refine gate_callee (f := 9) rfl ?_); refine goesL_ (some 14) rfl rfl Try.func9 (by kernel_rfl) rfl #[.slice A0 l0.length c0] rfl (by (try simp only [List.map_toArray, List.map_cons, List.map_nil]); first | done | rfl | (simp only [List.length_drop, List.length_take]; rfl)) ?_; (with_reducible refine (tidepolelaw30_ref.calls k _ _ l0 t101 _ ?side1 ?side2 A4.out).mono ?_); (case side1 => repeat (first | exact HR0.out | (with_reducible refine Kd.C_alloc ?_ _) | (with_reducible refine Kd.C_drewN ?_ _) | (with_reducible refine Kd.C_drew ?_))); (case side2 => exact HC0.out); rintro e w7 ⟨v102, rfl, ho0, hb⟩; refine ⟨_, rfl, ?_⟩; have n0_ := Aside0.mk (Kd.R_lower ho0 (below_size (by repeat (first | (with_reducible first | exact HB.out | apply below_alloc | apply pw_below_drewN | apply below_drew1) | exact HB.out)))); have n1_ := Aside0.mk (below_step (by repeat (first | (with_reducible first | exact HB.out | apply below_alloc | apply pw_below_drewN | apply below_drew1) | exact HB.out)) hb); clear HB; have HO103 := n0_; have HB := n1_; clear n0_ n1_; (try clear hb); (try clear hb2); (try clear hk); (try clear hi); (try clear ho0); clear A4) | ((with_reducible refine gate_callee (f := 19) rfl ?_); refine goesL_ (some 16) rfl rfl Try.func19 (by kernel_rfl) rfl #[.slice A1 l1.length c1] rfl (by (try simp only [List.map_toArray, List.map_cons, List.map_nil]); first | done | rfl | (simp only [List.length_drop, List.length_take]; rfl)) ?_; (with_reducible refine (tidepolelaw30_refs.calls k _ _ l1 t104 _ ?side1 ?side2 A5.out).mono ?_); (case side1 => repeat (first | exact (Kd.C_below HR1.out HB.out) | (with_reducible refine Kd.C_alloc ?_ _) | (with_reducible refine Kd.C_drewN ?_ _) | (with_reducible refine Kd.C_drew ?_))); (case side2 => exact HC1.out); rintro e w8 ⟨v105, rfl, ho0, hb⟩; refine ⟨_, rfl, ?_⟩; have n0_ := Aside0.mk (Kd.R_elder' (by (with_reducible repeat (first | apply Kd.R_alloc | apply Kd.R_drewN | apply Kd.R_drew)); exact HO103.out) (Kd.R_base ho0) hb); have n1_ := Aside0.mk (Kd.R_lower (Kd.R_new' ho0 (Kd.R_lt (by (with_reducible repeat (first | apply Kd.R_alloc | apply Kd.R_drewN | apply Kd.R_drew)); exact HO103.out))) (below_size (by repeat (first | (with_reducible first | exact HB.out | apply below_alloc | apply pw_below_drewN | apply below_drew1) | exact HB.out)))); have n2_ := Aside0.mk (below_step (by repeat (first | (with_reducible first | exact HB.out | apply below_alloc | apply pw_below_drewN | apply below_drew1) | exact HB.out)) hb); clear HO103; clear HB; have HO103 := n0_; have HO106 := n1_; have HB := n2_; clear n0_ n1_ n2_; (try clear hb); (try clear hb2); (try clear hk); (try clear hi); (try clear ho0); clear A5))
 (try simp only [Act.put, List.setIfInBounds_toArray, List.set_cons_zero, List.set_cons_succ])
 go_cut [29] (fun v29 wc => ∃ (kq : Nat) (x29_5 : Bool), v29 = .bool x29_5 ∧ Aside0 (tidepolelaw30_LabelsMatches.j0 kq l0 l1 a2 t101 t104 x29_5 = some r) ∧ Aside0 (kq ≤ k) ∧ Aside0 (Kd.R k59 59 wc w.heap.size (fun k_ => some k_ ≠ (v105 : Value).ownBlock) v102 t101) ∧ Aside0 (Kd.R k59 59 wc w.heap.size (fun k_ => some k_ ≠ (v102 : Value).ownBlock) v105 t104) ∧ Aside0 (Below w.heap.size w wc))
 case first =>
  have H := HC6.out
  clear HC6
  replace H := Option.bind_eq_some_iff.mp H
  obtain ⟨t107, A90, H⟩ := H
  replace H : (if t107 = true then ((tidepolelaw30_small.f k t104).bind fun t108 => (if t108 = true then (tidepolelaw30_LabelsMatches.j0 k l0 l1 a2 t101 t104 (decide ((a2.size : Int) > 100))) else (tidepolelaw30_LabelsMatches.j0 k l0 l1 a2 t101 t104 true))) else (tidepolelaw30_LabelsMatches.j0 k l0 l1 a2 t101 t104 true)) = some r := H
  have A9 := Aside0.mk A90
  clear A90
  by_cases c10 : t107 = true
  ·subst c10
   have H1 : ((tidepolelaw30_small.f k t104).bind fun t108 => (if t108 = true then (tidepolelaw30_LabelsMatches.j0 k l0 l1 a2 t101 t104 (decide ((a2.size : Int) > 100))) else (tidepolelaw30_LabelsMatches.j0 k l0 l1 a2 t101 t104 true))) = some r := by rw [if_pos rfl] at H; exact H
   clear H
   have H := H1
   clear H1
   replace H := Option.bind_eq_some_iff.mp H
   obtain ⟨t108, A110, H⟩ := H
   replace H : (if t108 = true then (tidepolelaw30_LabelsMatches.j0 k l0 l1 a2 t101 t104 (decide ((a2.size : Int) > 100))) else (tidepolelaw30_LabelsMatches.j0 k l0 l1 a2 t101 t104 true)) = some r := H
   have A11 := Aside0.mk A110
   clear A110
   by_cases c12 : t108 = true
   ·subst c12
    have H1 : (tidepolelaw30_LabelsMatches.j0 k l0 l1 a2 t101 t104 (decide ((a2.size : Int) > 100))) = some r := by rw [if_pos rfl] at H; exact H
    clear H
    have H := H1
    clear H1
    have H' := Aside0.mk H
    clear H
    obtain ⟨Ao13, co13, eo13⟩ := Kd.R_slice HO103.out
    subst eo13
    go_wp2_with (first | ((with_reducible refine gate_callee (f := 10) rfl ?_); refine goesL_ (some 18) rfl rfl Try.func10 (by kernel_rfl) rfl #[.slice Ao13 t101.length co13] rfl (by (try simp only [List.map_toArray, List.map_cons, List.map_nil]); first | done | rfl | (simp only [List.length_drop, List.length_take]; rfl)) ?_; (with_reducible refine (tidepolelaw30_small.calls k _ _ t101 true _ ?side1 ?side2 A9.out).mono ?_); (case side1 => repeat (first | exact (Kd.R_reads' HO103.out).2.2 | (with_reducible refine Kd.C_alloc ?_ _) | (with_reducible refine Kd.C_drewN ?_ _) | (with_reducible refine Kd.C_drew ?_))); (case side2 => exact (Kd.R_reads' HO103.out).2.1); rintro e w14 ⟨rfl, hb⟩; refine ⟨_, rfl, ?_⟩; have n0_ := Aside0.mk (Kd.R_below (by (with_reducible repeat (first | apply Kd.R_alloc | apply Kd.R_drewN | apply Kd.R_drew)); exact HO103.out) hb); have n1_ := Aside0.mk (Kd.R_below (by (with_reducible repeat (first | apply Kd.R_alloc | apply Kd.R_drewN | apply Kd.R_drew)); exact HO106.out) hb); have n2_ := Aside0.mk (below_step (by repeat (first | (with_reducible first | exact HB.out | apply below_alloc | apply pw_below_drewN | apply below_drew1) | exact HB.out)) hb); clear HO103; clear HO106; clear HB; have HO103 := n0_; have HO106 := n1_; have HB := n2_; clear n0_ n1_ n2_; (try clear hb); (try clear hb2); (try clear hk); (try clear hi); clear A9; obtain ⟨Ao15, co15, eo15⟩ := Kd.R_slice HO106.out; subst eo15) | (go_at_call 10; (with_reducible refine (tidepolelaw30_small.calls k _ _ t104 true _ ?side1 ?side2 A11.out).mono ?_); (case side1 => repeat (first | exact (Kd.R_reads' HO106.out).2.2 | (with_reducible refine Kd.C_alloc ?_ _) | (with_reducible refine Kd.C_drewN ?_ _) | (with_reducible refine Kd.C_drew ?_))); (case side2 => exact (Kd.R_reads' HO106.out).2.1); rintro e w16 ⟨rfl, hb⟩; have n0_ := Aside0.mk (Kd.R_below (by (with_reducible repeat (first | apply Kd.R_alloc | apply Kd.R_drewN | apply Kd.R_drew)); exact HO103.out) hb); have n1_ := Aside0.mk (Kd.R_below (by (with_reducible repeat (first | apply Kd.R_alloc | apply Kd.R_drewN | apply Kd.R_drew)); exact HO106.out) hb); have n2_ := Aside0.mk (below_step (by repeat (first | (with_reducible first | exact HB.out | apply below_alloc | apply pw_below_drewN | apply below_drew1) | exact HB.out)) hb); clear HO103; clear HO106; clear HB; have HO103 := n0_; have HO106 := n1_; have HB := n2_; clear n0_ n1_ n2_; (try clear hb); (try clear hb2); (try clear hk); (try clear hi); clear A11))
    go_meet
    case rel => exact ⟨_, (decide ((a2.size : Int) > 100)), (by first | rfl | (simp; done) | (simp [*]; done)), H', ⟨by first | omega | exact Nat.le_refl _⟩, ⟨by (with_reducible repeat (first | apply Kd.R_alloc | apply Kd.R_drewN | apply Kd.R_drew)); exact Kd.R_mono HO103.out (fun _ hk => hk.2)⟩, ⟨by (with_reducible repeat (first | apply Kd.R_alloc | apply Kd.R_drewN | apply Kd.R_drew)); exact Kd.R_mono HO106.out (fun _ hk => hk.2)⟩, ⟨by repeat (first | (with_reducible first | exact HB.out | apply below_alloc | apply pw_below_drewN | apply below_drew1) | exact HB.out)⟩⟩
   ·replace c12 := Bool.eq_false_iff.mpr c12
    subst c12
    have H1 : (tidepolelaw30_LabelsMatches.j0 k l0 l1 a2 t101 t104 true) = some r := by rw [if_neg (show ¬ (false = true) by decide)] at H; exact H
    clear H
    have H := H1
    clear H1
    have H' := Aside0.mk H
    clear H
    obtain ⟨Ao17, co17, eo17⟩ := Kd.R_slice HO103.out
    subst eo17
    go_wp2_with (first | ((with_reducible refine gate_callee (f := 10) rfl ?_); refine goesL_ (some 18) rfl rfl Try.func10 (by kernel_rfl) rfl #[.slice Ao17 t101.length co17] rfl (by (try simp only [List.map_toArray, List.map_cons, List.map_nil]); first | done | rfl | (simp only [List.length_drop, List.length_take]; rfl)) ?_; (with_reducible refine (tidepolelaw30_small.calls k _ _ t101 true _ ?side1 ?side2 A9.out).mono ?_); (case side1 => repeat (first | exact (Kd.R_reads' HO103.out).2.2 | (with_reducible refine Kd.C_alloc ?_ _) | (with_reducible refine Kd.C_drewN ?_ _) | (with_reducible refine Kd.C_drew ?_))); (case side2 => exact (Kd.R_reads' HO103.out).2.1); rintro e w18 ⟨rfl, hb⟩; refine ⟨_, rfl, ?_⟩; have n0_ := Aside0.mk (Kd.R_below (by (with_reducible repeat (first | apply Kd.R_alloc | apply Kd.R_drewN | apply Kd.R_drew)); exact HO103.out) hb); have n1_ := Aside0.mk (Kd.R_below (by (with_reducible repeat (first | apply Kd.R_alloc | apply Kd.R_drewN | apply Kd.R_drew)); exact HO106.out) hb); have n2_ := Aside0.mk (below_step (by repeat (first | (with_reducible first | exact HB.out | apply below_alloc | apply pw_below_drewN | apply below_drew1) | exact HB.out)) hb); clear HO103; clear HO106; clear HB; have HO103 := n0_; have HO106 := n1_; have HB := n2_; clear n0_ n1_ n2_; (try clear hb); (try clear hb2); (try clear hk); (try clear hi); clear A9; obtain ⟨Ao19, co19, eo19⟩ := Kd.R_slice HO106.out; subst eo19) | (go_at_call 10; (with_reducible refine (tidepolelaw30_small.calls k _ _ t104 false _ ?side1 ?side2 A11.out).mono ?_); (case side1 => repeat (first | exact (Kd.R_reads' HO106.out).2.2 | (with_reducible refine Kd.C_alloc ?_ _) | (with_reducible refine Kd.C_drewN ?_ _) | (with_reducible refine Kd.C_drew ?_))); (case side2 => exact (Kd.R_reads' HO106.out).2.1); rintro e w20 ⟨rfl, hb⟩; have n0_ := Aside0.mk (Kd.R_below (by (with_reducible repeat (first | apply Kd.R_alloc | apply Kd.R_drewN | apply Kd.R_drew)); exact HO103.out) hb); have n1_ := Aside0.mk (Kd.R_below (by (with_reducible repeat (first | apply Kd.R_alloc | apply Kd.R_drewN | apply Kd.R_drew)); exact HO106.out) hb); have n2_ := Aside0.mk (below_step (by repeat (first | (with_reducible first | exact HB.out | apply below_alloc | apply pw_below_drewN | apply below_drew1) | exact HB.out)) hb); clear HO103; clear HO106; clear HB; have HO103 := n0_; have HO106 := n1_; have HB := n2_; clear n0_ n1_ n2_; (try clear hb); (try clear hb2); (try clear hk); (try clear hi); clear A11))
    go_meet
    case rel => exact ⟨_, (true), (by first | rfl | (simp; done) | (simp [*]; done)), H', ⟨by first | omega | exact Nat.le_refl _⟩, ⟨by (with_reducible repeat (first | apply Kd.R_alloc | apply Kd.R_drewN | apply Kd.R_drew)); exact Kd.R_mono HO103.out (fun _ hk => hk.2)⟩, ⟨by (with_reducible repeat (first | apply Kd.R_alloc | apply Kd.R_drewN | apply Kd.R_drew)); exact Kd.R_mono HO106.out (fun _ hk => hk.2)⟩, ⟨by repeat (first | (with_reducible first | exact HB.out | apply below_alloc | apply pw_below_drewN | apply below_drew1) | exact HB.out)⟩⟩
  ·replace c10 := Bool.eq_false_iff.mpr c10
   subst c10
   have H1 : (tidepolelaw30_LabelsMatches.j0 k l0 l1 a2 t101 t104 true) = some r := by rw [if_neg (show ¬ (false = true) by decide)] at H; exact H
   clear H
   have H := H1
   clear H1
   have H' := Aside0.mk H
   clear H
   obtain ⟨Ao21, co21, eo21⟩ := Kd.R_slice HO103.out
   subst eo21
   go_wp2_with (first | ((with_reducible refine gate_callee (f := 10) rfl ?_); refine goesL_ (some 18) rfl rfl Try.func10 (by kernel_rfl) rfl #[.slice Ao21 t101.length co21] rfl (by (try simp only [List.map_toArray, List.map_cons, List.map_nil]); first | done | rfl | (simp only [List.length_drop, List.length_take]; rfl)) ?_; (with_reducible refine (tidepolelaw30_small.calls k _ _ t101 false _ ?side1 ?side2 A9.out).mono ?_); (case side1 => repeat (first | exact (Kd.R_reads' HO103.out).2.2 | (with_reducible refine Kd.C_alloc ?_ _) | (with_reducible refine Kd.C_drewN ?_ _) | (with_reducible refine Kd.C_drew ?_))); (case side2 => exact (Kd.R_reads' HO103.out).2.1); rintro e w22 ⟨rfl, hb⟩; refine ⟨_, rfl, ?_⟩; have n0_ := Aside0.mk (Kd.R_below (by (with_reducible repeat (first | apply Kd.R_alloc | apply Kd.R_drewN | apply Kd.R_drew)); exact HO103.out) hb); have n1_ := Aside0.mk (Kd.R_below (by (with_reducible repeat (first | apply Kd.R_alloc | apply Kd.R_drewN | apply Kd.R_drew)); exact HO106.out) hb); have n2_ := Aside0.mk (below_step (by repeat (first | (with_reducible first | exact HB.out | apply below_alloc | apply pw_below_drewN | apply below_drew1) | exact HB.out)) hb); clear HO103; clear HO106; clear HB; have HO103 := n0_; have HO106 := n1_; have HB := n2_; clear n0_ n1_ n2_; (try clear hb); (try clear hb2); (try clear hk); (try clear hi); clear A9))
   go_meet
   case rel => exact ⟨_, (true), (by first | rfl | (simp; done) | (simp [*]; done)), H', ⟨by first | omega | exact Nat.le_refl _⟩, ⟨by (with_reducible repeat (first | apply Kd.R_alloc | apply Kd.R_drewN | apply Kd.R_drew)); exact Kd.R_mono HO103.out (fun _ hk => hk.2)⟩, ⟨by (with_reducible repeat (first | apply Kd.R_alloc | apply Kd.R_drewN | apply Kd.R_drew)); exact Kd.R_mono HO106.out (fun _ hk => hk.2)⟩, ⟨by repeat (first | (with_reducible first | exact HB.out | apply below_alloc | apply pw_below_drewN | apply below_drew1) | exact HB.out)⟩⟩
 case rest =>
  clear HC6
  try clear c1
  try clear p2
  try clear c5
  try clear c9
  try clear c10
  try clear c12
  try clear c19
  obtain ⟨kq, x29_5, rfl, HA, HJ5, HO_7, HO_8, HB⟩ := hcut
  cases kq with
  | zero => exact absurd HA.out (by simp [tidepolelaw30_LabelsMatches.j0])
  | succ kj5 =>
   have H := HA.out
   clear HA
   simp only [tidepolelaw30_LabelsMatches.j0] at H
   by_cases c23 : x29_5 = true
   ·subst c23
    have H1 : ((tidepolelaw30_awake.f).bind fun t109 => (some t109)) = some r := by rw [if_pos rfl] at H; exact H
    clear H
    have H := H1
    clear H1
    replace H := Option.bind_eq_some_iff.mp H
    obtain ⟨t109, A240, H⟩ := H
    replace H : (some t109) = some r := H
    have A24 := Aside0.mk A240
    clear A240
    obtain rfl := Option.some.inj H
    go_wp2_with (first | ((with_reducible refine gate_callee (f := 11) rfl ?_); refine goesL_ (some 30) rfl rfl Try.func11 (by kernel_rfl) rfl #[] rfl (by (try simp only [List.map_toArray, List.map_cons, List.map_nil]); first | done | rfl | (simp only [List.length_drop, List.length_take]; rfl)) ?_; (with_reducible refine (tidepolelaw30_awake.calls  t109 _ A24.out).mono ?_); rintro e w25 ⟨rfl, hb⟩; refine ⟨_, rfl, ?_⟩; have n0_ := Aside0.mk (Kd.R_below (by (with_reducible repeat (first | apply Kd.R_alloc | apply Kd.R_drewN | apply Kd.R_drew)); exact HO_7.out) hb); have n1_ := Aside0.mk (Kd.R_below (by (with_reducible repeat (first | apply Kd.R_alloc | apply Kd.R_drewN | apply Kd.R_drew)); exact HO_8.out) hb); have n2_ := Aside0.mk (below_step (by repeat (first | (with_reducible first | exact HB.out | apply below_alloc | apply pw_below_drewN | apply below_drew1) | exact HB.out)) hb); clear HO_7; clear HO_8; clear HB; have HO_7 := n0_; have HO_8 := n1_; have HB := n2_; clear n0_ n1_ n2_; (try clear hb); (try clear hb2); (try clear hk); (try clear hi); clear A24))
    go_ret
    exact ⟨by first | rfl | (simp [errW_none, errW_some] <;> rfl) | (simp [*, errW_none, errW_some] <;> rfl), by repeat (first | (with_reducible first | exact HB.out | apply below_alloc | apply pw_below_drewN | apply below_drew1) | exact HB.out)⟩
   ·replace c23 := Bool.eq_false_iff.mpr c23
    subst c23
    have H1 : ((labels_Get.f kj5 l0 a2).bind fun bt110 => ((tidepoleref30_Get.f kj5 t101 a2).bind fun bt112 => (if bt110.1.toList = bt112.1.toList then (if (bt110.2 == (bt112.2 == 1)) = true then ((labels_MatchG.f l0 l1).bind fun t114 => ((tidepoleref30_Match.f kj5 t101 t104).bind fun t115 => (if (t114 == t115) = true then ((tidepolelaw30_awake.f).bind fun t116 => (some t116)) else (some false)))) else (some false)) else (some false)))) = some r := by rw [if_neg (show ¬ (false = true) by decide)] at H; exact H
    clear H
    have H := H1
    clear H1
    replace H := Option.bind_eq_some_iff.mp H
    obtain ⟨⟨t110, t111⟩, A260, H⟩ := H
    replace H : ((tidepoleref30_Get.f kj5 t101 a2).bind fun bt112 => (if t110.toList = bt112.1.toList then (if (t111 == (bt112.2 == 1)) = true then ((labels_MatchG.f l0 l1).bind fun t114 => ((tidepoleref30_Match.f kj5 t101 t104).bind fun t115 => (if (t114 == t115) = true then ((tidepolelaw30_awake.f).bind fun t116 => (some t116)) else (some false)))) else (some false)) else (some false))) = some r := H
    have A26 := Aside0.mk A260
    clear A260
    replace H := Option.bind_eq_some_iff.mp H
    obtain ⟨⟨t112, t113⟩, A270, H⟩ := H
    replace H : (if t110.toList = t112.toList then (if (t111 == (t113 == 1)) = true then ((labels_MatchG.f l0 l1).bind fun t114 => ((tidepoleref30_Match.f kj5 t101 t104).bind fun t115 => (if (t114 == t115) = true then ((tidepolelaw30_awake.f).bind fun t116 => (some t116)) else (some false)))) else (some false)) else (some false)) = some r := H
    have A27 := Aside0.mk A270
    clear A270
    by_cases c28 : t110.toList = t112.toList
    ·rw [if_pos c28] at H
     have c28b0 : (t110.toList == t112.toList) = true := beq_iff_eq.mpr c28
     have c28b1 : (t110.toList != t112.toList) = false := bne_eq_false_iff_eq.mpr c28
     clear c28
     by_cases c29 : (t111 == (t113 == 1)) = true
     ·rw [if_pos c29] at H
      have c29b0 : (t111 == (t113 == 1)) = true := c29
      (try (have c29b1 : decide (t111 = (t113 == 1)) = true := by simpa using c29))
      (try (have c29b2 : (t111 == (t113 == 1)) = true := by simpa using c29))
      clear c29
      replace H := Option.bind_eq_some_iff.mp H
      obtain ⟨t114, A300, H⟩ := H
      replace H : ((tidepoleref30_Match.f kj5 t101 t104).bind fun t115 => (if (t114 == t115) = true then ((tidepolelaw30_awake.f).bind fun t116 => (some t116)) else (some false))) = some r := H
      have A30 := Aside0.mk A300
      clear A300
      replace H := Option.bind_eq_some_iff.mp H
      obtain ⟨t115, A310, H⟩ := H
      replace H : (if (t114 == t115) = true then ((tidepolelaw30_awake.f).bind fun t116 => (some t116)) else (some false)) = some r := H
      have A31 := Aside0.mk A310
      clear A310
      by_cases c32 : (t114 == t115) = true
      ·rw [if_pos c32] at H
       have c32b0 : (t114 == t115) = true := c32
       (try (have c32b1 : decide (t114 = t115) = true := by simpa using c32))
       (try (have c32b2 : (t114 == t115) = true := by simpa using c32))
       clear c32
       replace H := Option.bind_eq_some_iff.mp H
       obtain ⟨t116, A330, H⟩ := H
       replace H : (some t116) = some r := H
       have A33 := Aside0.mk A330
       clear A330
       obtain rfl := Option.some.inj H
       go_wp2_with (first | ((with_reducible refine gate_callee (f := 20) rfl ?_); refine goesL_ (some 34) rfl rfl Try.func20 (by kernel_rfl) rfl #[.slice A0 l0.length c0, .string a2] rfl (by (try simp only [List.map_toArray, List.map_cons, List.map_nil]); first | done | rfl | (simp only [List.length_drop, List.length_take]; rfl)) ?_; (with_reducible refine (labels_Get.calls kj5 _ _ l0 a2 t110 t111 _ ?side1 ?side2 A26.out).mono ?_); (case side1 => repeat (first | exact (Kd.C_below HR0.out HB.out) | (with_reducible refine Kd.C_alloc ?_ _) | (with_reducible refine Kd.C_drewN ?_ _) | (with_reducible refine Kd.C_drew ?_))); (case side2 => exact HC0.out); rintro e w34 ⟨rfl, hb⟩; refine ⟨_, rfl, ?_⟩; have n0_ := Aside0.mk (Kd.R_below (by (with_reducible repeat (first | apply Kd.R_alloc | apply Kd.R_drewN | apply Kd.R_drew)); exact HO_7.out) hb); have n1_ := Aside0.mk (Kd.R_below (by (with_reducible repeat (first | apply Kd.R_alloc | apply Kd.R_drewN | apply Kd.R_drew)); exact HO_8.out) hb); have n2_ := Aside0.mk (below_step (by repeat (first | (with_reducible first | exact HB.out | apply below_alloc | apply pw_below_drewN | apply below_drew1) | exact HB.out)) hb); clear HO_7; clear HO_8; clear HB; have HO_7 := n0_; have HO_8 := n1_; have HB := n2_; clear n0_ n1_ n2_; (try clear hb); (try clear hb2); (try clear hk); (try clear hi); clear A26; obtain ⟨Ao35, co35, eo35⟩ := Kd.R_slice HO_7.out; subst eo35) | ((with_reducible refine gate_callee (f := 21) rfl ?_); refine goesL_ (some 40) rfl rfl Try.func21 (by kernel_rfl) rfl #[.slice Ao35 t101.length co35, .string a2] rfl (by (try simp only [List.map_toArray, List.map_cons, List.map_nil]); first | done | rfl | (simp only [List.length_drop, List.length_take]; rfl)) ?_; (with_reducible refine (tidepoleref30_Get.calls kj5 _ _ t101 a2 t112 t113 _ ?side1 ?side2 A27.out).mono ?_); (case side1 => repeat (first | exact (Kd.R_reads' HO_7.out).2.2 | (with_reducible refine Kd.C_alloc ?_ _) | (with_reducible refine Kd.C_drewN ?_ _) | (with_reducible refine Kd.C_drew ?_))); (case side2 => exact (Kd.R_reads' HO_7.out).2.1); rintro e w' ⟨rfl, ⟨nd, rfl⟩⟩; refine ⟨_, rfl, ?_⟩; clear A27) | (go_at_call 22; (with_reducible refine (labels_MatchG.calls _ _ l0 _ _ l1 t114 _ ?sideg ?side1 ?side2 ?side3 ?side4 A30.out).mono ?_); (case sideg => exact HG_.out.below (by repeat (first | (with_reducible first | exact HB.out | apply below_alloc | apply pw_below_drewN | apply below_drew1) | exact HB.out))); (case side1 => repeat (first | exact (Kd.C_below HR0.out (by repeat (first | (with_reducible first | exact HB.out | apply below_alloc | apply pw_below_drewN | apply below_drew1) | exact HB.out))) | (with_reducible refine Kd.C_alloc ?_ _) | (with_reducible refine Kd.C_drewN ?_ _) | (with_reducible refine Kd.C_drew ?_))); (case side2 => exact HC0.out); (case side3 => repeat (first | exact (Kd.C_below HR1.out (by repeat (first | (with_reducible first | exact HB.out | apply below_alloc | apply pw_below_drewN | apply below_drew1) | exact HB.out))) | (with_reducible refine Kd.C_alloc ?_ _) | (with_reducible refine Kd.C_drewN ?_ _) | (with_reducible refine Kd.C_drew ?_))); (case side4 => exact HC1.out); rintro e w36 ⟨rfl, hb⟩; have n0_ := Aside0.mk (Kd.R_below (by (with_reducible repeat (first | apply Kd.R_alloc | apply Kd.R_drewN | apply Kd.R_drew)); exact HO_7.out) hb); have n1_ := Aside0.mk (Kd.R_below (by (with_reducible repeat (first | apply Kd.R_alloc | apply Kd.R_drewN | apply Kd.R_drew)); exact HO_8.out) hb); have n2_ := Aside0.mk (below_step (by repeat (first | (with_reducible first | exact HB.out | apply below_alloc | apply pw_below_drewN | apply below_drew1) | exact HB.out)) hb); clear HO_7; clear HO_8; clear HB; have HO_7 := n0_; have HO_8 := n1_; have HB := n2_; clear n0_ n1_ n2_; (try clear hb); (try clear hb2); (try clear hk); (try clear hi); clear A30; obtain ⟨Ao37, co37, eo37⟩ := Kd.R_slice HO_8.out; subst eo37) | (go_at_call 23; (with_reducible refine (tidepoleref30_Match.calls kj5 _ _ t101 _ _ t104 t115 _ ?side1 ?side2 ?side3 ?side4 A31.out).mono ?_); (case side1 => repeat (first | exact (Kd.R_reads' HO_7.out).2.2 | (with_reducible refine Kd.C_alloc ?_ _) | (with_reducible refine Kd.C_drewN ?_ _) | (with_reducible refine Kd.C_drew ?_))); (case side2 => exact (Kd.R_reads' HO_7.out).2.1); (case side3 => repeat (first | exact (Kd.R_reads' HO_8.out).2.2 | (with_reducible refine Kd.C_alloc ?_ _) | (with_reducible refine Kd.C_drewN ?_ _) | (with_reducible refine Kd.C_drew ?_))); (case side4 => exact (Kd.R_reads' HO_8.out).2.1); rintro e w' ⟨rfl, ⟨nd, rfl⟩⟩; clear A31) | (go_at_call 11; (with_reducible refine (tidepolelaw30_awake.calls  t116 _ A33.out).mono ?_); rintro e w38 ⟨rfl, hb⟩; have n0_ := Aside0.mk (Kd.R_below (by (with_reducible repeat (first | apply Kd.R_alloc | apply Kd.R_drewN | apply Kd.R_drew)); exact HO_7.out) hb); have n1_ := Aside0.mk (Kd.R_below (by (with_reducible repeat (first | apply Kd.R_alloc | apply Kd.R_drewN | apply Kd.R_drew)); exact HO_8.out) hb); have n2_ := Aside0.mk (below_step (by repeat (first | (with_reducible first | exact HB.out | apply below_alloc | apply pw_below_drewN | apply below_drew1) | exact HB.out)) hb); clear HO_7; clear HO_8; clear HB; have HO_7 := n0_; have HO_8 := n1_; have HB := n2_; clear n0_ n1_ n2_; (try clear hb); (try clear hb2); (try clear hk); (try clear hi); clear A33))
       go_ret
       exact ⟨by first | rfl | (simp [errW_none, errW_some] <;> rfl) | (simp [*, errW_none, errW_some] <;> rfl), by repeat (first | (with_reducible first | exact HB.out | apply below_alloc | apply pw_below_drewN | apply below_drew1) | exact HB.out)⟩
      ·rw [if_neg c32] at H
       have c32b0 : (t114 == t115) = false := by simpa using c32
       (try (have c32b1 : decide (t114 = t115) = false := by simpa using c32))
       (try (have c32b2 : (t114 == t115) = false := by simpa using c32))
       (try (have c32b3 : ¬ (t114 = t115) := by simpa using c32))
       clear c32
       obtain rfl := Option.some.inj H
       go_wp2_with (first | ((with_reducible refine gate_callee (f := 20) rfl ?_); refine goesL_ (some 34) rfl rfl Try.func20 (by kernel_rfl) rfl #[.slice A0 l0.length c0, .string a2] rfl (by (try simp only [List.map_toArray, List.map_cons, List.map_nil]); first | done | rfl | (simp only [List.length_drop, List.length_take]; rfl)) ?_; (with_reducible refine (labels_Get.calls kj5 _ _ l0 a2 t110 t111 _ ?side1 ?side2 A26.out).mono ?_); (case side1 => repeat (first | exact (Kd.C_below HR0.out HB.out) | (with_reducible refine Kd.C_alloc ?_ _) | (with_reducible refine Kd.C_drewN ?_ _) | (with_reducible refine Kd.C_drew ?_))); (case side2 => exact HC0.out); rintro e w39 ⟨rfl, hb⟩; refine ⟨_, rfl, ?_⟩; have n0_ := Aside0.mk (Kd.R_below (by (with_reducible repeat (first | apply Kd.R_alloc | apply Kd.R_drewN | apply Kd.R_drew)); exact HO_7.out) hb); have n1_ := Aside0.mk (Kd.R_below (by (with_reducible repeat (first | apply Kd.R_alloc | apply Kd.R_drewN | apply Kd.R_drew)); exact HO_8.out) hb); have n2_ := Aside0.mk (below_step (by repeat (first | (with_reducible first | exact HB.out | apply below_alloc | apply pw_below_drewN | apply below_drew1) | exact HB.out)) hb); clear HO_7; clear HO_8; clear HB; have HO_7 := n0_; have HO_8 := n1_; have HB := n2_; clear n0_ n1_ n2_; (try clear hb); (try clear hb2); (try clear hk); (try clear hi); clear A26; obtain ⟨Ao40, co40, eo40⟩ := Kd.R_slice HO_7.out; subst eo40) | ((with_reducible refine gate_callee (f := 21) rfl ?_); refine goesL_ (some 40) rfl rfl Try.func21 (by kernel_rfl) rfl #[.slice Ao40 t101.length co40, .string a2] rfl (by (try simp only [List.map_toArray, List.map_cons, List.map_nil]); first | done | rfl | (simp only [List.length_drop, List.length_take]; rfl)) ?_; (with_reducible refine (tidepoleref30_Get.calls kj5 _ _ t101 a2 t112 t113 _ ?side1 ?side2 A27.out).mono ?_); (case side1 => repeat (first | exact (Kd.R_reads' HO_7.out).2.2 | (with_reducible refine Kd.C_alloc ?_ _) | (with_reducible refine Kd.C_drewN ?_ _) | (with_reducible refine Kd.C_drew ?_))); (case side2 => exact (Kd.R_reads' HO_7.out).2.1); rintro e w' ⟨rfl, ⟨nd, rfl⟩⟩; refine ⟨_, rfl, ?_⟩; clear A27) | (go_at_call 22; (with_reducible refine (labels_MatchG.calls _ _ l0 _ _ l1 t114 _ ?sideg ?side1 ?side2 ?side3 ?side4 A30.out).mono ?_); (case sideg => exact HG_.out.below (by repeat (first | (with_reducible first | exact HB.out | apply below_alloc | apply pw_below_drewN | apply below_drew1) | exact HB.out))); (case side1 => repeat (first | exact (Kd.C_below HR0.out (by repeat (first | (with_reducible first | exact HB.out | apply below_alloc | apply pw_below_drewN | apply below_drew1) | exact HB.out))) | (with_reducible refine Kd.C_alloc ?_ _) | (with_reducible refine Kd.C_drewN ?_ _) | (with_reducible refine Kd.C_drew ?_))); (case side2 => exact HC0.out); (case side3 => repeat (first | exact (Kd.C_below HR1.out (by repeat (first | (with_reducible first | exact HB.out | apply below_alloc | apply pw_below_drewN | apply below_drew1) | exact HB.out))) | (with_reducible refine Kd.C_alloc ?_ _) | (with_reducible refine Kd.C_drewN ?_ _) | (with_reducible refine Kd.C_drew ?_))); (case side4 => exact HC1.out); rintro e w41 ⟨rfl, hb⟩; have n0_ := Aside0.mk (Kd.R_below (by (with_reducible repeat (first | apply Kd.R_alloc | apply Kd.R_drewN | apply Kd.R_drew)); exact HO_7.out) hb); have n1_ := Aside0.mk (Kd.R_below (by (with_reducible repeat (first | apply Kd.R_alloc | apply Kd.R_drewN | apply Kd.R_drew)); exact HO_8.out) hb); have n2_ := Aside0.mk (below_step (by repeat (first | (with_reducible first | exact HB.out | apply below_alloc | apply pw_below_drewN | apply below_drew1) | exact HB.out)) hb); clear HO_7; clear HO_8; clear HB; have HO_7 := n0_; have HO_8 := n1_; have HB := n2_; clear n0_ n1_ n2_; (try clear hb); (try clear hb2); (try clear hk); (try clear hi); clear A30; obtain ⟨Ao42, co42, eo42⟩ := Kd.R_slice HO_8.out; subst eo42) | (go_at_call 23; (with_reducible refine (tidepoleref30_Match.calls kj5 _ _ t101 _ _ t104 t115 _ ?side1 ?side2 ?side3 ?side4 A31.out).mono ?_); (case side1 => repeat (first | exact (Kd.R_reads' HO_7.out).2.2 | (with_reducible refine Kd.C_alloc ?_ _) | (with_reducible refine Kd.C_drewN ?_ _) | (with_reducible refine Kd.C_drew ?_))); (case side2 => exact (Kd.R_reads' HO_7.out).2.1); (case side3 => repeat (first | exact (Kd.R_reads' HO_8.out).2.2 | (with_reducible refine Kd.C_alloc ?_ _) | (with_reducible refine Kd.C_drewN ?_ _) | (with_reducible refine Kd.C_drew ?_))); (case side4 => exact (Kd.R_reads' HO_8.out).2.1); rintro e w' ⟨rfl, ⟨nd, rfl⟩⟩; clear A31))
       go_ret
       exact ⟨by first | rfl | (simp [errW_none, errW_some] <;> rfl) | (simp [*, errW_none, errW_some] <;> rfl), by repeat (first | (with_reducible first | exact HB.out | apply below_alloc | apply pw_below_drewN | apply below_drew1) | exact HB.out)⟩
     ·rw [if_neg c29] at H
      have c29b0 : (t111 == (t113 == 1)) = false := by simpa using c29
      (try (have c29b1 : decide (t111 = (t113 == 1)) = false := by simpa using c29))
      (try (have c29b2 : (t111 == (t113 == 1)) = false := by simpa using c29))
      (try (have c29b3 : ¬ (t111 = (t113 == 1)) := by simpa using c29))
      clear c29
      obtain rfl := Option.some.inj H
      go_wp2_with (first | ((with_reducible refine gate_callee (f := 20) rfl ?_); refine goesL_ (some 34) rfl rfl Try.func20 (by kernel_rfl) rfl #[.slice A0 l0.length c0, .string a2] rfl (by (try simp only [List.map_toArray, List.map_cons, List.map_nil]); first | done | rfl | (simp only [List.length_drop, List.length_take]; rfl)) ?_; (with_reducible refine (labels_Get.calls kj5 _ _ l0 a2 t110 t111 _ ?side1 ?side2 A26.out).mono ?_); (case side1 => repeat (first | exact (Kd.C_below HR0.out HB.out) | (with_reducible refine Kd.C_alloc ?_ _) | (with_reducible refine Kd.C_drewN ?_ _) | (with_reducible refine Kd.C_drew ?_))); (case side2 => exact HC0.out); rintro e w43 ⟨rfl, hb⟩; refine ⟨_, rfl, ?_⟩; have n0_ := Aside0.mk (Kd.R_below (by (with_reducible repeat (first | apply Kd.R_alloc | apply Kd.R_drewN | apply Kd.R_drew)); exact HO_7.out) hb); have n1_ := Aside0.mk (Kd.R_below (by (with_reducible repeat (first | apply Kd.R_alloc | apply Kd.R_drewN | apply Kd.R_drew)); exact HO_8.out) hb); have n2_ := Aside0.mk (below_step (by repeat (first | (with_reducible first | exact HB.out | apply below_alloc | apply pw_below_drewN | apply below_drew1) | exact HB.out)) hb); clear HO_7; clear HO_8; clear HB; have HO_7 := n0_; have HO_8 := n1_; have HB := n2_; clear n0_ n1_ n2_; (try clear hb); (try clear hb2); (try clear hk); (try clear hi); clear A26; obtain ⟨Ao44, co44, eo44⟩ := Kd.R_slice HO_7.out; subst eo44) | ((with_reducible refine gate_callee (f := 21) rfl ?_); refine goesL_ (some 40) rfl rfl Try.func21 (by kernel_rfl) rfl #[.slice Ao44 t101.length co44, .string a2] rfl (by (try simp only [List.map_toArray, List.map_cons, List.map_nil]); first | done | rfl | (simp only [List.length_drop, List.length_take]; rfl)) ?_; (with_reducible refine (tidepoleref30_Get.calls kj5 _ _ t101 a2 t112 t113 _ ?side1 ?side2 A27.out).mono ?_); (case side1 => repeat (first | exact (Kd.R_reads' HO_7.out).2.2 | (with_reducible refine Kd.C_alloc ?_ _) | (with_reducible refine Kd.C_drewN ?_ _) | (with_reducible refine Kd.C_drew ?_))); (case side2 => exact (Kd.R_reads' HO_7.out).2.1); rintro e w' ⟨rfl, ⟨nd, rfl⟩⟩; refine ⟨_, rfl, ?_⟩; clear A27))
      go_ret
      exact ⟨by first | rfl | (simp [errW_none, errW_some] <;> rfl) | (simp [*, errW_none, errW_some] <;> rfl), by repeat (first | (with_reducible first | exact HB.out | apply below_alloc | apply pw_below_drewN | apply below_drew1) | exact HB.out)⟩
    ·rw [if_neg c28] at H
     have c28b0 : (t110.toList == t112.toList) = false := beq_eq_false_iff_ne.mpr c28
     have c28b1 : (t110.toList != t112.toList) = true := bne_iff_ne.mpr c28
     obtain rfl := Option.some.inj H
     go_wp2_with (first | ((with_reducible refine gate_callee (f := 20) rfl ?_); refine goesL_ (some 34) rfl rfl Try.func20 (by kernel_rfl) rfl #[.slice A0 l0.length c0, .string a2] rfl (by (try simp only [List.map_toArray, List.map_cons, List.map_nil]); first | done | rfl | (simp only [List.length_drop, List.length_take]; rfl)) ?_; (with_reducible refine (labels_Get.calls kj5 _ _ l0 a2 t110 t111 _ ?side1 ?side2 A26.out).mono ?_); (case side1 => repeat (first | exact (Kd.C_below HR0.out HB.out) | (with_reducible refine Kd.C_alloc ?_ _) | (with_reducible refine Kd.C_drewN ?_ _) | (with_reducible refine Kd.C_drew ?_))); (case side2 => exact HC0.out); rintro e w45 ⟨rfl, hb⟩; refine ⟨_, rfl, ?_⟩; have n0_ := Aside0.mk (Kd.R_below (by (with_reducible repeat (first | apply Kd.R_alloc | apply Kd.R_drewN | apply Kd.R_drew)); exact HO_7.out) hb); have n1_ := Aside0.mk (Kd.R_below (by (with_reducible repeat (first | apply Kd.R_alloc | apply Kd.R_drewN | apply Kd.R_drew)); exact HO_8.out) hb); have n2_ := Aside0.mk (below_step (by repeat (first | (with_reducible first | exact HB.out | apply below_alloc | apply pw_below_drewN | apply below_drew1) | exact HB.out)) hb); clear HO_7; clear HO_8; clear HB; have HO_7 := n0_; have HO_8 := n1_; have HB := n2_; clear n0_ n1_ n2_; (try clear hb); (try clear hb2); (try clear hk); (try clear hi); clear A26; obtain ⟨Ao46, co46, eo46⟩ := Kd.R_slice HO_7.out; subst eo46) | ((with_reducible refine gate_callee (f := 21) rfl ?_); refine goesL_ (some 40) rfl rfl Try.func21 (by kernel_rfl) rfl #[.slice Ao46 t101.length co46, .string a2] rfl (by (try simp only [List.map_toArray, List.map_cons, List.map_nil]); first | done | rfl | (simp only [List.length_drop, List.length_take]; rfl)) ?_; (with_reducible refine (tidepoleref30_Get.calls kj5 _ _ t101 a2 t112 t113 _ ?side1 ?side2 A27.out).mono ?_); (case side1 => repeat (first | exact (Kd.R_reads' HO_7.out).2.2 | (with_reducible refine Kd.C_alloc ?_ _) | (with_reducible refine Kd.C_drewN ?_ _) | (with_reducible refine Kd.C_drew ?_))); (case side2 => exact (Kd.R_reads' HO_7.out).2.1); rintro e w' ⟨rfl, ⟨nd, rfl⟩⟩; refine ⟨_, rfl, ?_⟩; clear A27))
     go_ret
     exact ⟨by first | rfl | (simp [errW_none, errW_some] <;> rfl) | (simp [*, errW_none, errW_some] <;> rfl), by repeat (first | (with_reducible first | exact HB.out | apply below_alloc | apply pw_below_drewN | apply below_drew1) | exact HB.out)⟩
end Go.Proofs.Ytbfiacnmielajaa.P
namespace Go.Proofs.Ytbfiacnmielajaa.P
open Go.RowKit Go.Proofs.YtbfiacnmielajaaW.PrintWords Go.Proofs.YtbfiacnmielajaaW.PrintLast Go.Proofs.YtbfiacnmielajaaW.PrintMore
attribute [local go_sem] max2_int min2_int max_two min_two max_three min_three max_four min_four
set_option linter.unusedVariables false
set_option linter.unusedSimpArgs false
def inI (k : IntKind) (n : Int) : Prop := (Lit.int k n).wf = true
def Opens {α : Type} (P : Program) (t : TypeId) (d : Kd α) (wf : α → Prop) : Prop := ∀ {H : Type} (enc : TypeId × Value → H) (w : World) (base : Nat) (sp : Nat → Bool) (held : Bool) (fuel : Nat) (cs : List Value) (x : DataW H × List MemPlace),
 DataW.trod enc P w base sp held fuel t cs = some x → ∃ y, d.K w y cs ∧ wf y
theorem opens_int {P : Program} {t : TypeId} {k : IntKind} (ht : P.underlying t = some (.int k)) : Opens P t (Kd.int k) (inI k) := by
 intro H enc w base sp held fuel cs x h
 obtain ⟨n, rfl, _, hw⟩ := DataW.trod_int ht h
 exact ⟨n, rfl, hw⟩
def wfStr (s : ByteArray) : Prop := s.size ≤ 9223372036854775807
theorem opens_string {P : Program} {t : TypeId} (ht : P.underlying t = some .string) : Opens P t Kd.string wfStr := by
 intro H enc w base sp held fuel cs x h
 obtain ⟨s, rfl, _, hw⟩ := DataW.trod_string ht h
 exact ⟨s, rfl, hw⟩
theorem opens_slice {α : Type} {P : Program} {t e : TypeId} {d : Kd α} {wf : α → Prop} (ht : P.underlying t = some (.slice e)) (hs : P.cellsOf e = d.sz) (ho : Opens P e d wf) : Opens P t (Kd.slice e d) (fun xs => ∀ x ∈ xs, wf x) := by
 intro H enc w base sp held fuel cs x h
 rcases Deep.open_slice ht h with ⟨rfl, _⟩ | ⟨a, len, cap, m, n, D, Pl, rfl, hb, hl, hm, hmm, _, hx⟩
 ·exact ⟨[], ⟨none, 0, rfl, Nat.le_refl _, Kd.C_nil _ _⟩, fun x hx => by cases hx⟩
 ·have hlm : len ≤ m := by rw [hmm]; split <;> omega
  unfold maxLen at hm
  rw [hs] at hx
  have each : ∀ i, i < len → ∃ y : α, (∃ cs', cs'.length = d.sz ∧ d.K w y cs' ∧ ∀ j u, cs'[j]? = some u → w.cell? (a.add (i * d.sz + j)) = some u) ∧ wf y := by
   intro i hi
   obtain ⟨cs', h1, h2⟩ := hx i (by omega)
   obtain ⟨y, hk, hw⟩ := ho _ _ _ _ _ _ _ _ h2
   obtain ⟨_, hlen, hcell⟩ := World.cells?_some h1
   refine ⟨y, ⟨cs', hlen, hk, fun j u hu => ?_⟩, hw⟩
   have hj : j < cs'.length := (List.getElem?_eq_some_iff.1 hu).1
   have := hcell j (by omega)
   rw [Deep.add_add] at this
   rw [this]; exact hu
  by_cases h0 : len = 0
  ·subst h0
   exact ⟨[], ⟨some a, cap, rfl, Nat.zero_le _, ⟨rfl, by simp, fun h => absurd h (Nat.lt_irrefl 0)⟩⟩, fun x hx => by cases hx⟩
  ·obtain ⟨y0, _⟩ := each 0 (by omega)
   have : Inhabited α := ⟨y0⟩
   obtain ⟨f, hf⟩ := Deep.choose_lt each
   refine ⟨(List.range len).map f, ⟨some a, cap, by simp, by simpa using hl, ⟨by simp, by simp; omega, fun _ => ⟨a, rfl, fun j p hj => ?_⟩⟩⟩, fun x hx => ?_⟩
   ·rw [List.getElem?_map] at hj
    obtain ⟨i, hi, rfl⟩ := Option.map_eq_some_iff.1 hj
    obtain ⟨hlt, rfl⟩ := List.getElem?_eq_some_iff.1 hi
    simp only [List.length_range] at hlt
    simp only [List.getElem_range]
    obtain ⟨cs', h1, h2, h3⟩ := (hf j hlt).1
    exact ⟨cs', h1, h2, h3⟩
   ·obtain ⟨i, hi, rfl⟩ := List.mem_map.1 hx
    exact (hf i (List.mem_range.1 hi)).2
def wf58 (x : S58) : Prop := wfStr x.f0 ∧ wfStr x.f1
set_option maxRecDepth 100000 in
theorem opens58 : Opens Try.prog 58 k58 wf58 := by
 intro H enc w base sp held fuel cs x h
 obtain ⟨xs, n, rfl, _, hl, hxl, hf⟩ := DataW.trod_struct Try.underlying58 h
 have hc : cs.length = 2 := hl.trans (by kernel_rfl)
 match cs, hc with
 | [c0, c1], _ =>
  have g0 : DataW.trod enc Try.prog w base sp held n 9 ((([c0, c1] : List Value).drop 0).take (Try.prog.cellsOf 9)) = xs[0]? := hf 0 _ rfl
  rw [show Try.prog.cellsOf 9 = 1 from by kernel_rfl] at g0
  have e0 : xs[0]? = some (xs[0]'(by rw [hxl]; decide)) := List.getElem?_eq_getElem _
  have g1 : DataW.trod enc Try.prog w base sp held n 9 ((([c0, c1] : List Value).drop 1).take (Try.prog.cellsOf 9)) = xs[1]? := hf 1 _ rfl
  rw [show Try.prog.cellsOf 9 = 1 from by kernel_rfl] at g1
  have e1 : xs[1]? = some (xs[1]'(by rw [hxl]; decide)) := List.getElem?_eq_getElem _
  obtain ⟨y0, hk0, hw0⟩ := (opens_string Try.underlying9) enc w base sp held n [c0] _ (g0.trans e0)
  injection (show [c0] = [Value.string y0] from hk0) with he0 _
  subst he0
  obtain ⟨y1, hk1, hw1⟩ := (opens_string Try.underlying9) enc w base sp held n [c1] _ (g1.trans e1)
  injection (show [c1] = [Value.string y1] from hk1) with he1 _
  subst he1
  exact ⟨⟨y0, y1⟩, k58_mk w ⟨y0, y1⟩ , ⟨hw0, hw1⟩⟩
def wf42 (x : S42) : Prop := (inI .i64) x.f0 ∧ wfStr x.f1 ∧ wfStr x.f2
set_option maxRecDepth 100000 in
theorem opens42 : Opens Try.prog 42 k42 wf42 := by
 intro H enc w base sp held fuel cs x h
 obtain ⟨xs, n, rfl, _, hl, hxl, hf⟩ := DataW.trod_struct Try.underlying42 h
 have hc : cs.length = 3 := hl.trans (by kernel_rfl)
 match cs, hc with
 | [c0, c1, c2], _ =>
  have g0 : DataW.trod enc Try.prog w base sp held n 3 ((([c0, c1, c2] : List Value).drop 0).take (Try.prog.cellsOf 3)) = xs[0]? := hf 0 _ rfl
  rw [show Try.prog.cellsOf 3 = 1 from by kernel_rfl] at g0
  have e0 : xs[0]? = some (xs[0]'(by rw [hxl]; decide)) := List.getElem?_eq_getElem _
  have g1 : DataW.trod enc Try.prog w base sp held n 9 ((([c0, c1, c2] : List Value).drop 1).take (Try.prog.cellsOf 9)) = xs[1]? := hf 1 _ rfl
  rw [show Try.prog.cellsOf 9 = 1 from by kernel_rfl] at g1
  have e1 : xs[1]? = some (xs[1]'(by rw [hxl]; decide)) := List.getElem?_eq_getElem _
  have g2 : DataW.trod enc Try.prog w base sp held n 9 ((([c0, c1, c2] : List Value).drop 2).take (Try.prog.cellsOf 9)) = xs[2]? := hf 2 _ rfl
  rw [show Try.prog.cellsOf 9 = 1 from by kernel_rfl] at g2
  have e2 : xs[2]? = some (xs[2]'(by rw [hxl]; decide)) := List.getElem?_eq_getElem _
  obtain ⟨y0, hk0, hw0⟩ := (opens_int Try.underlying3) enc w base sp held n [c0] _ (g0.trans e0)
  injection (show [c0] = [Value.int .i64 y0] from hk0) with he0 _
  subst he0
  obtain ⟨y1, hk1, hw1⟩ := (opens_string Try.underlying9) enc w base sp held n [c1] _ (g1.trans e1)
  injection (show [c1] = [Value.string y1] from hk1) with he1 _
  subst he1
  obtain ⟨y2, hk2, hw2⟩ := (opens_string Try.underlying9) enc w base sp held n [c2] _ (g2.trans e2)
  injection (show [c2] = [Value.string y2] from hk2) with he2 _
  subst he2
  exact ⟨⟨y0, y1, y2⟩, k42_mk w ⟨y0, y1, y2⟩ , ⟨hw0, hw1, hw2⟩⟩
end Go.Proofs.Ytbfiacnmielajaa.P
namespace Go.Proofs.Ytbfiacnmielajaa.P
def headSigns : List Char := List.map Char.ofNat [104, 97, 114, 110, 101, 115, 115, 32, 100, 53, 48, 53, 51, 102, 57, 55, 55, 51, 52, 49, 100, 52, 97, 100, 53, 101, 97, 57, 102, 54, 57, 55, 98, 97, 57, 97, 54, 97, 53, 54, 97, 99, 100, 100, 99, 53, 53, 102, 100, 98, 101, 98, 52, 49, 50, 55, 100, 49, 52, 55, 57, 55, 50, 98, 49, 48, 51, 101, 53, 100, 48, 50, 32, 99, 117, 116, 32, 97, 116, 32, 116, 105, 100, 101, 112, 111, 108, 101, 47, 116, 105, 100, 101, 112, 111, 108, 101, 108, 97, 119, 51, 48, 46, 76, 97, 98, 101, 108, 115, 84, 101, 120, 116, 115, 32, 116, 105, 100, 101, 112, 111, 108, 101, 47, 116, 105, 100, 101, 112, 111, 108, 101, 108, 97, 119, 51, 48, 46, 76, 97, 98, 101, 108, 115, 80, 97, 114, 115, 101, 115, 32, 116, 105, 100, 101, 112, 111, 108, 101, 47, 116, 105, 100, 101, 112, 111, 108, 101, 108, 97, 119, 51, 48, 46, 76, 97, 98, 101, 108, 115, 77, 97, 116, 99, 104, 101, 115, 32, 116, 105, 100, 101, 112, 111, 108, 101, 47, 116, 105, 100, 101, 112, 111, 108, 101, 108, 97, 119, 51, 48, 46, 76, 97, 98, 101, 108, 115, 79, 114, 100, 101, 114, 32, 116, 105, 100, 101, 112, 111, 108, 101, 47, 116, 105, 100, 101, 112, 111, 108, 101, 108, 97, 119, 51, 48, 46, 76, 97, 98, 101, 108, 115, 65, 112, 97, 114, 116, 32, 116, 105, 100, 101, 112, 111, 108, 101, 47, 116, 105, 100, 101, 112, 111, 108, 101, 108, 97, 119, 51, 48, 46, 76, 97, 98, 101, 108, 115, 77, 97, 116, 99, 104, 101, 114, 115]
theorem head_is : Try.prog.initOrder = String.ofList headSigns := by kernel_rfl
theorem head_signs : Try.prog.initOrder.toList = headSigns := by rw [head_is]; exact String.toList_ofList
theorem head_first : (behindMainWord (wordsSigns headSigns)).head? = some "cut".toList := by kernel_rfl
theorem head_words : ∃ r, behindMainWord (wordsSigns headSigns) = "cut".toList :: r := by have h := head_first; cases h2 : behindMainWord (wordsSigns headSigns) with | nil => rw [h2] at h; cases h | cons c r => rw [h2] at h; injection h with h; exact ⟨r, by rw [h]⟩
theorem strip_cut (r : List (List Char)) : stripLifts liftWords ("cut".toList :: r) = ([], "cut".toList :: r) := by kernel_rfl
theorem head_lifts : Try.prog.headLifts = [] := by obtain ⟨r, hr⟩ := head_words; unfold Program.headLifts; rw [head_signs, hr, strip_cut]; kernel_rfl
theorem head_doorFits : Try.prog.doorFits [] = true := by kernel_rfl
theorem head_laysLater : Try.prog.laysLater = false := by kernel_rfl
theorem head_bearsReflect : Try.prog.bearsReflect = false := by kernel_rfl
theorem mayEnter_of {P : Program} {L : List Char} {r : List (List Char)} (h1 : P.initOrder.toList = L) (h2 : behindMainWord (wordsSigns L) = "cut".toList :: r) (h3 : P.doorFits [] = true) (h4 : P.laysLater = false) (h5 : P.bearsReflect = false) : P.mayEnter = true := by unfold Program.mayEnter; rw [h1, h2]; simp only [strip_cut, h3, h4, h5]; kernel_rfl
theorem head_mayEnter : Try.prog.mayEnter = true := by obtain ⟨r, hr⟩ := head_words; exact mayEnter_of head_signs hr head_doorFits head_laysLater head_bearsReflect
theorem head_liftsFinal : Try.prog.liftsFinal = false := by obtain ⟨r, hr⟩ := head_words; unfold Program.liftsFinal; rw [head_signs, head_lifts, hr]; kernel_rfl
theorem make_of {P : Program} {L : List Char} {r : List (List Char)} (h1 : P.initOrder.toList = L) (h2 : behindMainWord (wordsSigns L) = "cut".toList :: r) : P.make = some .cut := by unfold Program.make; rw [h1, h2]; kernel_rfl
theorem head_make : Try.prog.make = some .cut := by obtain ⟨r, hr⟩ := head_words; exact make_of head_signs hr
theorem head_laidOut : laidOutB Try.prog = true := by kernel_rfl
theorem head_mapsRowed : mapsRowed Try.prog = true := by kernel_rfl
theorem head_stops : (Try.prog.stops == []) = true := by kernel_rfl
theorem head_stopKnobs : (Try.prog.stopKnobs == []) = true := by kernel_rfl
theorem head_plainKeys : Try.prog.plainKeys = true := by kernel_rfl
theorem head_stopsHeard : Try.prog.stopsHeard = true := by kernel_rfl
end Go.Proofs.Ytbfiacnmielajaa.P
namespace Go.Proofs.Ytbfiacnmielajaa.P
open Go.RowKit Go.Proofs.YtbfiacnmielajaaW.PrintWords Go.Proofs.YtbfiacnmielajaaW.PrintLast Go.Proofs.YtbfiacnmielajaaW.PrintMore
set_option linter.unusedVariables false
set_option linter.unusedSimpArgs false
abbrev Lb := S58
abbrev Mt := S42
abbrev Rm := S59
theorem rdR_ (l : List Rm) (i : Nat) (h : i < l.length) : rd_T59 l (i : Int) = l[i] := by unfold rd_T59; simp [List.getD, h]
theorem rdM_ (l : List Mt) (i : Nat) (h : i < l.length) : rd_T42 l (i : Int) = l[i] := by unfold rd_T42; simp [List.getD, h]
theorem rdL_ (l : List Lb) (i : Nat) (h : i < l.length) : rd_T58 l (i : Int) = l[i] := by unfold rd_T58; simp [List.getD, h]
theorem wrS {i : Nat} (h : i < 9000000000000000000) : wrap64 ((i : Int) + 1) = ((i + 1 : Nat) : Int) := by unfold wrap64; omega
def rfL (x : Lb) : Rm := ⟨0, x.f0, x.f1⟩
def rfM (x : Mt) : Rm := ⟨x.f0, x.f1, x.f2⟩
theorem ref_l0 (l : List Lb) (hl : l.length ≤ 3518437208883) : ∀ (d k i : Nat), i + d = l.length → d < k → tidepolelaw30_ref.l0 k ((l.take i).map rfL) l (l.length : Int) (i : Int) = some (l.map rfL) := by
  intro d
  induction d with
  | zero =>
    intro k i hi hk
    obtain ⟨k, rfl⟩ : ∃ m, k = m + 1 := ⟨k - 1, by omega⟩
    simp only [tidepolelaw30_ref.l0]
    rw [if_neg (by omega), List.take_of_length_le (by omega)]
  | succ d ih =>
    intro k i hi hk
    obtain ⟨k, rfl⟩ : ∃ m, k = m + 1 := ⟨k - 1, by omega⟩
    have hlt : i < l.length := by omega
    simp only [tidepolelaw30_ref.l0]
    rw [if_pos (by omega), if_pos (by omega), if_pos (by omega), if_pos (by simp; omega), wrS (by omega), rdL_ l i hlt, ← ih k (i + 1) (by omega) (by omega), List.take_succ_eq_append_getElem hlt, List.map_append]
    rfl
theorem ref_eq (l : List Lb) (hl : l.length ≤ 3518437208883) (k : Nat) (hk : l.length < k) : tidepolelaw30_ref.f k l = some (l.map rfL) := ref_l0 l hl l.length k 0 (by omega) hk
theorem refs_l0 (l : List Mt) (hl : l.length ≤ 3518437208883) : ∀ (d k i : Nat), i + d = l.length → d < k → tidepolelaw30_refs.l0 k ((l.take i).map rfM) l (l.length : Int) (i : Int) = some (l.map rfM) := by
  intro d
  induction d with
  | zero =>
    intro k i hi hk
    obtain ⟨k, rfl⟩ : ∃ m, k = m + 1 := ⟨k - 1, by omega⟩
    simp only [tidepolelaw30_refs.l0]
    rw [if_neg (by omega), List.take_of_length_le (by omega)]
  | succ d ih =>
    intro k i hi hk
    obtain ⟨k, rfl⟩ : ∃ m, k = m + 1 := ⟨k - 1, by omega⟩
    have hlt : i < l.length := by omega
    simp only [tidepolelaw30_refs.l0]
    rw [if_pos (by omega), if_pos (by omega), if_pos (by omega), if_pos (by simp; omega), wrS (by omega), rdM_ l i hlt, ← ih k (i + 1) (by omega) (by omega), List.take_succ_eq_append_getElem hlt, List.map_append]
    rfl
theorem refs_eq (l : List Mt) (hl : l.length ≤ 3518437208883) (k : Nat) (hk : l.length < k) : tidepolelaw30_refs.f k l = some (l.map rfM) := refs_l0 l hl l.length k 0 (by omega) hk
def smB (x : Rm) : Bool := decide (x.f1.size ≤ 100) && decide (x.f2.size ≤ 300)
def smallB (l : List Rm) : Bool := l.all smB && decide (l.length ≤ 30)
theorem small_l0 (l : List Rm) (hl : l.length ≤ 3518437208883) : ∀ (d k i : Nat), i + d = l.length → d < k → tidepolelaw30_small.l0 k l l (l.length : Int) (i : Int) = some ((l.drop i).all smB && decide (l.length ≤ 30)) := by
  intro d
  induction d with
  | zero =>
    intro k i hi hk
    obtain ⟨k, rfl⟩ : ∃ m, k = m + 1 := ⟨k - 1, by omega⟩
    simp only [tidepolelaw30_small.l0]
    rw [if_neg (by omega), List.drop_of_length_le (by omega)]
    simp only [List.all_nil, Bool.true_and]
    congr 1
    exact decide_eq_decide.2 (by omega)
  | succ d ih =>
    intro k i hi hk
    obtain ⟨k, rfl⟩ : ∃ m, k = m + 1 := ⟨k - 1, by omega⟩
    have hlt : i < l.length := by omega
    simp only [tidepolelaw30_small.l0]
    rw [if_pos (by omega), if_pos (by omega), if_pos (by omega), rdR_ l i hlt, wrS (by omega), ih k (i + 1) (by omega) (by omega), List.drop_eq_getElem_cons hlt, List.all_cons]
    generalize l[i] = x
    unfold smB
    by_cases h1 : x.f1.size ≤ 100
    · rw [if_neg (by omega), decide_eq_true h1]
      by_cases h2 : x.f2.size ≤ 300
      · rw [if_neg (by omega), decide_eq_true h2]; rfl
      · rw [if_pos (by omega), decide_eq_false h2]; rfl
    · rw [if_pos (by omega), decide_eq_false h1]; rfl
theorem small_eq (l : List Rm) (hl : l.length ≤ 3518437208883) (k : Nat) (hk : l.length < k) : tidepolelaw30_small.f k l = some (smallB l) := by
  unfold tidepolelaw30_small.f smallB
  rw [show (0 : Int) = ((0 : Nat) : Int) from rfl, small_l0 l hl l.length k 0 (by omega) hk]; rfl
end Go.Proofs.Ytbfiacnmielajaa.P
namespace Go.Proofs.Ytbfiacnmielajaa.P
open Go.RowKit Go.Proofs.YtbfiacnmielajaaW.PrintWords Go.Proofs.YtbfiacnmielajaaW.PrintLast Go.Proofs.YtbfiacnmielajaaW.PrintMore
set_option linter.unusedVariables false
set_option linter.unusedSimpArgs false
def mk (l : List UInt8) : ByteArray := ⟨l.toArray⟩
theorem mk_data (s : ByteArray) : mk s.data.toList = s := ByteArray.ext (by simp [mk])
theorem mk_size (l : List UInt8) : (mk l).size = l.length := by simp [mk, ByteArray.size]
theorem mk_toList (l : List UInt8) : (mk l).toList = l := by rw [Go.ByteArray.toList_eq]; simp [mk]
theorem mk_dtl (l : List UInt8) : (mk l).data.toList = l := by simp [mk]
theorem mk_extract (l : List UInt8) (a b : Nat) : (mk l).extract a b = mk ((l.drop a).take (b - a)) := by
  apply ByteArray.ext
  simp [mk, ByteArray.data_extract, List.extract_eq_take_drop]
theorem pre_take (p l : List UInt8) : (l.take p.length == p) = p.isPrefixOf l := by
  rw [Bool.eq_iff_iff, beq_iff_eq, List.isPrefixOf_iff_prefix, List.prefix_iff_eq_take]
  exact ⟨fun h => h.symm, fun h => h.symm⟩
theorem hp_mk (l p : List UInt8) : strings_HasPrefix.f (mk l) (mk p) = some (p.isPrefixOf l) := by
  unfold strings_HasPrefix.f stringslite_HasPrefix.f
  rw [mk_size, mk_size]
  by_cases h : (l.length : Int) ≥ (p.length : Int)
  · rw [if_pos h, if_pos (by omega), if_pos (by omega), mk_extract, mk_toList, mk_toList]
    simp only [Option.bind_some, Int.toNat_natCast, Nat.sub_zero, List.drop_zero]
    rw [pre_take]
  · rw [if_neg h]
    simp only [Option.bind_some]
    congr 1
    cases hp : p.isPrefixOf l with
    | false => rfl
    | true => have := (List.isPrefixOf_iff_prefix.1 hp).length_le; omega
end Go.Proofs.Ytbfiacnmielajaa.P
namespace Go.Proofs.Ytbfiacnmielajaa.P
open Go.RowKit Go.Proofs.YtbfiacnmielajaaW.PrintWords Go.Proofs.YtbfiacnmielajaaW.PrintLast Go.Proofs.YtbfiacnmielajaaW.PrintMore
set_option linter.unusedVariables false
set_option linter.unusedSimpArgs false
def nums (l : List UInt8) : List Int := l.map fun c => (c.toNat : Int)
end Go.Proofs.Ytbfiacnmielajaa.P
namespace Go.Proofs.Ytbfiacnmielajaa.P
open Go.RowKit Go.Proofs.YtbfiacnmielajaaW.PrintWords Go.Proofs.YtbfiacnmielajaaW.PrintLast Go.Proofs.YtbfiacnmielajaaW.PrintMore
set_option linter.unusedVariables false
set_option linter.unusedSimpArgs false
def bl (s : ByteArray) : List UInt8 := s.data.toList
theorem mk_bl (s : ByteArray) : mk (bl s) = s := mk_data s
theorem bl_size (s : ByteArray) : (bl s).length = s.size := by unfold bl; rw [Array.length_toList]; rfl
end Go.Proofs.Ytbfiacnmielajaa.P
namespace Go.Proofs.Ytbfiacnmielajaa.P
open Go.RowKit Go.Proofs.YtbfiacnmielajaaW.PrintWords Go.Proofs.YtbfiacnmielajaaW.PrintLast Go.Proofs.YtbfiacnmielajaaW.PrintMore
set_option linter.unusedVariables false
set_option linter.unusedSimpArgs false
theorem toList_d (s : ByteArray) : s.toList = s.data.toList := Go.ByteArray.toList_eq s
instance decRm : DecidableEq Rm := fun x y => decidable_of_iff (x.f0 = y.f0 ∧ x.f1 = y.f1 ∧ x.f2 = y.f2) (by
  obtain ⟨a, b, c⟩ := x
  obtain ⟨d, e, g⟩ := y
  simp)
end Go.Proofs.Ytbfiacnmielajaa.P
namespace Go.Proofs.Ytbfiacnmielajaa.P
open Go.RowKit Go.Proofs.YtbfiacnmielajaaW.PrintWords Go.Proofs.YtbfiacnmielajaaW.PrintLast Go.Proofs.YtbfiacnmielajaaW.PrintMore
set_option linter.unusedVariables false
set_option linter.unusedSimpArgs false
theorem small_mem {l : List Rm} (h : smallB l = true) : l.length ≤ 30 ∧ ∀ x ∈ l, x.f1.size ≤ 100 ∧ x.f2.size ≤ 300 := by
  unfold smallB at h
  simp only [Bool.and_eq_true, decide_eq_true_eq, List.all_eq_true] at h
  refine ⟨h.2, fun x hx => ?_⟩
  have := h.1 x hx
  unfold smB at this
  simpa using this
theorem e0 : (⟨#[]⟩ : ByteArray).toList = [] := by rw [Go.ByteArray.toList_eq]
end Go.Proofs.Ytbfiacnmielajaa.P
namespace Go.Proofs.Ytbfiacnmielajaa.P
open Go.RowKit Go.Proofs.YtbfiacnmielajaaW.PrintWords Go.Proofs.YtbfiacnmielajaaW.PrintLast Go.Proofs.YtbfiacnmielajaaW.PrintMore
set_option linter.unusedVariables false
set_option linter.unusedSimpArgs false
theorem refGet_l0 (l : List Lb) (n : ByteArray) (hl : l.length ≤ 1000000) : ∀ (d k i : Nat), i + d = l.length → d < k → tidepoleref30_Get.l0 k (l.map rfL) n (i : Int) = some ((getP (l.drop i) n).1, if (getP (l.drop i) n).2 = true then 1 else 0) := by
  intro d
  induction d with
  | zero =>
    intro k i hi hk
    obtain ⟨k, rfl⟩ : ∃ q, k = q + 1 := ⟨k - 1, by omega⟩
    simp only [tidepoleref30_Get.l0, List.length_map]
    rw [if_neg (by omega), List.drop_of_length_le (by omega)]
    rfl
  | succ d ih =>
    intro k i hi hk
    obtain ⟨k, rfl⟩ : ∃ q, k = q + 1 := ⟨k - 1, by omega⟩
    have hlt : i < l.length := by omega
    simp only [tidepoleref30_Get.l0, List.length_map]
    rw [if_pos (by omega), if_pos (by omega), rdR_ _ i (by simpa using hlt), List.getElem_map, wrS (by omega), ih k (i + 1) (by omega) (by omega), List.drop_eq_getElem_cons hlt]
    generalize l[i] = x
    obtain ⟨a, b⟩ := x
    simp only [rfL, getP]
    by_cases h : a.toList = n.toList
    · simp [h]
    · simp [h]
theorem refGet_eq (l : List Lb) (n : ByteArray) (hl : l.length ≤ 1000000) (k : Nat) (hk : l.length < k) : tidepoleref30_Get.f k (l.map rfL) n = some ((getP l n).1, if (getP l n).2 = true then 1 else 0) := refGet_l0 l n hl l.length k 0 (by omega) hk
theorem begins_eq (s t : ByteArray) (hs : s.size ≤ 1000000) (ht : t.size ≤ 1000000) (i : Nat) (hi : i ≤ s.size) : tidepoleref30_begins.f s t (i : Int) = some (Lib.occAt (bl s) (bl t) i) := by
  have w1 : wrap64 ((s.size : Int) - (i : Int)) = (s.size : Int) - (i : Int) := by unfold wrap64; omega
  have w2 : wrap64 ((i : Int) + (t.size : Int)) = (i : Int) + (t.size : Int) := by unfold wrap64; omega
  unfold tidepoleref30_begins.f
  rw [w1, w2]
  by_cases h : (s.size : Int) - (i : Int) ≥ (t.size : Int)
  · rw [if_pos h, if_pos (by omega), if_pos (by omega), if_pos (by omega)]
    congr 1
    rw [Lib.occAt_iff_take _ _ _ (by rw [bl_size, bl_size]; omega), bl_size, toList_d, toList_d]
    congr 1
    have := mk_extract (bl s) i ((i : Int) + (t.size : Int)).toNat
    rw [mk_bl] at this
    rw [show (i : Int).toNat = i from rfl, this, mk_dtl]
    congr 1
    omega
  · rw [if_neg h]
    congr 1
    cases ho : Lib.occAt (bl s) (bl t) i with
    | false => rfl
    | true =>
      rcases Lib.occAt_room ho with g | g
      · rw [bl_size, bl_size] at g; omega
      · have : (bl t).length = 0 := by rw [g]; rfl
        rw [bl_size] at this; omega
def anyOcc (s t : List UInt8) : Nat → Nat → Bool
  | _, 0 => false
  | j, d + 1 => Lib.occAt s t j || anyOcc s t (j + 1) d
theorem anyOcc_iff (s t : List UInt8) : ∀ (d j : Nat), anyOcc s t j d = true ↔ ∃ i, j ≤ i ∧ i < j + d ∧ Lib.occAt s t i = true := by
  intro d
  induction d with
  | zero => intro j; simp only [anyOcc]; exact ⟨fun h => (by cases h), fun ⟨i, h1, h2, _⟩ => (by omega)⟩
  | succ d ih =>
    intro j
    simp only [anyOcc, Bool.or_eq_true, ih]
    constructor
    · rintro (h | ⟨i, h1, h2, h3⟩)
      · exact ⟨j, by omega, by omega, h⟩
      · exact ⟨i, by omega, by omega, h3⟩
    · rintro ⟨i, h1, h2, h3⟩
      rcases Nat.eq_or_lt_of_le h1 with e | e
      · subst e; exact .inl h3
      · exact .inr ⟨i, by omega, by omega, h3⟩
theorem holds_any (s t : ByteArray) : holdsB s t = anyOcc (bl s) (bl t) 0 (s.size + 1) := by
  rw [Bool.eq_iff_iff, anyOcc_iff]
  unfold holdsB Lib.contains
  rw [decide_eq_true_eq]
  have hb : (bl s).length = s.size := bl_size s
  rcases Lib.index_spec (bl s) (bl t) with ⟨h1, h2⟩ | ⟨i, h1, h2, h3, _⟩
  · have h1' : Lib.index s.data.toList t.data.toList = -1 := h1
    rw [h1']
    constructor
    · intro h; omega
    · rintro ⟨i, _, hi, ho⟩
      rw [h2 i (by omega)] at ho; cases ho
  · have h1' : Lib.index s.data.toList t.data.toList = i := h1
    rw [h1']
    exact ⟨fun _ => ⟨i, by omega, by omega, h3⟩, fun _ => by omega⟩
theorem match_l1 (x0 x1 : List Rm) (x5 : Int) (v t : ByteArray) (hv : v.size ≤ 1000000) (ht : t.size ≤ 1000000) (K : Nat) : ∀ (d j : Nat) (b : Bool), j + d = v.size + 1 →
    tidepoleref30_Match.l1 (K + 1 + d) x0 x1 x5 v t b (j : Int) = if (b || anyOcc (bl v) (bl t) j d) = true then tidepoleref30_Match.l0 K x0 x1 (wrap64 (x5 + 1)) else some false := by
  intro d
  induction d with
  | zero =>
    intro j b hj
    rw [show K + 1 + 0 = K + 1 from rfl]
    simp only [tidepoleref30_Match.l1, anyOcc, Bool.or_false]
    rw [if_neg (by omega)]
  | succ d ih =>
    intro j b hj
    rw [show K + 1 + (d + 1) = (K + 1 + d) + 1 from rfl]
    simp only [tidepoleref30_Match.l1, anyOcc]
    rw [if_pos (by omega), wrS (by omega)]
    cases b with
    | true => rw [if_pos rfl, ih (j + 1) true (by omega)]; simp
    | false =>
      rw [if_neg (by decide), begins_eq v t hv ht j (by omega)]
      simp only [Option.bind_some]
      rw [ih (j + 1) _ (by omega)]
      simp
theorem hpB_occ (v t : ByteArray) : hpB v t = Lib.occAt (bl v) (bl t) 0 := by
  have h := hp_mk (bl v) (bl t)
  rw [mk_bl, mk_bl, hpB_eq] at h
  injection h with h
set_option maxRecDepth 20000 in
theorem match_l0 (l : List Lb) (m : List Mt) (hl : l.length ≤ 1000) (hm : m.length ≤ 1000) (hlv : ∀ x ∈ l, x.f1.size ≤ 1000) (hmv : ∀ x ∈ m, x.f2.size ≤ 1000) : ∀ (d k i : Nat), i + d = m.length → d * 2000 + 1 ≤ k →
    tidepoleref30_Match.l0 k (l.map rfL) (m.map rfM) (i : Int) = some ((m.drop i).all fun x => !(missB l x)) := by
  intro d
  induction d with
  | zero =>
    intro k i hi hk
    obtain ⟨k, rfl⟩ : ∃ q, k = q + 1 := ⟨k - 1, by omega⟩
    simp only [tidepoleref30_Match.l0, List.length_map]
    rw [if_neg (by omega), List.drop_of_length_le (by omega)]
    rfl
  | succ d ih =>
    intro k i hi hk
    have hlt : i < m.length := by omega
    have hg := getP_size m[i].f1 l hlv
    have hx := hmv m[i] (List.getElem_mem hlt)
    have e1 : rd_T59 (m.map rfM) (i : Int) = rfM m[i] := by rw [rdR_ _ _ (by simpa using hlt), List.getElem_map]
    have hlen : ((m.map rfM).length : Int) = (m.length : Int) := by simp
    obtain ⟨K, hK⟩ : ∃ K, k = (K + 1 + ((getP l m[i].f1).1.size + 1)) + 4 := ⟨k - (1 + ((getP l m[i].f1).1.size + 1)) - 4, by omega⟩
    have hrec := ih K (i + 1) (by omega) (by omega)
    have hrec1 := ih (K + 1 + ((getP l m[i].f1).1.size + 1)) (i + 1) (by omega) (by omega)
    have hL := fun b => match_l1 (l.map rfL) (m.map rfM) (i : Int) (getP l m[i].f1).1 m[i].f2 (by omega) (by omega) K ((getP l m[i].f1).1.size + 1) 0 b (by omega)
    rw [wrS (by omega), hrec] at hL
    have h3 : ∀ b, tidepoleref30_Match.j3 (K + 1 + ((getP l m[i].f1).1.size + 1) + 1) (l.map rfL) (m.map rfM) (i : Int) (getP l m[i].f1).1 m[i].f2 b = if m[i].f0 = 3 then (if (b || anyOcc (bl (getP l m[i].f1).1) (bl m[i].f2) 0 ((getP l m[i].f1).1.size + 1)) = true then some ((m.drop (i + 1)).all fun x => !(missB l x)) else some false) else (if b = true then some ((m.drop (i + 1)).all fun x => !(missB l x)) else some false) := by
      intro b
      simp only [tidepoleref30_Match.j3]
      rw [if_pos (by omega), hlen, if_pos (by omega), e1, wrS (by omega), hrec1, ← hL b]
      rfl
    have h2 : ∀ b, tidepoleref30_Match.j2 (K + 1 + ((getP l m[i].f1).1.size + 1) + 2) (l.map rfL) (m.map rfM) (i : Int) (getP l m[i].f1).1 m[i].f2 b = tidepoleref30_Match.j3 (K + 1 + ((getP l m[i].f1).1.size + 1) + 1) (l.map rfL) (m.map rfM) (i : Int) (getP l m[i].f1).1 m[i].f2 (if m[i].f0 = 2 then Lib.occAt (bl (getP l m[i].f1).1) (bl m[i].f2) 0 else b) := by
      intro b
      simp only [tidepoleref30_Match.j2]
      rw [if_pos (by omega), hlen, if_pos (by omega), e1, show (0 : Int) = ((0 : Nat) : Int) from rfl, begins_eq _ _ (by omega) (by omega) 0 (by omega)]
      have e2 : (rfM m[i]).f0 = m[i].f0 := rfl
      rw [e2]
      by_cases h : m[i].f0 = 2
      · rw [if_pos h, if_pos h]; rfl
      · rw [if_neg h, if_neg h]
    have h1 : ∀ b, tidepoleref30_Match.j1 (K + 1 + ((getP l m[i].f1).1.size + 1) + 3) (l.map rfL) (m.map rfM) (i : Int) (getP l m[i].f1).1 m[i].f2 b = tidepoleref30_Match.j2 (K + 1 + ((getP l m[i].f1).1.size + 1) + 2) (l.map rfL) (m.map rfM) (i : Int) (getP l m[i].f1).1 m[i].f2 (if m[i].f0 = 1 then (getP l m[i].f1).1.toList != m[i].f2.toList else b) := by
      intro b
      simp only [tidepoleref30_Match.j1]
      rw [if_pos (by omega), hlen, if_pos (by omega), e1]
      have e2 : (rfM m[i]).f0 = m[i].f0 := rfl
      rw [e2]
      by_cases h : m[i].f0 = 1
      · rw [if_pos h, if_pos h]
      · rw [if_neg h, if_neg h]
    rw [hK]
    simp only [tidepoleref30_Match.l0]
    have e2 : (rfM m[i]).f0 = m[i].f0 := rfl
    have e3 : (rfM m[i]).f1 = m[i].f1 := rfl
    have e4 : (rfM m[i]).f2 = m[i].f2 := rfl
    rw [hlen, if_pos (by omega), if_pos (by omega), e1, e2, e3, e4, refGet_eq l _ (by omega) _ (by omega)]
    simp only [Option.bind_some]
    rw [h1, h1, h2, h2, h3, h3, List.drop_eq_getElem_cons hlt, List.all_cons]
    have hh := holds_any (getP l m[i].f1).1 m[i].f2
    have hp := hpB_occ (getP l m[i].f1).1 m[i].f2
    have he : (!(missB l m[i])) = fitsR m[i].f0 m[i].f2 (getP l m[i].f1).1 := by unfold missB; simp
    have hb : ((getP l m[i].f1).1.toList != m[i].f2.toList) = !((getP l m[i].f1).1.toList == m[i].f2.toList) := rfl
    rw [he, hb]
    unfold fitsR
    rw [hh, hp]
    generalize ((m.drop (i + 1)).all fun x => !(missB l x)) = T
    generalize ((getP l m[i].f1).1.toList == m[i].f2.toList) = E
    generalize Lib.occAt (bl (getP l m[i].f1).1) (bl m[i].f2) 0 = O
    generalize anyOcc (bl (getP l m[i].f1).1) (bl m[i].f2) 0 ((getP l m[i].f1).1.size + 1) = Y
    by_cases k0 : m[i].f0 = 0
    · simp [k0]; cases E <;> simp
    · by_cases k1 : m[i].f0 = 1
      · simp [k1]; cases E <;> simp
      · by_cases k2 : m[i].f0 = 2
        · simp [k2]; cases O <;> simp
        · by_cases k3 : m[i].f0 = 3
          · simp [k3]; cases Y <;> simp
          · simp [k0, k1, k2, k3]
theorem labelsMatches_f (a : List Lb) (b : List Mt) (c : ByteArray) (ha : a.length ≤ 1048576) (hb : b.length ≤ 1048576) : tidepolelaw30_LabelsMatches.f 2000000 a b c = some true := by
  unfold tidepolelaw30_LabelsMatches.f
  rw [ref_eq a (by omega) _ (by omega), refs_eq b (by omega) _ (by omega)]
  simp only [Option.bind_some]
  rw [small_eq _ (by simp; omega) _ (by rw [List.length_map]; omega), small_eq _ (by simp; omega) _ (by rw [List.length_map]; omega)]
  simp only [Option.bind_some]
  rw [show (2000000 : Nat) = 1999999 + 1 from rfl]
  have hT : ∀ x y, tidepolelaw30_LabelsMatches.j0 (1999999 + 1) a b c x y true = some true := by
    intro x y
    simp only [tidepolelaw30_LabelsMatches.j0]; rfl
  cases hs : smallB (a.map rfL) with
  | false => rw [if_neg (by decide)]; exact hT _ _
  | true =>
    rw [if_pos rfl]
    cases hs2 : smallB (b.map rfM) with
    | false => rw [if_neg (by decide)]; exact hT _ _
    | true =>
      obtain ⟨hl, hm⟩ := small_mem hs
      obtain ⟨hl2, hm2⟩ := small_mem hs2
      rw [List.length_map] at hl hl2
      rw [if_pos rfl]
      by_cases hc : (c.size : Int) > 100
      · rw [decide_eq_true hc]; exact hT _ _
      · rw [decide_eq_false hc]
        have h1 : ∀ x ∈ a, x.f1.size ≤ 1000 := fun x hx => by have := (hm (rfL x) (List.mem_map_of_mem hx)).2; have e : (rfL x).f2 = x.f1 := rfl; rw [e] at this; omega
        have h2 : ∀ x ∈ b, x.f2.size ≤ 1000 := fun x hx => by have := (hm2 (rfM x) (List.mem_map_of_mem hx)).2; have e : (rfM x).f2 = x.f2 := rfl; rw [e] at this; omega
        have g1 := get_eq a c (by omega) 1999999 (by omega)
        have g2 := refGet_eq a c (by omega) 1999999 (by omega)
        have g3 : labels_MatchG.f a b = some (matchR a b) := by unfold labels_MatchG.f; rw [if_pos ⟨by omega, h1⟩]
        have g4 : tidepoleref30_Match.f 1999999 (a.map rfL) (b.map rfM) = some (matchR a b) := match_l0 a b (by omega) (by omega) h1 h2 b.length 1999999 0 (by omega) (by omega)
        simp only [tidepolelaw30_LabelsMatches.j0]
        rw [if_neg (by decide), g1, g2]
        simp only [Option.bind_some]
        rw [g3, g4]
        cases (getP a c).2 <;> simp [tidepolelaw30_awake.f]
end Go.Proofs.Ytbfiacnmielajaa.P
namespace Go.Proofs.Ytbfiacnmielajaa.P
set_option linter.unusedVariables false
theorem Pure.LabelsMatches (x0 : List Lb) (x1 : List Mt) (x2 : ByteArray) (w0 : ∀ x ∈ x0, wf58 x) (w1 : ∀ x ∈ x1, wf42 x) (w2 : wfStr x2) (h0 : x0.length ≤ 1048576) (h1 : x1.length ≤ 1048576) : ∃ k, tidepolelaw30_LabelsMatches.f k x0 x1 x2 = some true := ⟨_, labelsMatches_f x0 x1 x2 h0 h1⟩
end Go.Proofs.Ytbfiacnmielajaa.P
namespace Go.Proofs.Ytbfiacnmielajaa.labelsMatches
open Go.ChangeShapes Go.WideShapes Go.ChangeAt Go.RowKit Go.Proofs.Ytbfiacnmielajaa.P Go.Proofs.YtbfiacnmielajaaW.PrintWords
set_option linter.unusedVariables false
theorem own : ownKnob Try.prog.godebug = none := by kernel_rfl
theorem laidOut : laidOutB Try.prog = true := by kernel_rfl
theorem cond_shaped {H : Type} {enc : TypeId × Value → H} {a : Assume} {C : Checked} {os : Os} {f : FuncId} {fn : Func} {s : OpenSpec} {k : (H : Type) → List (DataW H) → Bool} (hk : s.cond = some k) {F : Stop.Interp} {conds : List PathCond} {apart fresh handsOn again : Bool}
    (own : ownKnob C.prog.godebug = none) (started : os.Started) (noInit : C.prog.inits.idxOf? f = none) (hfn : C.prog.funcs[f]? = some fn)
    (witness : ∃ (w : World) (tape : Tape) (i : Input), w.os = os ∧ (w.forCall tape i).Shaped C.prog ∧ i.vars = [] ∧ Input.okWide C.prog (w.forCall tape i) .any w.heap.size f i ∧
      s.pre6 enc C.prog fn conds apart (w.forCall tape i).memory i.args ∧ a.holds C.prog (lone (Frame.enter C.prog f i.args .normal) [] (w.forCall tape i)))
    (contract : ∀ (W : World) (base : Nat) (args : Array Value) (ds gs : List (DataW H)) (before : List MemPlace),
      (∀ (j : Nat) t v, fn.params[j]? = some t → args[j]? = some v → Value.okWide C.prog W .any base t v) →
      DataW.Whole enc C.prog fn.params.toList s.vars apart W args.toList ds gs before → k H (ds ++ gs) = true → W.ShapedOpen C.prog →
      Calls C.prog f args W fun e W' => ∃ v, e = .returned v ∧ (s.at F).post enc C.prog fn apart fresh handsOn again W args v W') :
    ReturnsInHanded a C os f .any (s.pre6 enc C.prog fn conds apart) ((s.at F).post enc C.prog fn apart fresh handsOn again) := by
  refine returnsInHanded_of_calls own started noInit witness ?_
  intro w tape i _ hs _ hok hpre _
  obtain ⟨_, _, _, fn', hfn', _, _, _, _, hval⟩ := hok
  obtain rfl : fn' = fn := Option.some.inj (hfn'.symm.trans hfn)
  obtain ⟨ds, gs, before, hw, _, hkk⟩ := (OpenSpec.pre_some hk conds apart _ _).1 hpre.1
  refine (contract _ w.heap.size i.args ds gs before hval (DataW.Whole.of_heap (w' := w.forCall tape i) (by rfl) hw) hkk hs).mono fun e W' ⟨v, he, hp⟩ => ?_
  subst he
  exact ChangeSpec.post_blind hp
theorem bulk_pos {H : Type} (d : DataW H) : 1 ≤ Rows.uptoBulk d := by
  cases d with
  | lit l => cases l <;> simp [Rows.uptoBulk]
  | _ => simp [Rows.uptoBulk]
theorem bulk_len {H : Type} : ∀ l : List (DataW H), l.length ≤ Rows.uptoBulkAll l
  | [] => Nat.le_refl _
  | d :: l => by have h1 := bulk_pos d; have h2 := bulk_len l; simp only [Rows.uptoBulkAll, List.length_cons]; omega
theorem len_upto {H : Type} {enc : TypeId × Value → H} {P : Program} {w : World} {base : Nat} {sp : Nat → Bool} {held : Bool} {fuel : Nat} {t e : TypeId} {A : Option Addr} {n c : Nat} {x : DataW H × List MemPlace} (ht : P.underlying t = some (.slice e)) (h : DataW.trod enc P w base sp held fuel t [.slice A n c] = some x) : n ≤ Rows.uptoBulk x.1 := by
  rcases DataW.trod_slice ht h with ⟨e1, _⟩ | ⟨a, len, cap, el, re, m, _, e1, e2, _, _, _, hl, _⟩
  · injection e1 with e1 _; injection e1 with _ e1 _; omega
  · injection e1 with e1 _; injection e1 with _ e1 _
    have := bulk_len (el.map (·.1))
    rw [e2]
    simp only [Rows.uptoBulk, List.length_map] at *
    omega
set_option maxRecDepth 100000 in
set_option maxHeartbeats 4000000 in
theorem wit (os : Os) {H : Type} (enc : TypeId × Value → H) : ∃ x, DataW.whole enc Try.prog (World.plainHolding Try.prog os ⟨#[], #[.slice none 0 0, .slice none 0 0, .string ByteArray.empty], []⟩).memory Try.f5.params.toList (Rows.OpenSpec.upto Rows.labelsMatchesSpec).vars false (#[.slice none 0 0, .slice none 0 0, .string ByteArray.empty] : Array Value).toList 8 = some x ∧ Rows.uptoSmall H (x.1 ++ x.2.1) = true := by
  have hw : (DataW.whole enc Try.prog (World.plainHolding Try.prog os ⟨#[], #[.slice none 0 0, .slice none 0 0, .string ByteArray.empty], []⟩).memory Try.f5.params.toList (Rows.OpenSpec.upto Rows.labelsMatchesSpec).vars false (#[.slice none 0 0, .slice none 0 0, .string ByteArray.empty] : Array Value).toList 8).map (fun x => Rows.uptoSmall H (x.1 ++ x.2.1)) = some true := by kernel_rfl
  obtain ⟨x, hx, h1⟩ := Option.map_eq_some_iff.1 hw
  exact ⟨x, hx, h1⟩
set_option maxRecDepth 100000 in
set_option maxHeartbeats 4000000 in
theorem lifted (os : Os) (started : os.Started) (H : Type) (enc : TypeId × Value → H) (F : Stop.Interp) :
    ReturnsInHanded {} Try.checked os 5 .any ((Rows.OpenSpec.upto Rows.labelsMatchesSpec).pre6 enc Try.prog Try.f5 Rows.labelsMatchesUptoRow.domain false) (((Rows.OpenSpec.upto Rows.labelsMatchesSpec).at F).post enc Try.prog Try.f5 false true false false) := by
  obtain ⟨x, hx, hk⟩ := wit os enc
  refine cond_shaped (C := Try.checked) (s := (Rows.OpenSpec.upto Rows.labelsMatchesSpec)) (k := Rows.uptoSmall) rfl own started (by kernel_rfl) Try.func5
    (OpenSpec.witness (enc := enc) (C := Try.checked) (s := (Rows.OpenSpec.upto Rows.labelsMatchesSpec)) (k := Rows.uptoSmall) rfl false ⟨#[], #[.slice none 0 0, .slice none 0 0, .string ByteArray.empty], []⟩ 8 (by kernel_rfl) (by kernel_rfl) (by kernel_rfl) hx (by rfl) hk) ?_
  intro W base args ds gs before hval0 hW hbulk hsh
  have hval : ∀ (j : Nat) t v, Try.f5.params[j]? = some t → args[j]? = some v → Value.okWide Try.prog W .any base t v := hval0
  have hW' := hW
  obtain ⟨p, q, hA0, hV, rfl, hfz, hnd⟩ := hW
  have hA : DataW.TrodAll enc Try.prog W 0 (fun _ => true) true Try.f5.params.toList args.toList ds p := hA0
  rw [Try.params5] at hA hval
  obtain ⟨v0, vs0, d0, ds0, p0, q0, hargs, rfl, rfl, h0, r0⟩ := trodAll_cons hA
  obtain ⟨v1, vs1, d1, ds1, p1, q1, rfl, rfl, rfl, h1, r1⟩ := trodAll_cons r0
  obtain ⟨v2, vs2, d2, ds2, p2, q2, rfl, rfl, rfl, h2, r2⟩ := trodAll_cons r1
  obtain ⟨rfl, rfl, rfl⟩ := trodAll_nil r2
  obtain rfl : args = #[v0, v1, v2] := by cases args; simp_all
  obtain ⟨rfl, rfl⟩ := trodVars_none hV
  have k0 := h0
  have lt0 : ∀ x ∈ p0, x.block < W.heap.size := by obtain ⟨m, hm⟩ := k0; exact DataW.trod_lt m _ _ _ hm
  obtain ⟨fu0, hf0⟩ := h0
  obtain ⟨x0, hK0, w0⟩ := (opens_slice (d := k58) Try.underlying22 (by kernel_rfl) opens58) enc W 0 _ true fu0 _ _ hf0
  obtain ⟨va0, vl0, vc0, rfl⟩ := okWide_slice Try.underlying22 (hval 0 22 v0 rfl rfl)
  obtain ⟨A0, c0, he0, h0_l, hC0⟩ := hK0
  simp [Value.cells] at he0
  obtain ⟨rfl, rfl, rfl⟩ := he0
  have k1 := h1
  have lt1 : ∀ x ∈ p1, x.block < W.heap.size := by obtain ⟨m, hm⟩ := k1; exact DataW.trod_lt m _ _ _ hm
  obtain ⟨fu1, hf1⟩ := h1
  obtain ⟨x1, hK1, w1⟩ := (opens_slice (d := k42) Try.underlying37 (by kernel_rfl) opens42) enc W 0 _ true fu1 _ _ hf1
  obtain ⟨va1, vl1, vc1, rfl⟩ := okWide_slice Try.underlying37 (hval 1 37 v1 rfl rfl)
  obtain ⟨A1, c1, he1, h1_l, hC1⟩ := hK1
  simp [Value.cells] at he1
  obtain ⟨rfl, rfl, rfl⟩ := he1
  obtain ⟨a2, rfl, rfl, rfl, w2⟩ := Go.ChangeMaps.open_string Try.underlying9 (hval 2 9 v2 rfl rfl) h2
  clear hA0 hval0
  have hbk := of_decide_eq_true (show decide (Rows.uptoBulkAll _ ≤ 1048576) = true from hbulk)
  rw [List.append_nil] at hbk
  simp only [Rows.uptoBulkAll] at hbk
  have hl0 := len_upto Try.underlying22 hf0
  have hl1 := len_upto Try.underlying37 hf1
  obtain ⟨k, hk_⟩ := Pure.LabelsMatches x0 x1 a2 w0 w1 w2 (Nat.le_trans (show _ ≤ Rows.uptoBulk d0 from hl0) (by omega)) (Nat.le_trans (show _ ≤ Rows.uptoBulk d1 from hl1) (by omega))
  refine (P.tidepolelaw30_LabelsMatches.calls k va0 vc0 x0 va1 vc1 x1 a2 true W (Go.Proofs.cell_of_shapedOpen_int (P := Try.prog) (g := 0) (t := 3) (zero := #[.int .i64 0]) hsh (of_decide_eq_true (by kernel_rfl)) (by kernel_rfl) rfl (by kernel_rfl) (by kernel_rfl) Try.underlying3) hC0 h0_l hC1 h1_l hk_).mono fun e W' ⟨he, bel⟩ => ?_
  subst he
  exact ⟨_, rfl, _, _, _, [], _, [], hW', trodAll_mk1 (shut_bool Try.underlying4 _), (trodAll_cons_mk (Below.trod laidOut (by kernel_rfl) (of_decide_eq_true (by kernel_rfl)) k0 bel lt0) (trodAll_cons_mk (Below.trod laidOut (by kernel_rfl) (of_decide_eq_true (by kernel_rfl)) k1 bel lt1) (trodAll_cons_mk (Go.ChangeMaps.shut_string Try.underlying9 w2) trodAll_mk0))), rfl, bel.frame _, fun h => by cases h⟩
theorem cf0 : (Rows.labelsMatchesUptoRow.wf (Rows.OpenSpec.upto Rows.labelsMatchesSpec)) = true := by kernel_rfl
theorem cf1 : (laidOutB Try.prog) = true := P.head_laidOut
theorem cf2 : (mapsRowed Try.prog) = true := P.head_mapsRowed
theorem cf3 : (Try.f5.params.all (Try.prog.readableRec ·)) = true := by kernel_rfl
theorem cf4 : (namedTie Try.prog Rows.labelsMatchesUptoRow.named Rows.labelsMatchesSpec.vars) = true := by kernel_rfl
theorem cf5 : ((Rows.labelsMatchesUptoRow.stops == [])) = true := by kernel_rfl
theorem cf6 : ((Try.prog.stops == [])) = true := P.head_stops
theorem cf7 : ((Rows.labelsMatchesUptoRow.knobs == [])) = true := by kernel_rfl
theorem cf8 : ((Try.prog.stopKnobs == [])) = true := P.head_stopKnobs
theorem cf9 : ((Rows.labelsMatchesUptoRow.inPlace == Try.prog.inPlace 5)) = true := by kernel_rfl
theorem cf10 : ((Rows.labelsMatchesUptoRow.unfollowed == Try.prog.unfollowed 5)) = true := by kernel_rfl
theorem cf11 : ((Rows.labelsMatchesUptoRow.recurses == Try.prog.recurses 5)) = true := by kernel_rfl
theorem cf12 : ((Rows.labelsMatchesUptoRow.named == Try.prog.varsNamed 5)) = true := by kernel_rfl
theorem cf13 : ((Rows.labelsMatchesUptoRow.maps == (Try.f5.params.toList ++ Rows.labelsMatchesSpec.plain.varTypes Try.prog).any (Try.prog.mapsRec ·))) = true := by kernel_rfl
theorem cf14 : ((Rows.labelsMatchesUptoRow.ifaces == (Try.f5.params.toList ++ Rows.labelsMatchesSpec.plain.varTypes Try.prog).any (Try.prog.ifacesRec ·))) = true := by kernel_rfl
theorem cf15 : ((Rows.labelsMatchesUptoRow.mapsOut == Try.prog.mapsAmong Try.f5.resultTypes.toList)) = true := by kernel_rfl
theorem cf16 : ((Rows.labelsMatchesUptoRow.loops == (Try.f5.params.toList ++ Rows.labelsMatchesSpec.plain.varTypes Try.prog).any (Try.prog.loopsFrom ·))) = true := by kernel_rfl
theorem cf17 : ((Rows.labelsMatchesUptoRow.wideKeys == (Try.f5.params.toList ++ Rows.labelsMatchesSpec.plain.varTypes Try.prog ++ Try.f5.resultTypes.toList).any (Try.prog.wideKeysFrom ·))) = true := by kernel_rfl
theorem cf18 : (Rows.labelsMatchesSpec.vars.all (Try.prog.varReadable ·)) = true := by kernel_rfl
theorem cf19 : (Try.f5.resultTypes.all (fun t => Try.prog.readableRec t && decide (t < Try.prog.types.size))) = true := by kernel_rfl
theorem cf20 : ((Rows.labelsMatchesUptoRow.ifacesOut == Try.f5.resultTypes.toList.any (Try.prog.ifacesRec ·))) = true := by kernel_rfl
theorem cf21 : ((Rows.labelsMatchesUptoRow.loopsOut == Try.f5.resultTypes.toList.any (Try.prog.loopsFrom ·))) = true := by kernel_rfl
theorem cf22 : ((Rows.labelsMatchesUptoRow.plainKeys == Try.prog.plainKeys)) = true := by rw [P.head_plainKeys]; kernel_rfl
theorem cf23 : (Rows.labelsMatchesUptoRow.shortTexts.isNone) = true := by kernel_rfl
theorem cf24 : (Try.prog.stopsHeard) = true := P.head_stopsHeard
theorem cf25 : (Try.prog.mayEnter) = true := P.head_mayEnter
theorem cf26 : ((Rows.labelsMatchesUptoRow.lifted == Try.prog.liftsFinal)) = true := by rw [P.head_liftsFinal]; kernel_rfl
theorem cf27 : ((Try.prog.make == some Rows.labelsMatchesUptoRow.make)) = true := by rw [P.head_make]; kernel_rfl
theorem cf28 : ((Rows.labelsMatchesUptoRow.kinds == (if Rows.labelsMatchesUptoRow.domain.isEmpty then [] else Try.f5.params.toList.map fun t => match Try.prog.underlying t with | some (.int k) => some k | _ => none))) = true := by kernel_rfl
theorem cf29 : ((Rows.labelsMatchesUptoRow.pinned == Rows.labelsMatchesUptoRow.pinnedBy)) = true := by kernel_rfl
theorem cf30 : ((Rows.labelsMatchesUptoRow.veiled == (Try.f5.params.toList ++ Rows.labelsMatchesSpec.plain.varTypes Try.prog ++ Try.f5.resultTypes.toList).any (Try.prog.veiledRec ·))) = true := by kernel_rfl
theorem cf31 : (Rows.labelsMatchesUptoRow.veiledFits Try.prog Try.f5.params.toList (Try.f5.params.toList ++ Rows.labelsMatchesSpec.plain.varTypes Try.prog ++ Try.f5.resultTypes.toList)) = true := by kernel_rfl
theorem band_mk {a b : Bool} (h : a = true) (k : b = true) : (a && b) = true := by rw [h, k]; rfl
theorem closed : joinedFacts Try.prog 5 Try.f5 (Rows.OpenSpec.upto Rows.labelsMatchesSpec).bare Rows.labelsMatchesUptoRow = true := by unfold joinedFacts; exact (band_mk (band_mk (band_mk (band_mk (band_mk (band_mk (band_mk (band_mk (band_mk (band_mk (band_mk (band_mk (band_mk (band_mk (band_mk (band_mk (band_mk (band_mk (band_mk (band_mk (band_mk (band_mk (band_mk (band_mk (band_mk (band_mk (band_mk (band_mk (band_mk (band_mk (band_mk cf0 cf1) cf2) cf3) cf4) cf5) cf6) cf7) cf8) cf9) cf10) cf11) cf12) cf13) cf14) cf15) cf16) cf17) cf18) cf19) cf20) cf21) cf22) cf23) cf24) cf25) cf26) cf27) (by kernel_rfl)) cf29) cf30) cf31)
theorem over : Rows.labelsMatchesUptoRow.holds Try.pinned (Rows.OpenSpec.upto Rows.labelsMatchesSpec) :=
  OpenClaim.holds_of_cond 5 Try.f5 rfl rfl rfl rfl rfl rfl rfl ⟨rfl, rfl, rfl, rfl, rfl⟩ rfl rfl rfl rfl rfl (by kernel_rfl) Try.func5 closed
    (of_decide_eq_true (by kernel_rfl)) (by unfold Func.isWrapper; first | (rw [if_pos (by decide +kernel)]; kernel_rfl) | (rw [if_neg (by decide +kernel)]; exact ⟨rfl, rfl⟩))
    (fun os started H enc _ F => by rw [OpenClaim.pre_of_none' rfl]; exact lifted os started H enc F)
theorem proved : Rows.LabelsMatchesUptoSaid := over
#print axioms proved
end Go.Proofs.Ytbfiacnmielajaa.labelsMatches
namespace Go.Proofs.Ytbfiacnmielajaa
theorem labelsMatches_holds : Rows.LabelsMatchesUptoSaid := labelsMatches.proved
end Go.Proofs.Ytbfiacnmielajaa
